/-
  The document's limbo: its contracts, told of the program's limbo: what is in an empty bucket's tag does not count.
-/
import Derived.Test.YtnbkjcmmjgkdaaaGreatLiF
import Derived.Test.YtnbkjcmmjgkdaaaGreatLiG
import Derived.Test.YtnbkjcmmjgkdaaaGreatSlN
set_option linter.unusedVariables false
set_option linter.unusedSimpArgs false
namespace Go.Proofs.YtnbkjcmmjgkdaaaGreat
open Go
attribute [local irreducible] Sx Cx Rx Fx Krg Ksq Kbl Klp Kr

/-- Tags of full buckets are what they are; the last tag. -/
structure RTag (m : Lm) (u0 u1 u2 l : Int) : Prop where
  h0 : m.x0 ≠ [] → u0 = m.t0
  h1 : m.x1 ≠ [] → u1 = m.t1
  h2 : m.x2 ≠ [] → u2 = m.t2
  hl : l = m.last ∨ (l = -1 ∧ m.last = 0)
section
variable {L F : St}
def refL (T : TypeId) (m : Lm) (a : Option Addr) (y : ((Option Addr × Nat) × (Option Addr × Nat) × (Option Addr × Nat)) × (Int × Int × Int × Int)) : St :=
    [lift (RTag m y.2.1 y.2.2.1 y.2.2.2.1 y.2.2.2.2), pt a (Blk T [.int .i64 y.2.1, .int .i64 y.2.2.1, .int .i64 y.2.2.2.1, .slice y.1.1.1 m.x0.length y.1.1.2, .slice y.1.2.1.1 m.x1.length y.1.2.1.2, .slice y.1.2.2.1 m.x2.length y.1.2.2.2, .int .i64 y.2.2.2.2]),
     pt y.1.1.1 (Row 3 1 m.x0.length y.1.1.2 (ints m.x0)), pt y.1.2.1.1 (Row 3 1 m.x1.length y.1.2.1.2 (ints m.x1)), pt y.1.2.2.1 (Row 3 1 m.x2.length y.1.2.2.2 (ints m.x2))]
def RLimboT (T : TypeId) (m : Lm) (a : Option Addr) : As := exs (refL T m a)
abbrev RLimboO := RLimboT 181
theorem RLimboO.close {T : TypeId} {a r0 r1 r2 : Option Addr} {c0 c1 c2 n0 n1 n2 : Nat} {u0 u1 u2 l : Int} {v0 v1 v2 v3 : Value} {w0 w1 w2 : List Value} {F F0 F1 G : St} (m : Lm) (hT : RTag m u0 u1 u2 l)
    [t : Take L a (Blk T [v0, v1, v2, .slice r0 n0 c0, .slice r1 n1 c1, .slice r2 n2 c2, v3]) F] [q0 : Take F r0 (Row 3 1 n0 c0 w0) F0] [q1 : Take F0 r1 (Row 3 1 n1 c1 w1) F1] [q2 : Take F1 r2 (Row 3 1 n2 c2 w2) G]
    (h0 : v0 = .int .i64 u0) (h1 : v1 = .int .i64 u1) (h2 : v2 = .int .i64 u2) (h3 : v3 = .int .i64 l) (e0 : n0 = m.x0.length) (e1 : n1 = m.x1.length) (e2 : n2 = m.x2.length)
    (g0 : w0 = ints m.x0) (g1 : w1 = ints m.x1) (g2 : w2 = ints m.x2) : Ent L (pt a (RLimboT T m) :: G) := by
  subst h0; subst h1; subst h2; subst h3; subst e0; subst e1; subst e2; subst g0; subst g1; subst g2
  refine Ent.trans (Ent.take1 (t := t) (Ent.trans (Ent.of q0.out) (Ent.cons (Ent.trans (Ent.of q1.out) (Ent.cons (Ent.of q2.out)))))) ?_
  refine Ent.trans (Ent.lift hT (Ent.refl _)) ?_
  exact Ent.close (f := refL T m a) rfl (((r0, c0), (r1, c1), (r2, c2)), (u0, u1, u2, l))
theorem RTag.nil : RTag Lm.nil 0 0 0 (-1) := ⟨fun h => absurd rfl h, fun h => absurd rfl h, fun h => absurd rfl h, .inr ⟨rfl, rfl⟩⟩

theorem refLimboNew : Fx Tryz.prog 133 [] L (fun v L' => ∃ g, v = .pointer (some ⟨g, 0, none⟩) ∧ L' = pt (some ⟨g, 0, none⟩) (RLimboO Lm.nil) :: L) := by
  refine Fx.mk Tryz.func133 k133 (Nat.le_of_ble_eq_true rfl) ?_
  dsimp only [c133, envOf, Nat.reduceAdd]
  repeat' (first|refine Zo0 rfl ?_|refine Zo1 ?_|refine Zo2 ?_|refine Zo3 ?_|refine Zo4 ?_|refine Zo5 ?_|refine Zo6 ?_|refine Zo7 ?_|refine Zo8 rfl ?_|refine Zo9 rfl ?_|refine Zoa ?_|refine Zob ?_|refine Zoc ?_|refine Zod ?_|refine Zoe ?_|refine Zof ?_|refine Zog ?_|refine Zoh ?_|refine Zoi rfl ?_|refine Zoj rfl ?_|refine Zok rfl ?_|refine Zol rfl ?_|refine Zom rfl (by rfl) ?_|refine Zon rfl rfl ?_|refine Zoo rfl rfl rfl rfl (by rfl) (by rfl) ?_|refine Zop rfl trivial ?_|refine Zoq rfl rfl rfl ?_)
  refine Sx.bx rfl rfl fun g => ?_
  repeat' (first|refine Zo0 rfl ?_|refine Zo1 ?_|refine Zo2 ?_|refine Zo3 ?_|refine Zo4 ?_|refine Zo5 ?_|refine Zo6 ?_|refine Zo7 ?_|refine Zo8 rfl ?_|refine Zo9 rfl ?_|refine Zoa ?_|refine Zob ?_|refine Zoc ?_|refine Zod ?_|refine Zoe ?_|refine Zof ?_|refine Zog ?_|refine Zoh ?_|refine Zoi rfl ?_|refine Zoj rfl ?_|refine Zok rfl ?_|refine Zol rfl ?_|refine Zom rfl (by rfl) ?_|refine Zon rfl rfl ?_|refine Zoo rfl rfl rfl rfl (by rfl) (by rfl) ?_|refine Zop rfl trivial ?_|refine Zoq rfl rfl rfl ?_)
  refine Kr.one (.inr rfl) rfl ?_ ⟨g, rfl, rfl⟩
  refine Ent.trans (Ent.rownil 3 1) (Ent.trans (Ent.rownil 3 1) (Ent.trans (Ent.rownil 3 1) ?_))
  exact RLimboO.close (a := some ⟨g, 0, none⟩) (r0 := none) (r1 := none) (r2 := none) Lm.nil RTag.nil rfl rfl rfl rfl rfl rfl rfl rfl rfl rfl

/-- The least bucket as the document numbers it. -/
def leastI (o : Option Nat) : Int := match o with | none => -1 | some j => j
set_option maxHeartbeats 4000000 in
theorem refLeast {b : Nat} {m : Lm} {now : Int} {F : St} [t : Take L (some ⟨b, 0, none⟩) (RLimboO m) F] (h2 : 2 ≤ now) (h3 : now ≤ 9223372036854775807) :
    Fx Tryz.prog 181 [.pointer (some ⟨b, 0, none⟩), .int .i64 now] L (fun v L' => v = .int .i64 (leastI (leastUp now m 3)) ∧ L = L') := by
  refine Fx.kept (t := t) ?_
  refine Fx.mk Tryz.func181 k181 (Nat.le_of_ble_eq_true rfl) ?_
  dsimp only [c181, envOf, Nat.reduceAdd]
  refine Cx.openp (t := t) rfl ?_
  rintro ⟨⟨⟨r0, c0⟩, ⟨r1, c1⟩, ⟨r2, c2⟩⟩, ⟨u0, u1, u2, l⟩⟩
  simp only [refL, List.cons_append, List.nil_append]
  refine Cx.liftp fun hT => ?_
  repeat' (first|refine Zo0 rfl ?_|refine Zo1 ?_|refine Zo2 ?_|refine Zo3 ?_|refine Zo4 ?_|refine Zo5 ?_|refine Zo6 ?_|refine Zo7 ?_|refine Zo8 rfl ?_|refine Zo9 rfl ?_|refine Zoa ?_|refine Zob ?_|refine Zoc ?_|refine Zod ?_|refine Zoe ?_|refine Zof ?_|refine Zog ?_|refine Zoh ?_|refine Zoi rfl ?_|refine Zoj rfl ?_|refine Zok rfl ?_|refine Zol rfl ?_|refine Zom rfl (by rfl) ?_|refine Zon rfl rfl ?_|refine Zoo rfl rfl rfl rfl (by rfl) (by rfl) ?_|refine Zop rfl trivial ?_|refine Zoq rfl rfl rfl ?_)
  refine Cx.lp (α := {k : Nat // k ≤ 3}) (fun k => [(0, .pointer (some ⟨b, 0, none⟩)), (1, .int .i64 now), (5, .int .i64 (leastI (leastUp now m k.1))), (6, .int .i64 k.1)]) (fun _ => _) (fun k => 3 - k.1) ⟨0, by omega⟩
    (sub.cons rfl (sub.cons rfl (sub.cons rfl (sub.cons rfl sub.nil)))) (Ent.refl _) ?_
  rintro ⟨k, hk⟩
  dsimp only
  have hst : ∀ {k : Nat} {v : Int}, leastI (leastUp now m (k + 1)) = v → some (Value.int .i64 v) = some (Value.int .i64 (leastI (leastUp now m (k + 1)))) := fun h => by rw [h]
  rcases (show k = 0 ∨ k = 1 ∨ k = 2 ∨ k = 3 by omega) with rfl | rfl | rfl | rfl
  · repeat' (first|refine Zo0 rfl ?_|refine Zo1 ?_|refine Zo2 ?_|refine Zo3 ?_|refine Zo4 ?_|refine Zo5 ?_|refine Zo6 ?_|refine Zo7 ?_|refine Zo8 rfl ?_|refine Zo9 rfl ?_|refine Zoa ?_|refine Zob ?_|refine Zoc ?_|refine Zod ?_|refine Zoe ?_|refine Zof ?_|refine Zog ?_|refine Zoh ?_|refine Zoi rfl ?_|refine Zoj rfl ?_|refine Zok rfl ?_|refine Zol rfl ?_|refine Zom rfl (by rfl) ?_|refine Zon rfl rfl ?_|refine Zoo rfl rfl rfl rfl (by rfl) (by rfl) ?_|refine Zop rfl trivial ?_|refine Zoq rfl rfl rfl ?_)
    refine Cx.ordc rfl (by kernel_rfl) ?_
    repeat' (first|refine Ze0 0 rfl (by kernel_rfl) ?_|refine Ze1 (by kernel_rfl) rfl rfl ?_|refine Ze2 ?_|refine Ze3 ?_|refine Ze4 (by kernel_rfl) rfl rfl (by rfl) ?_|refine Ze5 (by kernel_rfl) rfl rfl rfl ?_|refine Ev.pvH (by kernel_rfl) rfl rfl ⟨by omega, by omega⟩ ?_|refine Ev.pvH (by kernel_rfl) rfl rfl (by decide) ?_|fail)
    by_cases hx : m.x0 = []
    · have ho : m.open_ now 0 = false := by simp [Lm.open_, openM, Lm.items, hx]
      refine Ev.no 19 rfl (decide_eq_false (by rw [hx]; decide)) ?_
      repeat' (first|refine Ze0 0 rfl (by kernel_rfl) ?_|refine Ze1 (by kernel_rfl) rfl rfl ?_|refine Ze2 ?_|refine Ze3 ?_|refine Ze4 (by kernel_rfl) rfl rfl (by rfl) ?_|refine Ze5 (by kernel_rfl) rfl rfl rfl ?_|refine Ev.pvH (by kernel_rfl) rfl rfl ⟨by omega, by omega⟩ ?_|refine Ev.pvH (by kernel_rfl) rfl rfl (by decide) ?_|fail)
      repeat' (first|refine Zo0 rfl ?_|refine Zo1 ?_|refine Zo2 ?_|refine Zo3 ?_|refine Zo4 ?_|refine Zo5 ?_|refine Zo6 ?_|refine Zo7 ?_|refine Zo8 rfl ?_|refine Zo9 rfl ?_|refine Zoa ?_|refine Zob ?_|refine Zoc ?_|refine Zod ?_|refine Zoe ?_|refine Zof ?_|refine Zog ?_|refine Zoh ?_|refine Zoi rfl ?_|refine Zoj rfl ?_|refine Zok rfl ?_|refine Zol rfl ?_|refine Zom rfl (by rfl) ?_|refine Zon rfl rfl ?_|refine Zoo rfl rfl rfl rfl (by rfl) (by rfl) ?_|refine Zop rfl trivial ?_|refine Zoq rfl rfl rfl ?_)
      exact Klp.nm ⟨0 + 1, by omega⟩ (sub.cons rfl (sub.cons rfl (sub.cons (Eq.trans rfl (hst (congrArg leastI (leastUp_no ho)))) (sub.cons rfl sub.nil)))) (Ent.refl _) (by simp)
    · have hu := hT.h0 hx
      have hp := List.length_pos_iff.2 hx
      refine Ev.yes 19 rfl (decide_eq_true (by omega)) ?_
      repeat' (first|refine Ze0 0 rfl (by kernel_rfl) ?_|refine Ze1 (by kernel_rfl) rfl rfl ?_|refine Ze2 ?_|refine Ze3 ?_|refine Ze4 (by kernel_rfl) rfl rfl (by rfl) ?_|refine Ze5 (by kernel_rfl) rfl rfl rfl ?_|refine Ev.pvH (by kernel_rfl) rfl rfl ⟨by omega, by omega⟩ ?_|refine Ev.pvH (by kernel_rfl) rfl rfl (by decide) ?_|fail)
      rw [w64 (n := now - 2) (by omega) (by omega)]
      by_cases h4 : m.t0 ≤ now - 2
      · have ho : m.open_ now 0 = true := by simp [Lm.open_, openM, Lm.items, Lm.tag]; exact ⟨hp, h4⟩
        refine Ev.yes 30 rfl (decide_eq_true (by omega)) ?_
        repeat' (first|refine Ze0 0 rfl (by kernel_rfl) ?_|refine Ze1 (by kernel_rfl) rfl rfl ?_|refine Ze2 ?_|refine Ze3 ?_|refine Ze4 (by kernel_rfl) rfl rfl (by rfl) ?_|refine Ze5 (by kernel_rfl) rfl rfl rfl ?_|refine Ev.pvH (by kernel_rfl) rfl rfl ⟨by omega, by omega⟩ ?_|refine Ev.pvH (by kernel_rfl) rfl rfl (by decide) ?_|fail)
        repeat' (first|refine Zo0 rfl ?_|refine Zo1 ?_|refine Zo2 ?_|refine Zo3 ?_|refine Zo4 ?_|refine Zo5 ?_|refine Zo6 ?_|refine Zo7 ?_|refine Zo8 rfl ?_|refine Zo9 rfl ?_|refine Zoa ?_|refine Zob ?_|refine Zoc ?_|refine Zod ?_|refine Zoe ?_|refine Zof ?_|refine Zog ?_|refine Zoh ?_|refine Zoi rfl ?_|refine Zoj rfl ?_|refine Zok rfl ?_|refine Zol rfl ?_|refine Zom rfl (by rfl) ?_|refine Zon rfl rfl ?_|refine Zoo rfl rfl rfl rfl (by rfl) (by rfl) ?_|refine Zop rfl trivial ?_|refine Zoq rfl rfl rfl ?_)
        exact Klp.nm ⟨0 + 1, by omega⟩ (sub.cons rfl (sub.cons rfl (sub.cons (Eq.trans rfl (hst (congrArg leastI (leastUp_first ho rfl)))) (sub.cons rfl sub.nil)))) (Ent.refl _) (by simp)
      · have ho : m.open_ now 0 = false := by simp [Lm.open_, openM, Lm.items, Lm.tag]; intro _; omega
        refine Ev.no 30 rfl (decide_eq_false (by omega)) ?_
        repeat' (first|refine Ze0 0 rfl (by kernel_rfl) ?_|refine Ze1 (by kernel_rfl) rfl rfl ?_|refine Ze2 ?_|refine Ze3 ?_|refine Ze4 (by kernel_rfl) rfl rfl (by rfl) ?_|refine Ze5 (by kernel_rfl) rfl rfl rfl ?_|refine Ev.pvH (by kernel_rfl) rfl rfl ⟨by omega, by omega⟩ ?_|refine Ev.pvH (by kernel_rfl) rfl rfl (by decide) ?_|fail)
        repeat' (first|refine Zo0 rfl ?_|refine Zo1 ?_|refine Zo2 ?_|refine Zo3 ?_|refine Zo4 ?_|refine Zo5 ?_|refine Zo6 ?_|refine Zo7 ?_|refine Zo8 rfl ?_|refine Zo9 rfl ?_|refine Zoa ?_|refine Zob ?_|refine Zoc ?_|refine Zod ?_|refine Zoe ?_|refine Zof ?_|refine Zog ?_|refine Zoh ?_|refine Zoi rfl ?_|refine Zoj rfl ?_|refine Zok rfl ?_|refine Zol rfl ?_|refine Zom rfl (by rfl) ?_|refine Zon rfl rfl ?_|refine Zoo rfl rfl rfl rfl (by rfl) (by rfl) ?_|refine Zop rfl trivial ?_|refine Zoq rfl rfl rfl ?_)
        exact Klp.nm ⟨0 + 1, by omega⟩ (sub.cons rfl (sub.cons rfl (sub.cons (Eq.trans rfl (hst (congrArg leastI (leastUp_no ho)))) (sub.cons rfl sub.nil)))) (Ent.refl _) (by simp)
  · repeat' (first|refine Zo0 rfl ?_|refine Zo1 ?_|refine Zo2 ?_|refine Zo3 ?_|refine Zo4 ?_|refine Zo5 ?_|refine Zo6 ?_|refine Zo7 ?_|refine Zo8 rfl ?_|refine Zo9 rfl ?_|refine Zoa ?_|refine Zob ?_|refine Zoc ?_|refine Zod ?_|refine Zoe ?_|refine Zof ?_|refine Zog ?_|refine Zoh ?_|refine Zoi rfl ?_|refine Zoj rfl ?_|refine Zok rfl ?_|refine Zol rfl ?_|refine Zom rfl (by rfl) ?_|refine Zon rfl rfl ?_|refine Zoo rfl rfl rfl rfl (by rfl) (by rfl) ?_|refine Zop rfl trivial ?_|refine Zoq rfl rfl rfl ?_)
    refine Cx.ordc rfl (by kernel_rfl) ?_
    repeat' (first|refine Ze0 0 rfl (by kernel_rfl) ?_|refine Ze1 (by kernel_rfl) rfl rfl ?_|refine Ze2 ?_|refine Ze3 ?_|refine Ze4 (by kernel_rfl) rfl rfl (by rfl) ?_|refine Ze5 (by kernel_rfl) rfl rfl rfl ?_|refine Ev.pvH (by kernel_rfl) rfl rfl ⟨by omega, by omega⟩ ?_|refine Ev.pvH (by kernel_rfl) rfl rfl (by decide) ?_|fail)
    by_cases hx : m.x1 = []
    · have ho : m.open_ now 1 = false := by simp [Lm.open_, openM, Lm.items, hx]
      refine Ev.no 19 rfl (decide_eq_false (by rw [hx]; decide)) ?_
      repeat' (first|refine Ze0 0 rfl (by kernel_rfl) ?_|refine Ze1 (by kernel_rfl) rfl rfl ?_|refine Ze2 ?_|refine Ze3 ?_|refine Ze4 (by kernel_rfl) rfl rfl (by rfl) ?_|refine Ze5 (by kernel_rfl) rfl rfl rfl ?_|refine Ev.pvH (by kernel_rfl) rfl rfl ⟨by omega, by omega⟩ ?_|refine Ev.pvH (by kernel_rfl) rfl rfl (by decide) ?_|fail)
      repeat' (first|refine Zo0 rfl ?_|refine Zo1 ?_|refine Zo2 ?_|refine Zo3 ?_|refine Zo4 ?_|refine Zo5 ?_|refine Zo6 ?_|refine Zo7 ?_|refine Zo8 rfl ?_|refine Zo9 rfl ?_|refine Zoa ?_|refine Zob ?_|refine Zoc ?_|refine Zod ?_|refine Zoe ?_|refine Zof ?_|refine Zog ?_|refine Zoh ?_|refine Zoi rfl ?_|refine Zoj rfl ?_|refine Zok rfl ?_|refine Zol rfl ?_|refine Zom rfl (by rfl) ?_|refine Zon rfl rfl ?_|refine Zoo rfl rfl rfl rfl (by rfl) (by rfl) ?_|refine Zop rfl trivial ?_|refine Zoq rfl rfl rfl ?_)
      exact Klp.nm ⟨1 + 1, by omega⟩ (sub.cons rfl (sub.cons rfl (sub.cons (Eq.trans rfl (hst (congrArg leastI (leastUp_no ho)))) (sub.cons rfl sub.nil)))) (Ent.refl _) (by simp)
    · have hu := hT.h1 hx
      have hp := List.length_pos_iff.2 hx
      refine Ev.yes 19 rfl (decide_eq_true (by omega)) ?_
      repeat' (first|refine Ze0 0 rfl (by kernel_rfl) ?_|refine Ze1 (by kernel_rfl) rfl rfl ?_|refine Ze2 ?_|refine Ze3 ?_|refine Ze4 (by kernel_rfl) rfl rfl (by rfl) ?_|refine Ze5 (by kernel_rfl) rfl rfl rfl ?_|refine Ev.pvH (by kernel_rfl) rfl rfl ⟨by omega, by omega⟩ ?_|refine Ev.pvH (by kernel_rfl) rfl rfl (by decide) ?_|fail)
      rw [w64 (n := now - 2) (by omega) (by omega)]
      by_cases h4 : m.t1 ≤ now - 2
      · have ho : m.open_ now 1 = true := by simp [Lm.open_, openM, Lm.items, Lm.tag]; exact ⟨hp, h4⟩
        refine Ev.yes 30 rfl (decide_eq_true (by omega)) ?_
        repeat' (first|refine Ze0 0 rfl (by kernel_rfl) ?_|refine Ze1 (by kernel_rfl) rfl rfl ?_|refine Ze2 ?_|refine Ze3 ?_|refine Ze4 (by kernel_rfl) rfl rfl (by rfl) ?_|refine Ze5 (by kernel_rfl) rfl rfl rfl ?_|refine Ev.pvH (by kernel_rfl) rfl rfl ⟨by omega, by omega⟩ ?_|refine Ev.pvH (by kernel_rfl) rfl rfl (by decide) ?_|fail)
        rcases hlu : leastUp now m 1 with _ | j
        · refine Ev.yes 33 rfl (decide_eq_true (by simp [leastI])) ?_
          repeat' (first|refine Ze0 0 rfl (by kernel_rfl) ?_|refine Ze1 (by kernel_rfl) rfl rfl ?_|refine Ze2 ?_|refine Ze3 ?_|refine Ze4 (by kernel_rfl) rfl rfl (by rfl) ?_|refine Ze5 (by kernel_rfl) rfl rfl rfl ?_|refine Ev.pvH (by kernel_rfl) rfl rfl ⟨by omega, by omega⟩ ?_|refine Ev.pvH (by kernel_rfl) rfl rfl (by decide) ?_|fail)
          repeat' (first|refine Zo0 rfl ?_|refine Zo1 ?_|refine Zo2 ?_|refine Zo3 ?_|refine Zo4 ?_|refine Zo5 ?_|refine Zo6 ?_|refine Zo7 ?_|refine Zo8 rfl ?_|refine Zo9 rfl ?_|refine Zoa ?_|refine Zob ?_|refine Zoc ?_|refine Zod ?_|refine Zoe ?_|refine Zof ?_|refine Zog ?_|refine Zoh ?_|refine Zoi rfl ?_|refine Zoj rfl ?_|refine Zok rfl ?_|refine Zol rfl ?_|refine Zom rfl (by rfl) ?_|refine Zon rfl rfl ?_|refine Zoo rfl rfl rfl rfl (by rfl) (by rfl) ?_|refine Zop rfl trivial ?_|refine Zoq rfl rfl rfl ?_)
          exact Klp.nm ⟨1 + 1, by omega⟩ (sub.cons rfl (sub.cons rfl (sub.cons (Eq.trans rfl (hst (congrArg leastI (leastUp_first ho hlu)))) (sub.cons rfl sub.nil)))) (Ent.refl _) (by simp)
        · refine Ev.no 33 rfl (decide_eq_false (by simp [leastI])) ?_
          have hj := leastUp_lt hlu
          rcases (show j = 0 by omega) with rfl
          · have hv := hT.h0 (open_ne hj.2)
            repeat' (first|refine Ze0 0 rfl (by kernel_rfl) ?_|refine Ze1 (by kernel_rfl) rfl rfl ?_|refine Ze2 ?_|refine Ze3 ?_|refine Ze4 (by kernel_rfl) rfl rfl (by rfl) ?_|refine Ze5 (by kernel_rfl) rfl rfl rfl ?_|refine Ev.pvH (by kernel_rfl) rfl rfl ⟨by omega, by omega⟩ ?_|refine Ev.pvH (by kernel_rfl) rfl rfl (by decide) ?_|fail)
            by_cases h5 : m.t1 < m.t0
            · refine Cx.cyes rfl (decide_eq_true (by omega)) ?_
              repeat' (first|refine Zo0 rfl ?_|refine Zo1 ?_|refine Zo2 ?_|refine Zo3 ?_|refine Zo4 ?_|refine Zo5 ?_|refine Zo6 ?_|refine Zo7 ?_|refine Zo8 rfl ?_|refine Zo9 rfl ?_|refine Zoa ?_|refine Zob ?_|refine Zoc ?_|refine Zod ?_|refine Zoe ?_|refine Zof ?_|refine Zog ?_|refine Zoh ?_|refine Zoi rfl ?_|refine Zoj rfl ?_|refine Zok rfl ?_|refine Zol rfl ?_|refine Zom rfl (by rfl) ?_|refine Zon rfl rfl ?_|refine Zoo rfl rfl rfl rfl (by rfl) (by rfl) ?_|refine Zop rfl trivial ?_|refine Zoq rfl rfl rfl ?_)
              exact Klp.nm ⟨1 + 1, by omega⟩ (sub.cons rfl (sub.cons rfl (sub.cons (Eq.trans rfl (hst (congrArg leastI (leastUp_less ho hlu h5)))) (sub.cons rfl sub.nil)))) (Ent.refl _) (by simp)
            · refine Cx.cno rfl (decide_eq_false (by omega)) ?_
              repeat' (first|refine Zo0 rfl ?_|refine Zo1 ?_|refine Zo2 ?_|refine Zo3 ?_|refine Zo4 ?_|refine Zo5 ?_|refine Zo6 ?_|refine Zo7 ?_|refine Zo8 rfl ?_|refine Zo9 rfl ?_|refine Zoa ?_|refine Zob ?_|refine Zoc ?_|refine Zod ?_|refine Zoe ?_|refine Zof ?_|refine Zog ?_|refine Zoh ?_|refine Zoi rfl ?_|refine Zoj rfl ?_|refine Zok rfl ?_|refine Zol rfl ?_|refine Zom rfl (by rfl) ?_|refine Zon rfl rfl ?_|refine Zoo rfl rfl rfl rfl (by rfl) (by rfl) ?_|refine Zop rfl trivial ?_|refine Zoq rfl rfl rfl ?_)
              exact Klp.nm ⟨1 + 1, by omega⟩ (sub.cons rfl (sub.cons rfl (sub.cons (Eq.trans rfl (hst (congrArg leastI (leastUp_keep ho hlu h5)))) (sub.cons rfl sub.nil)))) (Ent.refl _) (by simp)
      · have ho : m.open_ now 1 = false := by simp [Lm.open_, openM, Lm.items, Lm.tag]; intro _; omega
        refine Ev.no 30 rfl (decide_eq_false (by omega)) ?_
        repeat' (first|refine Ze0 0 rfl (by kernel_rfl) ?_|refine Ze1 (by kernel_rfl) rfl rfl ?_|refine Ze2 ?_|refine Ze3 ?_|refine Ze4 (by kernel_rfl) rfl rfl (by rfl) ?_|refine Ze5 (by kernel_rfl) rfl rfl rfl ?_|refine Ev.pvH (by kernel_rfl) rfl rfl ⟨by omega, by omega⟩ ?_|refine Ev.pvH (by kernel_rfl) rfl rfl (by decide) ?_|fail)
        repeat' (first|refine Zo0 rfl ?_|refine Zo1 ?_|refine Zo2 ?_|refine Zo3 ?_|refine Zo4 ?_|refine Zo5 ?_|refine Zo6 ?_|refine Zo7 ?_|refine Zo8 rfl ?_|refine Zo9 rfl ?_|refine Zoa ?_|refine Zob ?_|refine Zoc ?_|refine Zod ?_|refine Zoe ?_|refine Zof ?_|refine Zog ?_|refine Zoh ?_|refine Zoi rfl ?_|refine Zoj rfl ?_|refine Zok rfl ?_|refine Zol rfl ?_|refine Zom rfl (by rfl) ?_|refine Zon rfl rfl ?_|refine Zoo rfl rfl rfl rfl (by rfl) (by rfl) ?_|refine Zop rfl trivial ?_|refine Zoq rfl rfl rfl ?_)
        exact Klp.nm ⟨1 + 1, by omega⟩ (sub.cons rfl (sub.cons rfl (sub.cons (Eq.trans rfl (hst (congrArg leastI (leastUp_no ho)))) (sub.cons rfl sub.nil)))) (Ent.refl _) (by simp)
  · repeat' (first|refine Zo0 rfl ?_|refine Zo1 ?_|refine Zo2 ?_|refine Zo3 ?_|refine Zo4 ?_|refine Zo5 ?_|refine Zo6 ?_|refine Zo7 ?_|refine Zo8 rfl ?_|refine Zo9 rfl ?_|refine Zoa ?_|refine Zob ?_|refine Zoc ?_|refine Zod ?_|refine Zoe ?_|refine Zof ?_|refine Zog ?_|refine Zoh ?_|refine Zoi rfl ?_|refine Zoj rfl ?_|refine Zok rfl ?_|refine Zol rfl ?_|refine Zom rfl (by rfl) ?_|refine Zon rfl rfl ?_|refine Zoo rfl rfl rfl rfl (by rfl) (by rfl) ?_|refine Zop rfl trivial ?_|refine Zoq rfl rfl rfl ?_)
    refine Cx.ordc rfl (by kernel_rfl) ?_
    repeat' (first|refine Ze0 0 rfl (by kernel_rfl) ?_|refine Ze1 (by kernel_rfl) rfl rfl ?_|refine Ze2 ?_|refine Ze3 ?_|refine Ze4 (by kernel_rfl) rfl rfl (by rfl) ?_|refine Ze5 (by kernel_rfl) rfl rfl rfl ?_|refine Ev.pvH (by kernel_rfl) rfl rfl ⟨by omega, by omega⟩ ?_|refine Ev.pvH (by kernel_rfl) rfl rfl (by decide) ?_|fail)
    by_cases hx : m.x2 = []
    · have ho : m.open_ now 2 = false := by simp [Lm.open_, openM, Lm.items, hx]
      refine Ev.no 19 rfl (decide_eq_false (by rw [hx]; decide)) ?_
      repeat' (first|refine Ze0 0 rfl (by kernel_rfl) ?_|refine Ze1 (by kernel_rfl) rfl rfl ?_|refine Ze2 ?_|refine Ze3 ?_|refine Ze4 (by kernel_rfl) rfl rfl (by rfl) ?_|refine Ze5 (by kernel_rfl) rfl rfl rfl ?_|refine Ev.pvH (by kernel_rfl) rfl rfl ⟨by omega, by omega⟩ ?_|refine Ev.pvH (by kernel_rfl) rfl rfl (by decide) ?_|fail)
      repeat' (first|refine Zo0 rfl ?_|refine Zo1 ?_|refine Zo2 ?_|refine Zo3 ?_|refine Zo4 ?_|refine Zo5 ?_|refine Zo6 ?_|refine Zo7 ?_|refine Zo8 rfl ?_|refine Zo9 rfl ?_|refine Zoa ?_|refine Zob ?_|refine Zoc ?_|refine Zod ?_|refine Zoe ?_|refine Zof ?_|refine Zog ?_|refine Zoh ?_|refine Zoi rfl ?_|refine Zoj rfl ?_|refine Zok rfl ?_|refine Zol rfl ?_|refine Zom rfl (by rfl) ?_|refine Zon rfl rfl ?_|refine Zoo rfl rfl rfl rfl (by rfl) (by rfl) ?_|refine Zop rfl trivial ?_|refine Zoq rfl rfl rfl ?_)
      exact Klp.nm ⟨2 + 1, by omega⟩ (sub.cons rfl (sub.cons rfl (sub.cons (Eq.trans rfl (hst (congrArg leastI (leastUp_no ho)))) (sub.cons rfl sub.nil)))) (Ent.refl _) (by simp)
    · have hu := hT.h2 hx
      have hp := List.length_pos_iff.2 hx
      refine Ev.yes 19 rfl (decide_eq_true (by omega)) ?_
      repeat' (first|refine Ze0 0 rfl (by kernel_rfl) ?_|refine Ze1 (by kernel_rfl) rfl rfl ?_|refine Ze2 ?_|refine Ze3 ?_|refine Ze4 (by kernel_rfl) rfl rfl (by rfl) ?_|refine Ze5 (by kernel_rfl) rfl rfl rfl ?_|refine Ev.pvH (by kernel_rfl) rfl rfl ⟨by omega, by omega⟩ ?_|refine Ev.pvH (by kernel_rfl) rfl rfl (by decide) ?_|fail)
      rw [w64 (n := now - 2) (by omega) (by omega)]
      by_cases h4 : m.t2 ≤ now - 2
      · have ho : m.open_ now 2 = true := by simp [Lm.open_, openM, Lm.items, Lm.tag]; exact ⟨hp, h4⟩
        refine Ev.yes 30 rfl (decide_eq_true (by omega)) ?_
        repeat' (first|refine Ze0 0 rfl (by kernel_rfl) ?_|refine Ze1 (by kernel_rfl) rfl rfl ?_|refine Ze2 ?_|refine Ze3 ?_|refine Ze4 (by kernel_rfl) rfl rfl (by rfl) ?_|refine Ze5 (by kernel_rfl) rfl rfl rfl ?_|refine Ev.pvH (by kernel_rfl) rfl rfl ⟨by omega, by omega⟩ ?_|refine Ev.pvH (by kernel_rfl) rfl rfl (by decide) ?_|fail)
        rcases hlu : leastUp now m 2 with _ | j
        · refine Ev.yes 33 rfl (decide_eq_true (by simp [leastI])) ?_
          repeat' (first|refine Ze0 0 rfl (by kernel_rfl) ?_|refine Ze1 (by kernel_rfl) rfl rfl ?_|refine Ze2 ?_|refine Ze3 ?_|refine Ze4 (by kernel_rfl) rfl rfl (by rfl) ?_|refine Ze5 (by kernel_rfl) rfl rfl rfl ?_|refine Ev.pvH (by kernel_rfl) rfl rfl ⟨by omega, by omega⟩ ?_|refine Ev.pvH (by kernel_rfl) rfl rfl (by decide) ?_|fail)
          repeat' (first|refine Zo0 rfl ?_|refine Zo1 ?_|refine Zo2 ?_|refine Zo3 ?_|refine Zo4 ?_|refine Zo5 ?_|refine Zo6 ?_|refine Zo7 ?_|refine Zo8 rfl ?_|refine Zo9 rfl ?_|refine Zoa ?_|refine Zob ?_|refine Zoc ?_|refine Zod ?_|refine Zoe ?_|refine Zof ?_|refine Zog ?_|refine Zoh ?_|refine Zoi rfl ?_|refine Zoj rfl ?_|refine Zok rfl ?_|refine Zol rfl ?_|refine Zom rfl (by rfl) ?_|refine Zon rfl rfl ?_|refine Zoo rfl rfl rfl rfl (by rfl) (by rfl) ?_|refine Zop rfl trivial ?_|refine Zoq rfl rfl rfl ?_)
          exact Klp.nm ⟨2 + 1, by omega⟩ (sub.cons rfl (sub.cons rfl (sub.cons (Eq.trans rfl (hst (congrArg leastI (leastUp_first ho hlu)))) (sub.cons rfl sub.nil)))) (Ent.refl _) (by simp)
        · refine Ev.no 33 rfl (decide_eq_false (by simp [leastI])) ?_
          have hj := leastUp_lt hlu
          rcases (show j = 0 ∨ j = 1 by omega) with rfl | rfl
          · have hv := hT.h0 (open_ne hj.2)
            repeat' (first|refine Ze0 0 rfl (by kernel_rfl) ?_|refine Ze1 (by kernel_rfl) rfl rfl ?_|refine Ze2 ?_|refine Ze3 ?_|refine Ze4 (by kernel_rfl) rfl rfl (by rfl) ?_|refine Ze5 (by kernel_rfl) rfl rfl rfl ?_|refine Ev.pvH (by kernel_rfl) rfl rfl ⟨by omega, by omega⟩ ?_|refine Ev.pvH (by kernel_rfl) rfl rfl (by decide) ?_|fail)
            by_cases h5 : m.t2 < m.t0
            · refine Cx.cyes rfl (decide_eq_true (by omega)) ?_
              repeat' (first|refine Zo0 rfl ?_|refine Zo1 ?_|refine Zo2 ?_|refine Zo3 ?_|refine Zo4 ?_|refine Zo5 ?_|refine Zo6 ?_|refine Zo7 ?_|refine Zo8 rfl ?_|refine Zo9 rfl ?_|refine Zoa ?_|refine Zob ?_|refine Zoc ?_|refine Zod ?_|refine Zoe ?_|refine Zof ?_|refine Zog ?_|refine Zoh ?_|refine Zoi rfl ?_|refine Zoj rfl ?_|refine Zok rfl ?_|refine Zol rfl ?_|refine Zom rfl (by rfl) ?_|refine Zon rfl rfl ?_|refine Zoo rfl rfl rfl rfl (by rfl) (by rfl) ?_|refine Zop rfl trivial ?_|refine Zoq rfl rfl rfl ?_)
              exact Klp.nm ⟨2 + 1, by omega⟩ (sub.cons rfl (sub.cons rfl (sub.cons (Eq.trans rfl (hst (congrArg leastI (leastUp_less ho hlu h5)))) (sub.cons rfl sub.nil)))) (Ent.refl _) (by simp)
            · refine Cx.cno rfl (decide_eq_false (by omega)) ?_
              repeat' (first|refine Zo0 rfl ?_|refine Zo1 ?_|refine Zo2 ?_|refine Zo3 ?_|refine Zo4 ?_|refine Zo5 ?_|refine Zo6 ?_|refine Zo7 ?_|refine Zo8 rfl ?_|refine Zo9 rfl ?_|refine Zoa ?_|refine Zob ?_|refine Zoc ?_|refine Zod ?_|refine Zoe ?_|refine Zof ?_|refine Zog ?_|refine Zoh ?_|refine Zoi rfl ?_|refine Zoj rfl ?_|refine Zok rfl ?_|refine Zol rfl ?_|refine Zom rfl (by rfl) ?_|refine Zon rfl rfl ?_|refine Zoo rfl rfl rfl rfl (by rfl) (by rfl) ?_|refine Zop rfl trivial ?_|refine Zoq rfl rfl rfl ?_)
              exact Klp.nm ⟨2 + 1, by omega⟩ (sub.cons rfl (sub.cons rfl (sub.cons (Eq.trans rfl (hst (congrArg leastI (leastUp_keep ho hlu h5)))) (sub.cons rfl sub.nil)))) (Ent.refl _) (by simp)
          · have hv := hT.h1 (open_ne hj.2)
            repeat' (first|refine Ze0 0 rfl (by kernel_rfl) ?_|refine Ze1 (by kernel_rfl) rfl rfl ?_|refine Ze2 ?_|refine Ze3 ?_|refine Ze4 (by kernel_rfl) rfl rfl (by rfl) ?_|refine Ze5 (by kernel_rfl) rfl rfl rfl ?_|refine Ev.pvH (by kernel_rfl) rfl rfl ⟨by omega, by omega⟩ ?_|refine Ev.pvH (by kernel_rfl) rfl rfl (by decide) ?_|fail)
            by_cases h5 : m.t2 < m.t1
            · refine Cx.cyes rfl (decide_eq_true (by omega)) ?_
              repeat' (first|refine Zo0 rfl ?_|refine Zo1 ?_|refine Zo2 ?_|refine Zo3 ?_|refine Zo4 ?_|refine Zo5 ?_|refine Zo6 ?_|refine Zo7 ?_|refine Zo8 rfl ?_|refine Zo9 rfl ?_|refine Zoa ?_|refine Zob ?_|refine Zoc ?_|refine Zod ?_|refine Zoe ?_|refine Zof ?_|refine Zog ?_|refine Zoh ?_|refine Zoi rfl ?_|refine Zoj rfl ?_|refine Zok rfl ?_|refine Zol rfl ?_|refine Zom rfl (by rfl) ?_|refine Zon rfl rfl ?_|refine Zoo rfl rfl rfl rfl (by rfl) (by rfl) ?_|refine Zop rfl trivial ?_|refine Zoq rfl rfl rfl ?_)
              exact Klp.nm ⟨2 + 1, by omega⟩ (sub.cons rfl (sub.cons rfl (sub.cons (Eq.trans rfl (hst (congrArg leastI (leastUp_less ho hlu h5)))) (sub.cons rfl sub.nil)))) (Ent.refl _) (by simp)
            · refine Cx.cno rfl (decide_eq_false (by omega)) ?_
              repeat' (first|refine Zo0 rfl ?_|refine Zo1 ?_|refine Zo2 ?_|refine Zo3 ?_|refine Zo4 ?_|refine Zo5 ?_|refine Zo6 ?_|refine Zo7 ?_|refine Zo8 rfl ?_|refine Zo9 rfl ?_|refine Zoa ?_|refine Zob ?_|refine Zoc ?_|refine Zod ?_|refine Zoe ?_|refine Zof ?_|refine Zog ?_|refine Zoh ?_|refine Zoi rfl ?_|refine Zoj rfl ?_|refine Zok rfl ?_|refine Zol rfl ?_|refine Zom rfl (by rfl) ?_|refine Zon rfl rfl ?_|refine Zoo rfl rfl rfl rfl (by rfl) (by rfl) ?_|refine Zop rfl trivial ?_|refine Zoq rfl rfl rfl ?_)
              exact Klp.nm ⟨2 + 1, by omega⟩ (sub.cons rfl (sub.cons rfl (sub.cons (Eq.trans rfl (hst (congrArg leastI (leastUp_keep ho hlu h5)))) (sub.cons rfl sub.nil)))) (Ent.refl _) (by simp)
      · have ho : m.open_ now 2 = false := by simp [Lm.open_, openM, Lm.items, Lm.tag]; intro _; omega
        refine Ev.no 30 rfl (decide_eq_false (by omega)) ?_
        repeat' (first|refine Ze0 0 rfl (by kernel_rfl) ?_|refine Ze1 (by kernel_rfl) rfl rfl ?_|refine Ze2 ?_|refine Ze3 ?_|refine Ze4 (by kernel_rfl) rfl rfl (by rfl) ?_|refine Ze5 (by kernel_rfl) rfl rfl rfl ?_|refine Ev.pvH (by kernel_rfl) rfl rfl ⟨by omega, by omega⟩ ?_|refine Ev.pvH (by kernel_rfl) rfl rfl (by decide) ?_|fail)
        repeat' (first|refine Zo0 rfl ?_|refine Zo1 ?_|refine Zo2 ?_|refine Zo3 ?_|refine Zo4 ?_|refine Zo5 ?_|refine Zo6 ?_|refine Zo7 ?_|refine Zo8 rfl ?_|refine Zo9 rfl ?_|refine Zoa ?_|refine Zob ?_|refine Zoc ?_|refine Zod ?_|refine Zoe ?_|refine Zof ?_|refine Zog ?_|refine Zoh ?_|refine Zoi rfl ?_|refine Zoj rfl ?_|refine Zok rfl ?_|refine Zol rfl ?_|refine Zom rfl (by rfl) ?_|refine Zon rfl rfl ?_|refine Zoo rfl rfl rfl rfl (by rfl) (by rfl) ?_|refine Zop rfl trivial ?_|refine Zoq rfl rfl rfl ?_)
        exact Klp.nm ⟨2 + 1, by omega⟩ (sub.cons rfl (sub.cons rfl (sub.cons (Eq.trans rfl (hst (congrArg leastI (leastUp_no ho)))) (sub.cons rfl sub.nil)))) (Ent.refl _) (by simp)
  · repeat' (first|refine Zo0 rfl ?_|refine Zo1 ?_|refine Zo2 ?_|refine Zo3 ?_|refine Zo4 ?_|refine Zo5 ?_|refine Zo6 ?_|refine Zo7 ?_|refine Zo8 rfl ?_|refine Zo9 rfl ?_|refine Zoa ?_|refine Zob ?_|refine Zoc ?_|refine Zod ?_|refine Zoe ?_|refine Zof ?_|refine Zog ?_|refine Zoh ?_|refine Zoi rfl ?_|refine Zoj rfl ?_|refine Zok rfl ?_|refine Zol rfl ?_|refine Zom rfl (by rfl) ?_|refine Zon rfl rfl ?_|refine Zoo rfl rfl rfl rfl (by rfl) (by rfl) ?_|refine Zop rfl trivial ?_|refine Zoq rfl rfl rfl ?_)
    refine Kr.one (.inr rfl) rfl ?_ ⟨rfl, rfl⟩
    exact RLimboO.close (a := some ⟨b, 0, none⟩) (r0 := r0) (r1 := r1) (r2 := r2) m hT rfl rfl rfl rfl rfl rfl rfl rfl rfl rfl
end
end Go.Proofs.YtnbkjcmmjgkdaaaGreat
