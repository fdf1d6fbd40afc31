/-
  Parts of the proof, merged: what the statement leans on.
-/
import Derived.Test.YtflalhdofhobmaaGreatZHeD
set_option linter.unusedVariables false
set_option linter.unusedSimpArgs false

namespace Go.Proofs.YtflalhdofhobmaaGreat
open Go
attribute [local irreducible] Sx Cx Rx Fx Krg Ksq Kbl Klp Kr
section
variable {L F : St}
theorem limboLen {b : Nat} {m : Lm} {F : St} [t : Take L (some ⟨b, 0, none⟩) (LimboO m) F] (hb : m.size ≤ 1000000000) :
  Fx Tryz.prog 217 [.pointer (some ⟨b, 0, none⟩)] L (fun v L' => v = .int .i64 m.size ∧ L' = pt (some ⟨b, 0, none⟩) (LimboO m) :: F) := by
 have hs : m.size = m.x0.length + m.x1.length + m.x2.length := rfl
 refine Fx.mk Tryz.func217 k217 (Nat.le_of_ble_eq_true rfl) ?_
 dsimp only [c217, envOf, Nat.reduceAdd]
 refine Cx.openp (t := t) rfl ?_
 rintro ⟨⟨r0, c0⟩, ⟨r1, c1⟩, ⟨r2, c2⟩⟩
 simp only [List.cons_append, List.nil_append]
 refine go ?_
 generalize hM : (pt (some ⟨b, 0, none⟩) (Blk 255 [.int .i64 m.t0, .slice r0 m.x0.length c0, .int .i64 m.t1, .slice r1 m.x1.length c1, .int .i64 m.t2, .slice r2 m.x2.length c2, .int .i64 m.last]) ::
  pt r0 (Row 3 1 m.x0.length c0 (ints m.x0)) :: pt r1 (Row 3 1 m.x1.length c1 (ints m.x1)) :: pt r2 (Row 3 1 m.x2.length c2 (ints m.x2)) :: F) = M
 refine Cx.lp (α := {i : Nat // i ≤ 3}) (fun i => [(3, .int .i64 (((List.range i.1).map fun k => (m.items k).length).sum : Nat)), (9, .agg #[.int .i64 m.t0, .slice r0 m.x0.length c0, .int .i64 m.t1, .slice r1 m.x1.length c1, .int .i64 m.t2, .slice r2 m.x2.length c2]), (10, .int .i64 i.1)])
  (fun _ => M) (fun i => 3 - i.1) ⟨0, by omega⟩ (sub.cons rfl (sub.cons rfl (sub.cons rfl sub.nil))) (Ent.refl _) ?_
 rintro ⟨i, hi⟩
 dsimp only
 rcases (show i = 0 ∨ i = 1 ∨ i = 2 ∨ i = 3 by omega) with rfl | rfl | rfl | rfl
 ·refine go ?_
  refine Sx.pv rfl ⟨by omega, by omega⟩ ?_
  refine Sx.al fun g => ?_
  refine Sx.st (b := g) rfl rfl rfl rfl rfl rfl ?_
  dsimp only [lay]
  refine go ?_
  refine Klp.nm ⟨1, by omega⟩ (sub.cons ?_ (sub.cons rfl (sub.cons rfl sub.nil))) (Ent.drop) (by simp)
  simp only [List.range_succ, List.range_zero, List.nil_append, List.map_append, List.map_cons, List.map_nil, List.sum_append, List.sum_cons, List.sum_nil, Nat.zero_add, Nat.add_zero]
  refine congrArg (fun z => some (Value.int .i64 z)) ?_
  refine Eq.trans (w64 (by simp [Lm.items]) (by simp [Lm.items]; omega)) ?_
  simp [Lm.items]
 ·refine go ?_
  refine Sx.pv rfl ⟨by omega, by omega⟩ ?_
  refine Sx.al fun g => ?_
  refine Sx.st (b := g) rfl rfl rfl rfl rfl rfl ?_
  dsimp only [lay]
  refine go ?_
  refine Klp.nm ⟨2, by omega⟩ (sub.cons ?_ (sub.cons rfl (sub.cons rfl sub.nil))) (Ent.drop) (by simp)
  simp only [List.range_succ, List.range_zero, List.nil_append, List.map_append, List.map_cons, List.map_nil, List.sum_append, List.sum_cons, List.sum_nil, Nat.zero_add, Nat.add_zero]
  refine congrArg (fun z => some (Value.int .i64 z)) ?_
  refine Eq.trans (w64 (by simp [Lm.items]; omega) (by simp [Lm.items]; omega)) ?_
  simp [Lm.items]
 ·refine go ?_
  refine Sx.pv rfl ⟨by omega, by omega⟩ ?_
  refine Sx.al fun g => ?_
  refine Sx.st (b := g) rfl rfl rfl rfl rfl rfl ?_
  dsimp only [lay]
  refine go ?_
  refine Klp.nm ⟨3, by omega⟩ (sub.cons ?_ (sub.cons rfl (sub.cons rfl sub.nil))) (Ent.drop) (by simp)
  simp only [List.range_succ, List.range_zero, List.nil_append, List.map_append, List.map_cons, List.map_nil, List.sum_append, List.sum_cons, List.sum_nil, Nat.zero_add, Nat.add_zero]
  refine congrArg (fun z => some (Value.int .i64 z)) ?_
  refine Eq.trans (w64 (by simp [Lm.items]; omega) (by simp [Lm.items]; omega)) ?_
  simp [Lm.items]
 ·refine go ?_
  subst hM
  refine Kr.one (.inr rfl) rfl (LimboO.close (a := some ⟨b, 0, none⟩) (r0 := r0) (r1 := r1) (r2 := r2) m rfl rfl rfl rfl rfl rfl rfl rfl rfl rfl) ⟨?_, rfl⟩
  simp [List.range_succ, Lm.items, hs]
  omega
theorem limboBucket {b : Nat} {m : Lm} {k : Int} {F : St} [t : Take L (some ⟨b, 0, none⟩) (LimboO m) F] (hb : m.size ≤ 1000000000) :
  Fx Tryz.prog 121 [.pointer (some ⟨b, 0, none⟩), .int .i64 k] L (fun v L' =>
   ((k < 0 ∨ 3 ≤ k ∨ m.items k.toNat = []) ∧ v = .tuple #[.int .i64 0, .slice none 0 0] ∧ L' = pt (some ⟨b, 0, none⟩) (LimboO m) :: F) ∨
   (¬ (k < 0 ∨ 3 ≤ k ∨ m.items k.toNat = []) ∧ ∃ ro co, v = .tuple #[.int .i64 (m.tag k.toNat), .slice ro (m.items k.toNat).length co] ∧ L' = pt ro (Row 3 1 (m.items k.toNat).length co (ints (m.items k.toNat))) :: pt (some ⟨b, 0, none⟩) (LimboO m) :: F)) := by
 have hs : m.size = m.x0.length + m.x1.length + m.x2.length := rfl
 refine Fx.mk Tryz.func121 k121 (Nat.le_of_ble_eq_true rfl) ?_
 dsimp only [c121, envOf, Nat.reduceAdd]
 refine Cx.openp (t := t) rfl ?_
 rintro ⟨⟨r0, c0⟩, ⟨r1, c1⟩, ⟨r2, c2⟩⟩
 simp only [List.cons_append, List.nil_append]
 refine Cx.rowkey (a := r0) fun hx0 hn0 _ hk0 => ?_
 refine Cx.rowkey (a := r1) fun hx1 hn1 _ hk1 => ?_
 refine Cx.rowkey (a := r2) fun hx2 hn2 _ hk2 => ?_
 refine go ?_
 refine Sx.ifp rfl (fun h1 => ?_) (fun h1 => ?_)
 ·refine go ?_
  exact Kr.two (.inr rfl) rfl rfl (LimboO.close (a := some ⟨b, 0, none⟩) (r0 := r0) (r1 := r1) (r2 := r2) m rfl rfl rfl rfl rfl rfl rfl rfl rfl rfl) (.inl ⟨.inl h1, rfl, rfl⟩)
 refine go ?_
 refine Sx.ifp rfl (fun h2 => ?_) (fun h2 => ?_)
 ·refine go ?_
  exact Kr.two (.inr rfl) rfl rfl (LimboO.close (a := some ⟨b, 0, none⟩) (r0 := r0) (r1 := r1) (r2 := r2) m rfl rfl rfl rfl rfl rfl rfl rfl rfl rfl) (.inl ⟨.inr (.inl h2), rfl, rfl⟩)
 rcases (show k = 0 ∨ k = 1 ∨ k = 2 by omega) with rfl | rfl | rfl
 ·refine go ?_
  refine Sx.pv rfl ⟨by omega, by omega⟩ ?_
  refine go ?_
  refine Cx.ifp rfl (fun h3 => ?_) (fun h3 => ?_)
  ·refine go ?_
   exact Kr.two (.inr rfl) rfl rfl (LimboO.close (a := some ⟨b, 0, none⟩) (r0 := r0) (r1 := r1) (r2 := r2) m rfl rfl rfl rfl rfl rfl rfl rfl rfl rfl) (.inl ⟨.inr (.inr (List.eq_nil_of_length_eq_zero (by simpa [Lm.items] using h3))), rfl, rfl⟩)
  refine go ?_
  refine Cx.rd ?_
  refine Rx.pvs rfl ?_
  refine Rx.pv 0 rfl rfl rfl ⟨by omega, by omega⟩ rfl rfl ?_
  refine Rx.pvs rfl ?_
  refine Rx.ldbK 0 rfl rfl rfl (by rfl) rfl rfl ?_
  refine Rx.pv 0 rfl rfl rfl ⟨by omega, by omega⟩ rfl rfl ?_
  refine Rx.pvs rfl ?_
  refine Rx.ldbK 0 rfl rfl rfl (by rfl) rfl rfl ?_
  refine Rx.pvs rfl ?_
  refine Rx.one rfl rfl rfl ?_
  refine Sx.ca rfl (clone (Rd.any (a := r0) hx0 (hk0.imp (fun h => h.2.1) id)) (ones_ints _) (by omega)) ?_
  rintro v L' ⟨ra, ca, rfl, rfl⟩
  refine Sx.nil ⟨⟨⟨trivial, Has.cell rfl⟩, Has.cell rfl⟩, ?_⟩
  refine Rx.pvs rfl ?_
  refine Rx.nil ?_
  refine go ?_
  refine Kr.two (.inr rfl) rfl rfl ?_ (.inr ⟨?_, ra, ca, rfl, rfl⟩)
  ·exact Ent.cons (LimboO.close (a := some ⟨b, 0, none⟩) (r0 := r0) (r1 := r1) (r2 := r2) m rfl rfl rfl rfl rfl rfl rfl rfl rfl rfl)
  ·rintro (h | h | h)
   ·omega
   ·omega
   ·exact h3 (by have := congrArg List.length h; simp [Lm.items] at this; simp [this])
 ·refine go ?_
  refine Sx.pv rfl ⟨by omega, by omega⟩ ?_
  refine go ?_
  refine Cx.ifp rfl (fun h3 => ?_) (fun h3 => ?_)
  ·refine go ?_
   exact Kr.two (.inr rfl) rfl rfl (LimboO.close (a := some ⟨b, 0, none⟩) (r0 := r0) (r1 := r1) (r2 := r2) m rfl rfl rfl rfl rfl rfl rfl rfl rfl rfl) (.inl ⟨.inr (.inr (List.eq_nil_of_length_eq_zero (by simpa [Lm.items] using h3))), rfl, rfl⟩)
  refine go ?_
  refine Cx.rd ?_
  refine Rx.pvs rfl ?_
  refine Rx.pv 0 rfl rfl rfl ⟨by omega, by omega⟩ rfl rfl ?_
  refine Rx.pvs rfl ?_
  refine Rx.ldbK 0 rfl rfl rfl (by rfl) rfl rfl ?_
  refine Rx.pv 0 rfl rfl rfl ⟨by omega, by omega⟩ rfl rfl ?_
  refine Rx.pvs rfl ?_
  refine Rx.ldbK 0 rfl rfl rfl (by rfl) rfl rfl ?_
  refine Rx.pvs rfl ?_
  refine Rx.one rfl rfl rfl ?_
  refine Sx.ca rfl (clone (Rd.any (a := r1) hx1 (hk1.imp (fun h => h.2.1) id)) (ones_ints _) (by omega)) ?_
  rintro v L' ⟨ra, ca, rfl, rfl⟩
  refine Sx.nil ⟨⟨⟨trivial, Has.cell rfl⟩, Has.cell rfl⟩, ?_⟩
  refine Rx.pvs rfl ?_
  refine Rx.nil ?_
  refine go ?_
  refine Kr.two (.inr rfl) rfl rfl ?_ (.inr ⟨?_, ra, ca, rfl, rfl⟩)
  ·exact Ent.cons (LimboO.close (a := some ⟨b, 0, none⟩) (r0 := r0) (r1 := r1) (r2 := r2) m rfl rfl rfl rfl rfl rfl rfl rfl rfl rfl)
  ·rintro (h | h | h)
   ·omega
   ·omega
   ·exact h3 (by have := congrArg List.length h; simp [Lm.items] at this; simp [this])
 ·refine go ?_
  refine Sx.pv rfl ⟨by omega, by omega⟩ ?_
  refine go ?_
  refine Cx.ifp rfl (fun h3 => ?_) (fun h3 => ?_)
  ·refine go ?_
   exact Kr.two (.inr rfl) rfl rfl (LimboO.close (a := some ⟨b, 0, none⟩) (r0 := r0) (r1 := r1) (r2 := r2) m rfl rfl rfl rfl rfl rfl rfl rfl rfl rfl) (.inl ⟨.inr (.inr (List.eq_nil_of_length_eq_zero (by simpa [Lm.items] using h3))), rfl, rfl⟩)
  refine go ?_
  refine Cx.rd ?_
  refine Rx.pvs rfl ?_
  refine Rx.pv 0 rfl rfl rfl ⟨by omega, by omega⟩ rfl rfl ?_
  refine Rx.pvs rfl ?_
  refine Rx.ldbK 0 rfl rfl rfl (by rfl) rfl rfl ?_
  refine Rx.pv 0 rfl rfl rfl ⟨by omega, by omega⟩ rfl rfl ?_
  refine Rx.pvs rfl ?_
  refine Rx.ldbK 0 rfl rfl rfl (by rfl) rfl rfl ?_
  refine Rx.pvs rfl ?_
  refine Rx.one rfl rfl rfl ?_
  refine Sx.ca rfl (clone (Rd.any (a := r2) hx2 (hk2.imp (fun h => h.2.1) id)) (ones_ints _) (by omega)) ?_
  rintro v L' ⟨ra, ca, rfl, rfl⟩
  refine Sx.nil ⟨⟨⟨trivial, Has.cell rfl⟩, Has.cell rfl⟩, ?_⟩
  refine Rx.pvs rfl ?_
  refine Rx.nil ?_
  refine go ?_
  refine Kr.two (.inr rfl) rfl rfl ?_ (.inr ⟨?_, ra, ca, rfl, rfl⟩)
  ·exact Ent.cons (LimboO.close (a := some ⟨b, 0, none⟩) (r0 := r0) (r1 := r1) (r2 := r2) m rfl rfl rfl rfl rfl rfl rfl rfl rfl rfl)
  ·rintro (h | h | h)
   ·omega
   ·omega
   ·exact h3 (by have := congrArg List.length h; simp [Lm.items] at this; simp [this])
end
end Go.Proofs.YtflalhdofhobmaaGreat


namespace Go.Proofs.YtflalhdofhobmaaGreat
open Go
attribute [local irreducible] Sx Cx Rx Fx Krg Ksq Kbl Klp Kr
section
variable {L F : St}
theorem bucketOpen {b o n c : Nat} {now tag : Int} {r : Option Addr} {xs : List Int} (h0 : Has L b o [.int .i64 tag]) (h1 : Has L b (o + 1) [.slice r n c]) (hn : n = xs.length) (h2 : 2 ≤ now) (h3 : now ≤ 9223372036854775807) :
  Fx Tryz.prog 201 [.pointer (some ⟨b, o, none⟩), .int .i64 now] L (fun v L' => v = .bool (openM now tag xs) ∧ L = L') := by
 subst hn
 refine Fx.mk Tryz.func201 k201 (Nat.le_of_ble_eq_true rfl) ?_
 dsimp only [c201, envOf, Nat.reduceAdd]
 refine go ?_
 refine Sx.ld rfl h1 rfl ?_
 refine go ?_
 refine Sx.ifp rfl (fun h => ?_) (fun h => ?_)
 ·refine go ?_
  refine Sx.ld rfl (by simpa using h0) rfl ?_
  refine go ?_
  rw [w64 (n := now - 2) (by omega) (by omega)]
  refine Kr.one (.inr rfl) rfl (Ent.refl _) ⟨?_, rfl⟩
  have h' : 0 < xs.length := by omega
  simp [pick, openM, h']
 ·refine go ?_
  refine Kr.one (.inr rfl) rfl (Ent.refl _) ⟨?_, rfl⟩
  have h' : ¬ 0 < xs.length := by omega
  simp [pick, openM, h']
abbrev lptr (b : Nat) (o : Option Nat) : Value := .pointer (o.map fun j => ⟨b, 0 + j * 2, none⟩)
set_option maxHeartbeats 4000000 in
theorem limboReady {b : Nat} {m : Lm} {now : Int} {F : St} [t : Take L (some ⟨b, 0, none⟩) (LimboO m) F] (hb : m.size ≤ 100000000) (hnow : now ≤ 9223372036854775807) :
  Fx Tryz.prog 135 [.pointer (some ⟨b, 0, none⟩), .int .i64 now] L (fun v L' => ∃ ro co, v = .slice ro (readyAll now m).1.length co ∧
   L' = pt ro (Row 3 1 (readyAll now m).1.length co (ints (readyAll now m).1)) :: pt (some ⟨b, 0, none⟩) (LimboO (readyAll now m).2) :: F) := by
 refine Fx.mk Tryz.func135 k135 (Nat.le_of_ble_eq_true rfl) ?_
 dsimp only [c135, envOf, Nat.reduceAdd]
 refine Cx.ent (Ent.trans (Ent.of t.out) (Ent.rownil 3 1)) ?_
 refine go ?_
 refine Cx.lp (α := {p : (List Int × Lm) × (Option Addr × Nat) // p.1.1.length + p.1.2.size = m.size ∧ p.1.1 ++ (readyAll now p.1.2).1 = (readyAll now m).1 ∧ (readyAll now p.1.2).2 = (readyAll now m).2})
  (fun p => [(0, .pointer (some ⟨b, 0, none⟩)), (1, .int .i64 now), (5, .slice p.1.2.1 p.1.1.1.length p.1.2.2)])
  (fun p => pt p.1.2.1 (Row 3 1 p.1.1.1.length p.1.2.2 (ints p.1.1.1)) :: pt (some ⟨b, 0, none⟩) (LimboO p.1.1.2) :: F) (fun p => p.1.1.2.cnt) ⟨(([], m), (none, 0)), by simp, by simp, rfl⟩ (sub.cons rfl (sub.cons rfl (sub.cons rfl sub.nil))) (Ent.refl _) ?_
 rintro ⟨⟨⟨out, m'⟩, ⟨ro, co⟩⟩, hsz, he1, he2⟩
 dsimp only at hsz he1 he2 ⊢
 refine go ?_
 refine Cx.ifp rfl (fun h2 => ?_) (fun h2 => ?_)
 rotate_left
 ·refine go ?_
  have hra : readyAll now m' = ([], m') := by unfold readyAll; rw [if_neg (by omega)]
  rw [hra] at he1 he2
  simp only [List.append_nil] at he1
  subst he1; subst he2
  exact Kr.one (.inr rfl) rfl (Ent.refl _) ⟨ro, co, rfl, rfl⟩
 refine Cx.openp (a := some ⟨b, 0, none⟩) rfl ?_
 rintro ⟨⟨r0, c0⟩, ⟨r1, c1⟩, ⟨r2, c2⟩⟩
 simp only [List.cons_append, List.nil_append]
 refine go ?_
 refine Cx.lp (α := {k : Nat // k ≤ 3}) (fun k => [(0, .pointer (some ⟨b, 0, none⟩)), (1, .int .i64 now), (5, .slice ro out.length co), (6, lptr b (leastUp now m' k.1)), (11, .int .i64 k.1)]) (fun _ => _) (fun k => 3 - k.1) ⟨0, by omega⟩
  (sub.cons rfl (sub.cons rfl (sub.cons rfl (sub.cons rfl (sub.cons rfl sub.nil))))) (Ent.refl _) ?_
 rintro ⟨k, hk⟩
 dsimp only
 rcases (show k = 0 ∨ k = 1 ∨ k = 2 ∨ k = 3 by omega) with rfl | rfl | rfl | rfl
 ·refine go ?_
  refine Sx.pv rfl ⟨by omega, by omega⟩ ?_
  rcases hlu : leastUp now m' 0 with _ | j
  ·refine go ?_
   refine Cx.calm (by kernel_rfl) ?_
   repeat' (first | (refine Cm.pvs rfl ?_) | (refine Cm.step rfl ?_) | (refine Cm.done ?_) | (refine Cm.ldb rfl rfl (by rfl) ?_) | (refine Cm.ldbs rfl rfl rfl ?_))
   refine Cm.ca rfl rfl (bucketOpen (tag := m'.t0) (xs := m'.x0) (Has.cell rfl) (Has.cell rfl) rfl h2 hnow) ?_
   cases hop : openM now m'.t0 m'.x0
   ·repeat' (first | (refine Cm.pvs rfl ?_) | (refine Cm.step rfl ?_) | (refine Cm.done ?_) | (refine Cm.ldb rfl rfl (by rfl) ?_) | (refine Cm.ldbs rfl rfl rfl ?_))
    refine go ?_
    refine Klp.nm ⟨1, by omega⟩ (sub.cons rfl (sub.cons rfl (sub.cons rfl (sub.cons (Eq.trans ?_ (congrArg (fun o => some (lptr b o)) ((leastUp_no (k := 0) hop).trans hlu : leastUp now m' 1 = _).symm)) (sub.cons rfl sub.nil))))) (Ent.refl _) (by simp)
    rfl
   ·repeat' (first | (refine Cm.pvs rfl ?_) | (refine Cm.step rfl ?_) | (refine Cm.done ?_) | (refine Cm.ldb rfl rfl (by rfl) ?_) | (refine Cm.ldbs rfl rfl rfl ?_))
    refine go ?_
    refine Klp.nm ⟨1, by omega⟩ (sub.cons rfl (sub.cons rfl (sub.cons rfl (sub.cons (Eq.trans ?_ (congrArg (fun o => some (lptr b o)) (leastUp_first (k := 0) hop hlu : leastUp now m' 1 = _).symm)) (sub.cons rfl sub.nil))))) (Ent.refl _) (by simp)
    rfl
  ·exact absurd (leastUp_lt hlu).1 (by omega)
 ·refine go ?_
  refine Sx.pv rfl ⟨by omega, by omega⟩ ?_
  rcases hlu : leastUp now m' 1 with _ | j
  ·refine go ?_
   refine Cx.calm (by kernel_rfl) ?_
   repeat' (first | (refine Cm.pvs rfl ?_) | (refine Cm.step rfl ?_) | (refine Cm.done ?_) | (refine Cm.ldb rfl rfl (by rfl) ?_) | (refine Cm.ldbs rfl rfl rfl ?_))
   refine Cm.ca rfl rfl (bucketOpen (tag := m'.t1) (xs := m'.x1) (Has.cell rfl) (Has.cell rfl) rfl h2 hnow) ?_
   cases hop : openM now m'.t1 m'.x1
   ·repeat' (first | (refine Cm.pvs rfl ?_) | (refine Cm.step rfl ?_) | (refine Cm.done ?_) | (refine Cm.ldb rfl rfl (by rfl) ?_) | (refine Cm.ldbs rfl rfl rfl ?_))
    refine go ?_
    refine Klp.nm ⟨2, by omega⟩ (sub.cons rfl (sub.cons rfl (sub.cons rfl (sub.cons (Eq.trans ?_ (congrArg (fun o => some (lptr b o)) ((leastUp_no (k := 1) hop).trans hlu : leastUp now m' 2 = _).symm)) (sub.cons rfl sub.nil))))) (Ent.refl _) (by simp)
    rfl
   ·repeat' (first | (refine Cm.pvs rfl ?_) | (refine Cm.step rfl ?_) | (refine Cm.done ?_) | (refine Cm.ldb rfl rfl (by rfl) ?_) | (refine Cm.ldbs rfl rfl rfl ?_))
    refine go ?_
    refine Klp.nm ⟨2, by omega⟩ (sub.cons rfl (sub.cons rfl (sub.cons rfl (sub.cons (Eq.trans ?_ (congrArg (fun o => some (lptr b o)) (leastUp_first (k := 1) hop hlu : leastUp now m' 2 = _).symm)) (sub.cons rfl sub.nil))))) (Ent.refl _) (by simp)
    rfl
  ·have hj := (leastUp_lt hlu).1
   rcases (show j = 0 by omega) with rfl
   ·refine go ?_
    refine Cx.calm (by kernel_rfl) ?_
    repeat' (first | (refine Cm.pvs rfl ?_) | (refine Cm.step rfl ?_) | (refine Cm.done ?_) | (refine Cm.ldb rfl rfl (by rfl) ?_) | (refine Cm.ldbs rfl rfl rfl ?_))
    refine Cm.ca rfl rfl (bucketOpen (tag := m'.t1) (xs := m'.x1) (Has.cell rfl) (Has.cell rfl) rfl h2 hnow) ?_
    cases hop : openM now m'.t1 m'.x1
    ·repeat' (first | (refine Cm.pvs rfl ?_) | (refine Cm.step rfl ?_) | (refine Cm.done ?_) | (refine Cm.ldb rfl rfl (by rfl) ?_) | (refine Cm.ldbs rfl rfl rfl ?_))
     refine go ?_
     refine Klp.nm ⟨2, by omega⟩ (sub.cons rfl (sub.cons rfl (sub.cons rfl (sub.cons (Eq.trans ?_ (congrArg (fun o => some (lptr b o)) ((leastUp_no (k := 1) hop).trans hlu : leastUp now m' 2 = _).symm)) (sub.cons rfl sub.nil))))) (Ent.refl _) (by simp)
     rfl
    ·repeat' (first | (refine Cm.pvs rfl ?_) | (refine Cm.step rfl ?_) | (refine Cm.done ?_) | (refine Cm.ldb rfl rfl (by rfl) ?_) | (refine Cm.ldbs rfl rfl rfl ?_))
     refine Cx.ifp rfl (fun h3 => ?_) (fun h3 => ?_)
     ·refine go ?_
      refine Klp.nm ⟨2, by omega⟩ (sub.cons rfl (sub.cons rfl (sub.cons rfl (sub.cons (Eq.trans ?_ (congrArg (fun o => some (lptr b o)) (leastUp_less (k := 1) hop hlu h3 : leastUp now m' 2 = _).symm)) (sub.cons rfl sub.nil))))) (Ent.refl _) (by simp)
      rfl
     ·refine go ?_
      refine Klp.nm ⟨2, by omega⟩ (sub.cons rfl (sub.cons rfl (sub.cons rfl (sub.cons (Eq.trans ?_ (congrArg (fun o => some (lptr b o)) (leastUp_keep (k := 1) hop hlu h3 : leastUp now m' 2 = _).symm)) (sub.cons rfl sub.nil))))) (Ent.refl _) (by simp)
      rfl
 ·refine go ?_
  refine Sx.pv rfl ⟨by omega, by omega⟩ ?_
  rcases hlu : leastUp now m' 2 with _ | j
  ·refine go ?_
   refine Cx.calm (by kernel_rfl) ?_
   repeat' (first | (refine Cm.pvs rfl ?_) | (refine Cm.step rfl ?_) | (refine Cm.done ?_) | (refine Cm.ldb rfl rfl (by rfl) ?_) | (refine Cm.ldbs rfl rfl rfl ?_))
   refine Cm.ca rfl rfl (bucketOpen (tag := m'.t2) (xs := m'.x2) (Has.cell rfl) (Has.cell rfl) rfl h2 hnow) ?_
   cases hop : openM now m'.t2 m'.x2
   ·repeat' (first | (refine Cm.pvs rfl ?_) | (refine Cm.step rfl ?_) | (refine Cm.done ?_) | (refine Cm.ldb rfl rfl (by rfl) ?_) | (refine Cm.ldbs rfl rfl rfl ?_))
    refine go ?_
    refine Klp.nm ⟨3, by omega⟩ (sub.cons rfl (sub.cons rfl (sub.cons rfl (sub.cons (Eq.trans ?_ (congrArg (fun o => some (lptr b o)) ((leastUp_no (k := 2) hop).trans hlu : leastUp now m' 3 = _).symm)) (sub.cons rfl sub.nil))))) (Ent.refl _) (by simp)
    rfl
   ·repeat' (first | (refine Cm.pvs rfl ?_) | (refine Cm.step rfl ?_) | (refine Cm.done ?_) | (refine Cm.ldb rfl rfl (by rfl) ?_) | (refine Cm.ldbs rfl rfl rfl ?_))
    refine go ?_
    refine Klp.nm ⟨3, by omega⟩ (sub.cons rfl (sub.cons rfl (sub.cons rfl (sub.cons (Eq.trans ?_ (congrArg (fun o => some (lptr b o)) (leastUp_first (k := 2) hop hlu : leastUp now m' 3 = _).symm)) (sub.cons rfl sub.nil))))) (Ent.refl _) (by simp)
    rfl
  ·have hj := (leastUp_lt hlu).1
   rcases (show j = 0 ∨ j = 1 by omega) with rfl | rfl
   ·refine go ?_
    refine Cx.calm (by kernel_rfl) ?_
    repeat' (first | (refine Cm.pvs rfl ?_) | (refine Cm.step rfl ?_) | (refine Cm.done ?_) | (refine Cm.ldb rfl rfl (by rfl) ?_) | (refine Cm.ldbs rfl rfl rfl ?_))
    refine Cm.ca rfl rfl (bucketOpen (tag := m'.t2) (xs := m'.x2) (Has.cell rfl) (Has.cell rfl) rfl h2 hnow) ?_
    cases hop : openM now m'.t2 m'.x2
    ·repeat' (first | (refine Cm.pvs rfl ?_) | (refine Cm.step rfl ?_) | (refine Cm.done ?_) | (refine Cm.ldb rfl rfl (by rfl) ?_) | (refine Cm.ldbs rfl rfl rfl ?_))
     refine go ?_
     refine Klp.nm ⟨3, by omega⟩ (sub.cons rfl (sub.cons rfl (sub.cons rfl (sub.cons (Eq.trans ?_ (congrArg (fun o => some (lptr b o)) ((leastUp_no (k := 2) hop).trans hlu : leastUp now m' 3 = _).symm)) (sub.cons rfl sub.nil))))) (Ent.refl _) (by simp)
     rfl
    ·repeat' (first | (refine Cm.pvs rfl ?_) | (refine Cm.step rfl ?_) | (refine Cm.done ?_) | (refine Cm.ldb rfl rfl (by rfl) ?_) | (refine Cm.ldbs rfl rfl rfl ?_))
     refine Cx.ifp rfl (fun h3 => ?_) (fun h3 => ?_)
     ·refine go ?_
      refine Klp.nm ⟨3, by omega⟩ (sub.cons rfl (sub.cons rfl (sub.cons rfl (sub.cons (Eq.trans ?_ (congrArg (fun o => some (lptr b o)) (leastUp_less (k := 2) hop hlu h3 : leastUp now m' 3 = _).symm)) (sub.cons rfl sub.nil))))) (Ent.refl _) (by simp)
      rfl
     ·refine go ?_
      refine Klp.nm ⟨3, by omega⟩ (sub.cons rfl (sub.cons rfl (sub.cons rfl (sub.cons (Eq.trans ?_ (congrArg (fun o => some (lptr b o)) (leastUp_keep (k := 2) hop hlu h3 : leastUp now m' 3 = _).symm)) (sub.cons rfl sub.nil))))) (Ent.refl _) (by simp)
      rfl
   ·refine go ?_
    refine Cx.calm (by kernel_rfl) ?_
    repeat' (first | (refine Cm.pvs rfl ?_) | (refine Cm.step rfl ?_) | (refine Cm.done ?_) | (refine Cm.ldb rfl rfl (by rfl) ?_) | (refine Cm.ldbs rfl rfl rfl ?_))
    refine Cm.ca rfl rfl (bucketOpen (tag := m'.t2) (xs := m'.x2) (Has.cell rfl) (Has.cell rfl) rfl h2 hnow) ?_
    cases hop : openM now m'.t2 m'.x2
    ·repeat' (first | (refine Cm.pvs rfl ?_) | (refine Cm.step rfl ?_) | (refine Cm.done ?_) | (refine Cm.ldb rfl rfl (by rfl) ?_) | (refine Cm.ldbs rfl rfl rfl ?_))
     refine go ?_
     refine Klp.nm ⟨3, by omega⟩ (sub.cons rfl (sub.cons rfl (sub.cons rfl (sub.cons (Eq.trans ?_ (congrArg (fun o => some (lptr b o)) ((leastUp_no (k := 2) hop).trans hlu : leastUp now m' 3 = _).symm)) (sub.cons rfl sub.nil))))) (Ent.refl _) (by simp)
     rfl
    ·repeat' (first | (refine Cm.pvs rfl ?_) | (refine Cm.step rfl ?_) | (refine Cm.done ?_) | (refine Cm.ldb rfl rfl (by rfl) ?_) | (refine Cm.ldbs rfl rfl rfl ?_))
     refine Cx.ifp rfl (fun h3 => ?_) (fun h3 => ?_)
     ·refine go ?_
      refine Klp.nm ⟨3, by omega⟩ (sub.cons rfl (sub.cons rfl (sub.cons rfl (sub.cons (Eq.trans ?_ (congrArg (fun o => some (lptr b o)) (leastUp_less (k := 2) hop hlu h3 : leastUp now m' 3 = _).symm)) (sub.cons rfl sub.nil))))) (Ent.refl _) (by simp)
      rfl
     ·refine go ?_
      refine Klp.nm ⟨3, by omega⟩ (sub.cons rfl (sub.cons rfl (sub.cons rfl (sub.cons (Eq.trans ?_ (congrArg (fun o => some (lptr b o)) (leastUp_keep (k := 2) hop hlu h3 : leastUp now m' 3 = _).symm)) (sub.cons rfl sub.nil))))) (Ent.refl _) (by simp)
      rfl
 ·refine go ?_
  have hall : ∀ o, leastUp now m' 3 = o → readyAll now m' = match o with
    | none => ([], m')
    | some j => (m'.items j ++ (readyAll now (m'.put j 0 [])).1, (readyAll now (m'.put j 0 [])).2) := by
   intro o ho
   unfold readyAll
   simp only [if_pos h2]
   cases o with
   | none =>
     cases hc : m'.cnt with
     | zero => rfl
     | succ c => simp [readyM, ho]
   | some j =>
     rw [cnt_put (leastUp_lt ho).1 (open_ne (leastUp_lt ho).2)]
     simp [readyM, ho]
  rcases hlu : leastUp now m' 3 with _ | j
  ·have hra := hall _ hlu
   dsimp only at hra
   rw [hra] at he1 he2
   simp only [List.append_nil] at he1
   subst he1; subst he2
   refine go ?_
   refine Kr.one (.inr rfl) rfl ?_ ⟨ro, co, rfl, rfl⟩
   refine Ent.trans (LimboO.close (a := some ⟨b, 0, none⟩) (r0 := r0) (r1 := r1) (r2 := r2) _ rfl rfl rfl rfl rfl rfl rfl rfl rfl rfl) ?_
   exact ent
  ·have hra := hall _ hlu
   have hj := (leastUp_lt hlu).1
   have hne := open_ne (leastUp_lt hlu).2
   have hsp := size_put (m := m') hj
   have hcp := cnt_put hj hne
   dsimp only at hra
   rw [hra, ← List.append_assoc] at he1
   rw [hra] at he2
   have hm1 : out.length + (m'.x0.length + m'.x1.length + m'.x2.length) = m.size := hsz
   rcases (show j = 0 ∨ j = 1 ∨ j = 2 by omega) with rfl | rfl | rfl
   ·refine go ?_
    refine Sx.rowkey (a := r0) fun hxj hnj _ hkj => ?_
    refine Sx.ap (ra := ro) rfl rfl (Rd.any (a := r0) hxj (hkj.imp (fun h => h.2.1) id)) (ones_ints _) (by simp [maxLen]; omega) (by omega) fun ra ca hc => ?_
    refine go ?_
    refine Sx.st (b := b) rfl rfl rfl rfl rfl rfl ?_
    dsimp only [lay]
    refine go ?_
    refine Klp.nm ⟨((out ++ m'.items 0, m'.put 0 0 []), (ra, ca)), by dsimp only; rw [List.length_append]; omega, he1, he2⟩ (sub.cons rfl (sub.cons rfl (sub.cons ?_ sub.nil))) ?_ (by dsimp only; omega)
    ·show _ = some (Value.slice ra (out ++ m'.items 0).length ca)
     rw [show (out ++ m'.items 0).length = out.length + m'.x0.length by simp [Lm.items]]
     rfl
    ·dsimp only
     refine Ent.trans (Ent.rownil 3 1) ?_
     refine Ent.trans (LimboO.close (a := some ⟨b, 0, none⟩) (r0 := none) (r1 := r1) (r2 := r2) (m'.put 0 0 []) rfl rfl rfl rfl rfl rfl rfl rfl rfl rfl) ?_
     rw [show (out ++ m'.items 0).length = out.length + m'.x0.length by simp [Lm.items], show ints (out ++ m'.items 0) = ints out ++ ints m'.x0 by rw [ints_append]; rfl]
     exact ent
   ·refine go ?_
    refine Sx.rowkey (a := r1) fun hxj hnj _ hkj => ?_
    refine Sx.ap (ra := ro) rfl rfl (Rd.any (a := r1) hxj (hkj.imp (fun h => h.2.1) id)) (ones_ints _) (by simp [maxLen]; omega) (by omega) fun ra ca hc => ?_
    refine go ?_
    refine Sx.st (b := b) rfl rfl rfl rfl rfl rfl ?_
    dsimp only [lay]
    refine go ?_
    refine Klp.nm ⟨((out ++ m'.items 1, m'.put 1 0 []), (ra, ca)), by dsimp only; rw [List.length_append]; omega, he1, he2⟩ (sub.cons rfl (sub.cons rfl (sub.cons ?_ sub.nil))) ?_ (by dsimp only; omega)
    ·show _ = some (Value.slice ra (out ++ m'.items 1).length ca)
     rw [show (out ++ m'.items 1).length = out.length + m'.x1.length by simp [Lm.items]]
     rfl
    ·dsimp only
     refine Ent.trans (Ent.rownil 3 1) ?_
     refine Ent.trans (LimboO.close (a := some ⟨b, 0, none⟩) (r0 := r0) (r1 := none) (r2 := r2) (m'.put 1 0 []) rfl rfl rfl rfl rfl rfl rfl rfl rfl rfl) ?_
     rw [show (out ++ m'.items 1).length = out.length + m'.x1.length by simp [Lm.items], show ints (out ++ m'.items 1) = ints out ++ ints m'.x1 by rw [ints_append]; rfl]
     exact ent
   ·refine go ?_
    refine Sx.rowkey (a := r2) fun hxj hnj _ hkj => ?_
    refine Sx.ap (ra := ro) rfl rfl (Rd.any (a := r2) hxj (hkj.imp (fun h => h.2.1) id)) (ones_ints _) (by simp [maxLen]; omega) (by omega) fun ra ca hc => ?_
    refine go ?_
    refine Sx.st (b := b) rfl rfl rfl rfl rfl rfl ?_
    dsimp only [lay]
    refine go ?_
    refine Klp.nm ⟨((out ++ m'.items 2, m'.put 2 0 []), (ra, ca)), by dsimp only; rw [List.length_append]; omega, he1, he2⟩ (sub.cons rfl (sub.cons rfl (sub.cons ?_ sub.nil))) ?_ (by dsimp only; omega)
    ·show _ = some (Value.slice ra (out ++ m'.items 2).length ca)
     rw [show (out ++ m'.items 2).length = out.length + m'.x2.length by simp [Lm.items]]
     rfl
    ·dsimp only
     refine Ent.trans (Ent.rownil 3 1) ?_
     refine Ent.trans (LimboO.close (a := some ⟨b, 0, none⟩) (r0 := r0) (r1 := r1) (r2 := none) (m'.put 2 0 []) rfl rfl rfl rfl rfl rfl rfl rfl rfl rfl) ?_
     rw [show (out ++ m'.items 2).length = out.length + m'.x2.length by simp [Lm.items], show ints (out ++ m'.items 2) = ints out ++ ints m'.x2 by rw [ints_append]; rfl]
     exact ent
end
end Go.Proofs.YtflalhdofhobmaaGreat


namespace Go.Proofs.YtflalhdofhobmaaGreat
open Go
attribute [local irreducible] Sx Cx Rx Fx Krg Ksq Kbl Klp Kr
section
variable {L F : St}
def anyOpen (now : Int) (m : Lm) : Bool := decide (2 ≤ now ∧ (m.open_ now 0 = true ∨ m.open_ now 1 = true ∨ m.open_ now 2 = true))
end
end Go.Proofs.YtflalhdofhobmaaGreat


namespace Go.Proofs.YtflalhdofhobmaaGreat
open Go
end Go.Proofs.YtflalhdofhobmaaGreat


namespace Go.Proofs.YtflalhdofhobmaaGreat
open Go
attribute [local irreducible] Sx Cx Rx Fx Krg Ksq Kbl Klp Kr
structure RTag (m : Lm) (u0 u1 u2 l : Int) : Prop where
 h0 : m.x0 ≠ [] → u0 = m.t0
 h1 : m.x1 ≠ [] → u1 = m.t1
 h2 : m.x2 ≠ [] → u2 = m.t2
 hl : l = m.last ∨ (l = -1 ∧ m.last = 0)
section
variable {L F : St}
def refL (T : TypeId) (m : Lm) (a : Option Addr) (y : ((Option Addr × Nat) × (Option Addr × Nat) × (Option Addr × Nat)) × (Int × Int × Int × Int)) : St :=
  [lift (RTag m y.2.1 y.2.2.1 y.2.2.2.1 y.2.2.2.2), pt a (Blk T [.int .i64 y.2.1, .int .i64 y.2.2.1, .int .i64 y.2.2.2.1, .slice y.1.1.1 m.x0.length y.1.1.2, .slice y.1.2.1.1 m.x1.length y.1.2.1.2, .slice y.1.2.2.1 m.x2.length y.1.2.2.2, .int .i64 y.2.2.2.2]),
   pt y.1.1.1 (Row 3 1 m.x0.length y.1.1.2 (ints m.x0)), pt y.1.2.1.1 (Row 3 1 m.x1.length y.1.2.1.2 (ints m.x1)), pt y.1.2.2.1 (Row 3 1 m.x2.length y.1.2.2.2 (ints m.x2))]
def RLimboT (T : TypeId) (m : Lm) (a : Option Addr) : As := exs (refL T m a)
abbrev RLimboO := RLimboT 263
theorem RLimboO.close {T : TypeId} {a r0 r1 r2 : Option Addr} {c0 c1 c2 n0 n1 n2 : Nat} {u0 u1 u2 l : Int} {v0 v1 v2 v3 : Value} {w0 w1 w2 : List Value} {F F0 F1 G : St} (m : Lm) (hT : RTag m u0 u1 u2 l)
  [t : Take L a (Blk T [v0, v1, v2, .slice r0 n0 c0, .slice r1 n1 c1, .slice r2 n2 c2, v3]) F] [q0 : Take F r0 (Row 3 1 n0 c0 w0) F0] [q1 : Take F0 r1 (Row 3 1 n1 c1 w1) F1] [q2 : Take F1 r2 (Row 3 1 n2 c2 w2) G]
  (h0 : v0 = .int .i64 u0) (h1 : v1 = .int .i64 u1) (h2 : v2 = .int .i64 u2) (h3 : v3 = .int .i64 l) (e0 : n0 = m.x0.length) (e1 : n1 = m.x1.length) (e2 : n2 = m.x2.length)
  (g0 : w0 = ints m.x0) (g1 : w1 = ints m.x1) (g2 : w2 = ints m.x2) : Ent L (pt a (RLimboT T m) :: G) := by
 subst h0; subst h1; subst h2; subst h3; subst e0; subst e1; subst e2; subst g0; subst g1; subst g2
 refine Ent.trans (Ent.take1 (t := t) (Ent.trans (Ent.of q0.out) (Ent.cons (Ent.trans (Ent.of q1.out) (Ent.cons (Ent.of q2.out)))))) ?_
 refine Ent.trans (Ent.lift hT (Ent.refl _)) ?_
 exact Ent.close (f := refL T m a) rfl (((r0, c0), (r1, c1), (r2, c2)), (u0, u1, u2, l))
theorem RTag.nil : RTag Lm.nil 0 0 0 (-1) := ⟨fun h => absurd rfl h, fun h => absurd rfl h, fun h => absurd rfl h, .inr ⟨rfl, rfl⟩⟩
theorem refLimboNew : Fx Tryz.prog 150 [] L (fun v L' => ∃ g, v = .pointer (some ⟨g, 0, none⟩) ∧ L' = pt (some ⟨g, 0, none⟩) (RLimboO Lm.nil) :: L) := by
 refine Fx.mk Tryz.func150 k150 (Nat.le_of_ble_eq_true rfl) ?_
 dsimp only [c150, envOf, Nat.reduceAdd]
 refine go ?_
 refine Sx.bx rfl rfl fun g => ?_
 refine go ?_
 refine Kr.one (.inr rfl) rfl ?_ ⟨g, rfl, rfl⟩
 refine Ent.trans (Ent.rownil 3 1) (Ent.trans (Ent.rownil 3 1) (Ent.trans (Ent.rownil 3 1) ?_))
 exact RLimboO.close (a := some ⟨g, 0, none⟩) (r0 := none) (r1 := none) (r2 := none) Lm.nil RTag.nil rfl rfl rfl rfl rfl rfl rfl rfl rfl rfl
def leastI (o : Option Nat) : Int := match o with | none => -1 | some j => j
set_option maxHeartbeats 4000000 in
theorem refLeast {b : Nat} {m : Lm} {now : Int} {F : St} [t : Take L (some ⟨b, 0, none⟩) (RLimboO m) F] (h2 : 2 ≤ now) (h3 : now ≤ 9223372036854775807) :
  Fx Tryz.prog 254 [.pointer (some ⟨b, 0, none⟩), .int .i64 now] L (fun v L' => v = .int .i64 (leastI (leastUp now m 3)) ∧ L = L') := by
 refine Fx.kept (t := t) ?_
 refine Fx.mk Tryz.func254 k254 (Nat.le_of_ble_eq_true rfl) ?_
 dsimp only [c254, envOf, Nat.reduceAdd]
 refine Cx.openp (t := t) rfl ?_
 rintro ⟨⟨⟨r0, c0⟩, ⟨r1, c1⟩, ⟨r2, c2⟩⟩, ⟨u0, u1, u2, l⟩⟩
 simp only [refL, List.cons_append, List.nil_append]
 refine Cx.liftp fun hT => ?_
 refine go ?_
 refine Cx.lp (α := {k : Nat // k ≤ 3}) (fun k => [(0, .pointer (some ⟨b, 0, none⟩)), (1, .int .i64 now), (5, .int .i64 (leastI (leastUp now m k.1))), (6, .int .i64 k.1)]) (fun _ => _) (fun k => 3 - k.1) ⟨0, by omega⟩
  (sub.cons rfl (sub.cons rfl (sub.cons rfl (sub.cons rfl sub.nil)))) (Ent.refl _) ?_
 rintro ⟨k, hk⟩
 dsimp only
 have hst : ∀ {k : Nat} {v : Int}, leastI (leastUp now m (k + 1)) = v → some (Value.int .i64 v) = some (Value.int .i64 (leastI (leastUp now m (k + 1)))) := fun h => by rw [h]
 rcases (show k = 0 ∨ k = 1 ∨ k = 2 ∨ k = 3 by omega) with rfl | rfl | rfl | rfl
 ·refine go ?_
  refine Cx.ordc rfl (by kernel_rfl) ?_
  refine ge ?_
  by_cases hx : m.x0 = []
  ·have ho : m.open_ now 0 = false := by simp [Lm.open_, openM, Lm.items, hx]
   refine Ev.no 19 rfl (decide_eq_false (by rw [hx]; decide)) ?_
   refine ge ?_
   refine go ?_
   exact Klp.nm ⟨0 + 1, by omega⟩ (sub.cons rfl (sub.cons rfl (sub.cons (Eq.trans rfl (hst (congrArg leastI (leastUp_no ho)))) (sub.cons rfl sub.nil)))) (Ent.refl _) (by simp)
  ·have hu := hT.h0 hx
   have hp := List.length_pos_iff.2 hx
   refine Ev.yes 19 rfl (decide_eq_true (by omega)) ?_
   refine ge ?_
   rw [w64 (n := now - 2) (by omega) (by omega)]
   by_cases h4 : m.t0 ≤ now - 2
   ·have ho : m.open_ now 0 = true := by simp [Lm.open_, openM, Lm.items, Lm.tag]; exact ⟨hp, h4⟩
    refine Ev.yes 30 rfl (decide_eq_true (by omega)) ?_
    refine ge ?_
    refine go ?_
    exact Klp.nm ⟨0 + 1, by omega⟩ (sub.cons rfl (sub.cons rfl (sub.cons (Eq.trans rfl (hst (congrArg leastI (leastUp_first ho rfl)))) (sub.cons rfl sub.nil)))) (Ent.refl _) (by simp)
   ·have ho : m.open_ now 0 = false := by simp [Lm.open_, openM, Lm.items, Lm.tag]; intro _; omega
    refine Ev.no 30 rfl (decide_eq_false (by omega)) ?_
    refine ge ?_
    refine go ?_
    exact Klp.nm ⟨0 + 1, by omega⟩ (sub.cons rfl (sub.cons rfl (sub.cons (Eq.trans rfl (hst (congrArg leastI (leastUp_no ho)))) (sub.cons rfl sub.nil)))) (Ent.refl _) (by simp)
 ·refine go ?_
  refine Cx.ordc rfl (by kernel_rfl) ?_
  refine ge ?_
  by_cases hx : m.x1 = []
  ·have ho : m.open_ now 1 = false := by simp [Lm.open_, openM, Lm.items, hx]
   refine Ev.no 19 rfl (decide_eq_false (by rw [hx]; decide)) ?_
   refine ge ?_
   refine go ?_
   exact Klp.nm ⟨1 + 1, by omega⟩ (sub.cons rfl (sub.cons rfl (sub.cons (Eq.trans rfl (hst (congrArg leastI (leastUp_no ho)))) (sub.cons rfl sub.nil)))) (Ent.refl _) (by simp)
  ·have hu := hT.h1 hx
   have hp := List.length_pos_iff.2 hx
   refine Ev.yes 19 rfl (decide_eq_true (by omega)) ?_
   refine ge ?_
   rw [w64 (n := now - 2) (by omega) (by omega)]
   by_cases h4 : m.t1 ≤ now - 2
   ·have ho : m.open_ now 1 = true := by simp [Lm.open_, openM, Lm.items, Lm.tag]; exact ⟨hp, h4⟩
    refine Ev.yes 30 rfl (decide_eq_true (by omega)) ?_
    refine ge ?_
    rcases hlu : leastUp now m 1 with _ | j
    ·refine Ev.yes 33 rfl (decide_eq_true (by simp [leastI])) ?_
     refine ge ?_
     refine go ?_
     exact Klp.nm ⟨1 + 1, by omega⟩ (sub.cons rfl (sub.cons rfl (sub.cons (Eq.trans rfl (hst (congrArg leastI (leastUp_first ho hlu)))) (sub.cons rfl sub.nil)))) (Ent.refl _) (by simp)
    ·refine Ev.no 33 rfl (decide_eq_false (by simp [leastI])) ?_
     have hj := leastUp_lt hlu
     rcases (show j = 0 by omega) with rfl
     ·have hv := hT.h0 (open_ne hj.2)
      refine ge ?_
      by_cases h5 : m.t1 < m.t0
      ·refine Cx.cyes rfl (decide_eq_true (by omega)) ?_
       refine go ?_
       exact Klp.nm ⟨1 + 1, by omega⟩ (sub.cons rfl (sub.cons rfl (sub.cons (Eq.trans rfl (hst (congrArg leastI (leastUp_less ho hlu h5)))) (sub.cons rfl sub.nil)))) (Ent.refl _) (by simp)
      ·refine Cx.cno rfl (decide_eq_false (by omega)) ?_
       refine go ?_
       exact Klp.nm ⟨1 + 1, by omega⟩ (sub.cons rfl (sub.cons rfl (sub.cons (Eq.trans rfl (hst (congrArg leastI (leastUp_keep ho hlu h5)))) (sub.cons rfl sub.nil)))) (Ent.refl _) (by simp)
   ·have ho : m.open_ now 1 = false := by simp [Lm.open_, openM, Lm.items, Lm.tag]; intro _; omega
    refine Ev.no 30 rfl (decide_eq_false (by omega)) ?_
    refine ge ?_
    refine go ?_
    exact Klp.nm ⟨1 + 1, by omega⟩ (sub.cons rfl (sub.cons rfl (sub.cons (Eq.trans rfl (hst (congrArg leastI (leastUp_no ho)))) (sub.cons rfl sub.nil)))) (Ent.refl _) (by simp)
 ·refine go ?_
  refine Cx.ordc rfl (by kernel_rfl) ?_
  refine ge ?_
  by_cases hx : m.x2 = []
  ·have ho : m.open_ now 2 = false := by simp [Lm.open_, openM, Lm.items, hx]
   refine Ev.no 19 rfl (decide_eq_false (by rw [hx]; decide)) ?_
   refine ge ?_
   refine go ?_
   exact Klp.nm ⟨2 + 1, by omega⟩ (sub.cons rfl (sub.cons rfl (sub.cons (Eq.trans rfl (hst (congrArg leastI (leastUp_no ho)))) (sub.cons rfl sub.nil)))) (Ent.refl _) (by simp)
  ·have hu := hT.h2 hx
   have hp := List.length_pos_iff.2 hx
   refine Ev.yes 19 rfl (decide_eq_true (by omega)) ?_
   refine ge ?_
   rw [w64 (n := now - 2) (by omega) (by omega)]
   by_cases h4 : m.t2 ≤ now - 2
   ·have ho : m.open_ now 2 = true := by simp [Lm.open_, openM, Lm.items, Lm.tag]; exact ⟨hp, h4⟩
    refine Ev.yes 30 rfl (decide_eq_true (by omega)) ?_
    refine ge ?_
    rcases hlu : leastUp now m 2 with _ | j
    ·refine Ev.yes 33 rfl (decide_eq_true (by simp [leastI])) ?_
     refine ge ?_
     refine go ?_
     exact Klp.nm ⟨2 + 1, by omega⟩ (sub.cons rfl (sub.cons rfl (sub.cons (Eq.trans rfl (hst (congrArg leastI (leastUp_first ho hlu)))) (sub.cons rfl sub.nil)))) (Ent.refl _) (by simp)
    ·refine Ev.no 33 rfl (decide_eq_false (by simp [leastI])) ?_
     have hj := leastUp_lt hlu
     rcases (show j = 0 ∨ j = 1 by omega) with rfl | rfl
     ·have hv := hT.h0 (open_ne hj.2)
      refine ge ?_
      by_cases h5 : m.t2 < m.t0
      ·refine Cx.cyes rfl (decide_eq_true (by omega)) ?_
       refine go ?_
       exact Klp.nm ⟨2 + 1, by omega⟩ (sub.cons rfl (sub.cons rfl (sub.cons (Eq.trans rfl (hst (congrArg leastI (leastUp_less ho hlu h5)))) (sub.cons rfl sub.nil)))) (Ent.refl _) (by simp)
      ·refine Cx.cno rfl (decide_eq_false (by omega)) ?_
       refine go ?_
       exact Klp.nm ⟨2 + 1, by omega⟩ (sub.cons rfl (sub.cons rfl (sub.cons (Eq.trans rfl (hst (congrArg leastI (leastUp_keep ho hlu h5)))) (sub.cons rfl sub.nil)))) (Ent.refl _) (by simp)
     ·have hv := hT.h1 (open_ne hj.2)
      refine ge ?_
      by_cases h5 : m.t2 < m.t1
      ·refine Cx.cyes rfl (decide_eq_true (by omega)) ?_
       refine go ?_
       exact Klp.nm ⟨2 + 1, by omega⟩ (sub.cons rfl (sub.cons rfl (sub.cons (Eq.trans rfl (hst (congrArg leastI (leastUp_less ho hlu h5)))) (sub.cons rfl sub.nil)))) (Ent.refl _) (by simp)
      ·refine Cx.cno rfl (decide_eq_false (by omega)) ?_
       refine go ?_
       exact Klp.nm ⟨2 + 1, by omega⟩ (sub.cons rfl (sub.cons rfl (sub.cons (Eq.trans rfl (hst (congrArg leastI (leastUp_keep ho hlu h5)))) (sub.cons rfl sub.nil)))) (Ent.refl _) (by simp)
   ·have ho : m.open_ now 2 = false := by simp [Lm.open_, openM, Lm.items, Lm.tag]; intro _; omega
    refine Ev.no 30 rfl (decide_eq_false (by omega)) ?_
    refine ge ?_
    refine go ?_
    exact Klp.nm ⟨2 + 1, by omega⟩ (sub.cons rfl (sub.cons rfl (sub.cons (Eq.trans rfl (hst (congrArg leastI (leastUp_no ho)))) (sub.cons rfl sub.nil)))) (Ent.refl _) (by simp)
 ·refine go ?_
  refine Kr.one (.inr rfl) rfl ?_ ⟨rfl, rfl⟩
  exact RLimboO.close (a := some ⟨b, 0, none⟩) (r0 := r0) (r1 := r1) (r2 := r2) m hT rfl rfl rfl rfl rfl rfl rfl rfl rfl rfl
end
end Go.Proofs.YtflalhdofhobmaaGreat


namespace Go.Proofs.YtflalhdofhobmaaGreat
open Go
attribute [local irreducible] Sx Cx Rx Fx Krg Ksq Kbl Klp Kr
theorem mm_ext {a b : Mm} (hl : a.ws.length = b.ws.length) (hn : a.n = b.n) (h : ∀ i, a.at_ i = b.at_ i) : a = b := by
 obtain ⟨aw, an⟩ := a
 obtain ⟨bw, bn⟩ := b
 simp only at hl hn
 subst hn
 congr 1
 refine List.ext_getElem hl fun i h1 h2 => ?_
 have := h i
 simp only [Mm.at_, List.getD_eq_getElem?_getD, List.getElem?_eq_getElem h1, List.getElem?_eq_getElem h2, Option.getD_some] at this
 exact this
def rUp (k : Sk) (m : Mm) : Nat → Mm
 | 0 => m.lay k.head 1
 | i + 1 => if i + 1 = k.n then ((rUp k m i).lay (k.links + i) ((i + 2) % (k.n + 1))).lay (k.links + i) 0 else (rUp k m i).lay (k.links + i) ((i + 2) % (k.n + 1))
theorem rUp_len (k : Sk) (m : Mm) : ∀ i, (rUp k m i).ws.length = m.ws.length
 | 0 => Mm.len_lay
 | i + 1 => by
   unfold rUp
   split <;> simp only [Mm.len_lay] <;> exact rUp_len k m i
theorem rUp_n (k : Sk) (m : Mm) : ∀ i, (rUp k m i).n = m.n
 | 0 => rfl
 | i + 1 => by
   unfold rUp
   split <;> exact rUp_n k m i
theorem rUp_at {k : Sk} {m : Mm} {len : Nat} (hk : k.ok len) (hl : m.ws.length = len) : ∀ i, i ≤ k.n → ∀ a, (rUp k m i).at_ a = if k.head = a then 1 else if k.links ≤ a ∧ a < k.links + i then (if a - k.links + 1 = k.n then 0 else a - k.links + 2) else m.at_ a
 | 0, _, a => by
   have := hk.h
   unfold rUp
   rw [Mm.at_lay _ (by omega)]
   split
   ·rfl
   ·rw [if_neg (by omega)]
 | i + 1, hi, a => by
   have ih := rUp_at hk hl i (by omega)
   have hll := rUp_len k m i
   have h1 := hk.l; have h2 := hk.a
   unfold rUp
   split
   ·rename_i he
    rw [Mm.at_lay _ (by rw [Mm.len_lay]; omega), Mm.at_lay _ (by omega), ih]
    by_cases e : k.links + i = a
    ·rw [if_pos e, if_neg (by omega), if_pos (by omega), if_pos (by omega)]
    ·rw [if_neg e, if_neg e]
     by_cases hh : k.head = a
     ·rw [if_pos hh, if_pos hh]
     ·rw [if_neg hh, if_neg hh]
      by_cases hr : k.links ≤ a ∧ a < k.links + i
      ·rw [if_pos hr, if_pos (show k.links ≤ a ∧ a < k.links + (i + 1) by omega)]
      ·rw [if_neg hr, if_neg (show ¬ (k.links ≤ a ∧ a < k.links + (i + 1)) by omega)]
   ·rename_i he
    rw [Mm.at_lay _ (by omega), ih]
    by_cases e : k.links + i = a
    ·rw [if_pos e, if_neg (by omega), if_pos (by omega), if_neg (by omega), Nat.mod_eq_of_lt (by omega)]; omega
    ·rw [if_neg e]
     by_cases hh : k.head = a
     ·rw [if_pos hh, if_pos hh]
     ·rw [if_neg hh, if_neg hh]
      by_cases hr : k.links ≤ a ∧ a < k.links + i
      ·rw [if_pos hr, if_pos (show k.links ≤ a ∧ a < k.links + (i + 1) by omega)]
      ·rw [if_neg hr, if_neg (show ¬ (k.links ≤ a ∧ a < k.links + (i + 1)) by omega)]
theorem rUp_fill {k : Sk} {m : Mm} {len : Nat} (hk : k.ok len) (hl : m.ws.length = len) : rUp k m k.n = fillM k m := by
 have k1 := hk.n1; have k3 := hk.h; have k4 := hk.l; have k5 := hk.a
 have hu := fillUp_at (k := k) (m := m) (i := k.n) (by omega)
 have hul := fillUp_len k m k.n
 refine mm_ext ?_ ?_ fun a => ?_
 ·rw [rUp_len, fillM_len]
 ·rw [rUp_n, fillM_n]
 ·rw [rUp_at hk hl k.n (Nat.le_refl _)]
  unfold fillM
  rw [Mm.at_lay _ (by rw [Mm.len_lay]; omega), Mm.at_lay _ (by omega)]
  by_cases hh : k.head = a
  ·rw [if_pos hh, if_pos hh]
  ·rw [if_neg hh, if_neg hh]
   by_cases hr : k.links ≤ a ∧ a < k.links + k.n
   ·rw [if_pos hr]
    by_cases e : k.links + k.n - 1 = a
    ·rw [if_pos e, if_pos (by omega)]
    ·rw [if_neg e, if_neg (by omega)]
     have := hu.1 (a - k.links) (by omega)
     rw [show k.links + (a - k.links) = a by omega] at this
     exact this.symm
   ·rw [if_neg hr, if_neg (by omega)]
    exact (hu.2 a (fun j hj => by omega)).symm
section
variable {L F G : St}
def rmemL (T : TypeId) (m : Mm) (a : Option Addr) (y : Option Addr × Nat) : St :=
 [lift (m.ok ∧ m.ws.length ≤ 8388608), pt a (Blk T [.slice y.1 m.ws.length y.2, .int .i64 (IntKind.i64.wrap (m.n : Int))]), pt y.1 (Row 56 1 m.ws.length y.2 (us m.ws))]
def RMemT (T : TypeId) (m : Mm) (a : Option Addr) : As := exs (rmemL T m a)
abbrev RMemO := RMemT 110
theorem RMemO.close {T : TypeId} {a r : Option Addr} {c n : Nat} {v : Value} {w : List Value} {F G : St} (m : Mm) (hm : m.ok ∧ m.ws.length ≤ 8388608) [t : Take L a (Blk T [.slice r n c, v]) F] [u : Take F r (Row 56 1 n c w) G]
  (hv : v = .int .i64 (IntKind.i64.wrap (m.n : Int))) (hn : n = m.ws.length) (hw : w = us m.ws) : Ent L (pt a (RMemT T m) :: G) := by
 subst hv; subst hn; subst hw
 refine Ent.trans (Ent.take1 (t := t) (Ent.of u.out)) ?_
 refine Ent.trans (Ent.lift hm (Ent.refl _)) ?_
 exact Ent.close (f := rmemL T m a) rfl (r, c)
theorem rmemNew (n : Nat) (h2 : n ≤ 8388608) : Fx Tryz.prog 142 [.int .i64 n] L (fun v L' => ∃ g, v = .pointer (some ⟨g, 0, none⟩) ∧ L' = pt (some ⟨g, 0, none⟩) (RMemO ⟨List.replicate n 0, 0⟩) :: L) := by
 refine Fx.mk Tryz.func142 k142 (Nat.le_of_ble_eq_true rfl) ?_
 dsimp only [c142, envOf, Nat.reduceAdd]
 refine go ?_
 refine Sx.mk rfl rfl (by omega) (by omega) (by omega) (by omega) fun g => ?_
 refine go ?_
 refine Sx.bx rfl rfl fun q => ?_
 refine go ?_
 refine Kr.one (.inr rfl) rfl ?_ ⟨q, rfl, rfl⟩
 have hu : us (List.replicate n 0) = List.replicate n (.int .u64 0) := by simp [us, wd]
 refine RMemO.close (a := some ⟨q, 0, none⟩) (r := some ⟨g, 0, none⟩) ⟨List.replicate n 0, 0⟩ ⟨fun w hw => ?_, ?_⟩ rfl (by simp) ?_
 ·rw [List.eq_of_mem_replicate hw]; omega
 ·simpa using h2
 ·rw [hu, made_one]; simp
theorem refAt {x : Cn} (hx : x.ok) (fr : Int) (many i : Nat) (hi : i < many) (hf : 0 ≤ fr ∧ fr + i ≤ 1000000000) (hm : many ≤ 1000000000) : Fx Tryz.prog 172 [x.v, .int .i64 fr, .int .i64 many, .int .i64 i] L (fun v L' => v = .int .i64 (fr + i) ∧ L = L') := by
 refine Fx.mk Tryz.func172 k172 (Nat.le_of_ble_eq_true rfl) ?_
 dsimp only [c172, envOf, Nat.reduceAdd]
 refine Cx.sq ?_
 refine Cx.rg ?_
 refine Sx.bx rfl rfl fun g => ?_
 refine go ?_
 refine Sx.ca rfl (refMay_ (x.w : Int) x.c x.wd x.sl x.ca x.ba) ?_
 rintro v L' ⟨rfl, rfl⟩
 rw [decide_eq_true (show MayC (x.w : Int) x.c x.wd x.sl x.ca x.ba from hx)]
 refine go ?_
 iterate 2 (try (refine Sx.gyes rfl (decide_eq_false (by omega)) ?_; refine go ?_))
 refine Cx.cno rfl (decide_eq_false (by omega)) ?_
 refine go ?_
 rw [w64 (n := fr + i) (by omega) (by omega)]
 exact Kr.one (.inr rfl) rfl Ent.drop ⟨rfl, rfl⟩
end
end Go.Proofs.YtflalhdofhobmaaGreat


namespace Go.Proofs.YtflalhdofhobmaaGreat
open Go
theorem lay1 {cs : List Value} {off : Nat} {u : Value} (h : off < cs.length) : lay cs off [u] = cs.set off u := by
 have := lay_cons cs off u [] (by simp; omega)
 rw [← this, lay_nil]
section
variable {P : Program} {N : Nat} {L F : St} {Kf : En → St → Prop} {e : En} {r : List It} {ms : List (Nat × (St → Prop))} {i ds sz : Nat} {rs : List Nat} {d : Option Nat} {g : Option (Nat × Bool)}
theorem Ev.strH {x v : X} {b off E n cap : Nat} {xs ys : List Value} {u : Value} [t : Take L (some ⟨b, 0, none⟩) (Row E sz n cap xs) F] (hd : lastly i r = true) (hg : gon (e.only rs) g = true)
  (hx : x.get (e.only rs) = some (.pointer (some ⟨b, off, none⟩))) (hv : v.get (e.only rs) = some u) (hu : cellsOf u = some [u]) (h1 : u.oneCell' = true) (hl : off < xs.length) (hy : xs.set off u = ys)
  (hp : Pres ds (fun v L' => v = undef ∧ L' = pt (some ⟨b, 0, none⟩) (Row E sz n cap ys) :: F) ms)
  (k : Ev P N Kf r ms (e.put d undef) (pt (some ⟨b, 0, none⟩) (Row E sz n cap ys) :: F)) : Ev P N Kf (⟨i, ds, rs, ⟨d, g, .st x v 1⟩⟩ :: r) ms e L :=
 .genH hd hp hg (fun e' hs K kk => Sx.str (t := t) (X.get_sub hx hs) (X.get_sub hv hs) hu rfl (by simp [ones, h1]) hl (by rw [lay1 hl, hy]) (Sx.nil (kk _ _ ⟨rfl, rfl⟩)))
  (fun v L' ⟨e1, e2⟩ => by subst e1; subst e2; exact k)
theorem Sx.str1 {l : List G} {K : En → St → Prop} {x v : X} {b off E n cap : Nat} {xs ys : List Value} {u : Value} [t : Take L (some ⟨b, 0, none⟩) (Row E sz n cap xs) F] (hx : x.get e = some (.pointer (some ⟨b, off, none⟩))) (hv : v.get e = some u)
  (hu : cellsOf u = some [u]) (h1 : u.oneCell' = true) (hl : off < xs.length) (hy : xs.set off u = ys) (k : Sx P N l (e.put d undef) K (pt (some ⟨b, 0, none⟩) (Row E sz n cap ys) :: F)) :
  Sx P N (⟨d, none, .st x v 1⟩ :: l) e K L := Sx.str hx hv hu rfl (by simp [ones, h1]) hl (by rw [lay1 hl, hy]) k
end
end Go.Proofs.YtflalhdofhobmaaGreat


namespace Go.Proofs.YtflalhdofhobmaaGreat
open Go
attribute [local irreducible] Sx Cx Rx Fx Krg Ksq Kbl Klp Kr
theorem natTmod (a b : Nat) : ((a : Int)).tmod (b : Int) = ((a % b : Nat) : Int) := by
 rw [Int.tmod_eq_emod_of_nonneg (Int.natCast_nonneg a)]
 exact (Int.natCast_emod a b).symm
section
variable {L F G : St}
abbrev RSkO (mp : Nat) (k : Sk) : Option Addr → As := Blk 210 (skV mp k)
theorem refPutHead (i : Int) (t : Nat) (h1 : -1 ≤ i) (h2 : i < 4294967295) (ht : t < 4294967296) : Fx Tryz.prog 204 [hdV i t] L (fun v L' => v = .tuple #[wd (t * 4294967296 + (i + 1).toNat), .bool true] ∧ L = L') := by
 refine Fx.mk Tryz.func204 k204 (Nat.le_of_ble_eq_true rfl) ?_
 dsimp only [c204, envOf, Nat.reduceAdd]
 refine Cx.sq ?_
 refine Cx.rg ?_
 refine Sx.bx rfl rfl fun g => ?_
 refine go ?_
 iterate 3 (try (refine Sx.gyes rfl (decide_eq_false (by omega)) ?_; refine go ?_))
 refine Cx.cno rfl (decide_eq_false (by omega)) ?_
 refine go ?_
 rw [wrap64 (n := t) (by omega), w64 (n := i + 1) (by omega) (by omega), show i + 1 = (((i + 1).toNat : Nat) : Int) by omega, wrap64 (n := (i + 1).toNat) (by omega), show (t : Int) * 4294967296 = ((t * 4294967296 : Nat) : Int) by omega, wrap64 (n := t * 4294967296) (by omega),
  show ((t * 4294967296 : Nat) : Int) + ((i + 1).toNat : Nat) = ((t * 4294967296 + (i + 1).toNat : Nat) : Int) by omega, wrap64 (n := t * 4294967296 + (i + 1).toNat) (by omega)]
 exact Kr.two (.inr rfl) rfl rfl Ent.drop ⟨rfl, rfl⟩
theorem Cn.ok.b {x : Cn} (hx : x.ok) : x.w ≤ 64 ∧ x.c ≤ 4096 ∧ x.wd ≤ 1024 ∧ x.sl ≤ 4096 ∧ x.ca ≤ 64 ∧ x.ba ≤ 8 ∧ 1 ≤ x.w ∧ 1 ≤ x.c ∧ 8 ≤ x.wd ∧ 1 ≤ x.sl ∧ 1 ≤ x.ba := by
 obtain ⟨h1, h2, h3, h4, h5, h6, h7⟩ := hx
 omega
theorem refLen {x : Cn} (hx : x.ok) : Fx Tryz.prog 143 [x.v] L (fun v L' => v = .int .i64 (x.len : Int) ∧ L = L') := by
 obtain ⟨b1, b2, b3, b4, b5, b6, b7⟩ := hx.b
 have hmul : x.c * x.wd ≤ 4194304 := by have := Nat.mul_le_mul b2 b3; omega
 refine Fx.mk Tryz.func143 k143 (Nat.le_of_ble_eq_true rfl) ?_
 dsimp only [c143, envOf, Nat.reduceAdd]
 refine Cx.sq ?_
 refine Cx.rg ?_
 refine Sx.bx rfl rfl fun g => ?_
 refine go ?_
 refine Sx.ca rfl (refMay_ (x.w : Int) x.c x.wd x.sl x.ca x.ba) ?_
 rintro v L' ⟨rfl, rfl⟩
 rw [decide_eq_true (show MayC (x.w : Int) x.c x.wd x.sl x.ca x.ba from hx)]
 refine go ?_
 rw [show (x.c : Int) * x.wd = ((x.c * x.wd : Nat) : Int) by push_cast; rfl, w64 (n := (3 : Int) + x.w) (by omega) (by omega), w64 (n := (2 : Int) * x.sl) (by omega) (by omega), w64 (n := (3 : Int) + x.w + 2 * x.sl) (by omega) (by omega), w64 (n := (3 : Int) + x.w + 2 * x.sl + x.c) (by omega) (by omega),
  w64 (n := ((x.c * x.wd : Nat) : Int)) (by omega) (by omega), w64 (n := (3 : Int) + x.w + 2 * x.sl + x.c + ((x.c * x.wd : Nat) : Int)) (by omega) (by omega)]
 refine Kr.one (.inr rfl) rfl Ent.drop ⟨congrArg (Value.int .i64) ?_, rfl⟩
 unfold Cn.len; omega
theorem refLink {x : Cn} (hx : x.ok) (i : Nat) (hi : i < x.c) : Fx Tryz.prog 112 [x.v, .int .i64 i] L (fun v L' => v = .int .i64 ((x.link + i : Nat) : Int) ∧ L = L') := by
 obtain ⟨b1, b2, b3, b4, b5, b6, b7⟩ := hx.b
 refine Fx.mk Tryz.func112 k112 (Nat.le_of_ble_eq_true rfl) ?_
 dsimp only [c112, envOf, Nat.reduceAdd]
 refine Cx.sq ?_
 refine Cx.rg ?_
 refine Sx.bx rfl rfl fun g => ?_
 refine go ?_
 rw [w64 (n := (3 : Int) + x.w) (by omega) (by omega), w64 (n := (2 : Int) * x.sl) (by omega) (by omega), w64 (n := (3 : Int) + x.w + 2 * x.sl) (by omega) (by omega)]
 refine Sx.ca rfl (refAt hx ((3 : Int) + x.w + 2 * x.sl) x.c i hi (by omega) (by omega)) ?_
 rintro v L' ⟨rfl, rfl⟩
 refine go ?_
 refine Kr.one (.inr rfl) rfl Ent.drop ⟨congrArg (Value.int .i64) ?_, rfl⟩
 unfold Cn.link; omega
theorem refSlot {x : Cn} (hx : x.ok) (i : Nat) (hi : i < x.sl) : Fx Tryz.prog 144 [x.v, .int .i64 i] L (fun v L' => v = .int .i64 ((x.slot + i : Nat) : Int) ∧ L = L') := by
 obtain ⟨b1, b2, b3, b4, b5, b6, b7⟩ := hx.b
 refine Fx.mk Tryz.func144 k144 (Nat.le_of_ble_eq_true rfl) ?_
 dsimp only [c144, envOf, Nat.reduceAdd]
 refine Cx.sq ?_
 refine Cx.rg ?_
 refine Sx.bx rfl rfl fun g => ?_
 refine go ?_
 rw [w64 (n := (3 : Int) + x.w) (by omega) (by omega), w64 (n := (3 : Int) + x.w + x.sl) (by omega) (by omega)]
 refine Sx.ca rfl (refAt hx ((3 : Int) + x.w + x.sl) x.sl i hi (by omega) (by omega)) ?_
 rintro v L' ⟨rfl, rfl⟩
 refine go ?_
 refine Kr.one (.inr rfl) rfl Ent.drop ⟨congrArg (Value.int .i64) ?_, rfl⟩
 unfold Cn.slot; omega
theorem refPin {x : Cn} (hx : x.ok) (i : Nat) (hi : i < x.w) : Fx Tryz.prog 145 [x.v, .int .i64 i] L (fun v L' => v = .int .i64 ((3 + i : Nat) : Int) ∧ L = L') := by
 obtain ⟨b1, b2, b3, b4, b5, b6, b7⟩ := hx.b
 refine Fx.mk Tryz.func145 k145 (Nat.le_of_ble_eq_true rfl) ?_
 dsimp only [c145, envOf, Nat.reduceAdd]
 refine Cx.sq ?_
 refine Cx.rg ?_
 refine Sx.bx rfl rfl fun g => ?_
 refine go ?_
 refine Sx.ca rfl (refAt hx (3 : Int) x.w i hi (by omega) (by omega)) ?_
 rintro v L' ⟨rfl, rfl⟩
 refine go ?_
 refine Kr.one (.inr rfl) rfl Ent.drop ⟨congrArg (Value.int .i64) ?_, rfl⟩
 omega
set_option maxHeartbeats 2000000 in
theorem refFill {sb mp : Nat} {k : Sk} {m : Mm} (hk : k.ok m.ws.length) [t : Take L (some ⟨mp, 0, none⟩) (RMemO m) F] [s : Take F (some ⟨sb, 0, none⟩) (RSkO mp k) G] :
  Fx Tryz.prog 146 [.pointer (some ⟨sb, 0, none⟩)] L (fun v L' => L' = pt (some ⟨mp, 0, none⟩) (RMemO (fillM k m)) :: F) := by
 have hfill := rUp_fill hk rfl
 have hk0 := hk
 obtain ⟨k1, k2, k3, k4, k5, k6⟩ := hk
 refine Fx.mk Tryz.func146 k146 (Nat.le_of_ble_eq_true rfl) ?_
 dsimp only [c146, envOf, Nat.reduceAdd]
 refine Cx.ent (Ent.trans (Ent.of t.out) (Ent.cons (Ent.of s.out))) ?_
 refine Cx.openp (a := some ⟨mp, 0, none⟩) rfl ?_
 rintro ⟨r, c⟩
 simp only [rmemL, List.cons_append, List.nil_append]
 refine Cx.liftp fun hm => ?_
 refine Cx.rowkey (a := r) fun hx0 hn0 _ hk1 => ?_
 obtain ⟨rg, rfl⟩ : ∃ g, r = some ⟨g, 0, none⟩ := by
  rcases hk1 with h | h
  ·omega
  ·exact h
 refine go ?_
 refine Sx.ca rfl (refPutHead 0 0 (by omega) (by omega) (by omega)) ?_
 rintro v L' ⟨rfl, rfl⟩
 refine go ?_
 refine Cx.ordc rfl (by kernel_rfl) ?_
 refine ge ?_
 refine Ev.strH (b := rg) (by kernel_rfl) rfl rfl rfl rfl rfl (by rw [length_us]; simp; omega) rfl (Pres.deps (by kernel_rfl)) ?_
 refine ge ?_
 refine go ?_
 have hset : (us m.ws).set (0 + (k.head : Int).toNat * 1) (wd (0 * 4294967296 + (0 + 1 : Int).toNat)) = us (rUp k m 0).ws := by
  rw [show 0 + (k.head : Int).toNat * 1 = k.head by simp]
  exact us_set m.ws k.head 1
 refine Cx.lp (α := {i : Nat // i ≤ k.n}) (fun i => [(0, .pointer (some ⟨sb, 0, none⟩)), (4, .int .i64 i.1)])
  (fun i => pt (some ⟨rg, 0, none⟩) (Row 56 1 m.ws.length c (us (rUp k m i.1).ws)) :: pt (some ⟨mp, 0, none⟩) (Blk 110 [.slice (some ⟨rg, 0, none⟩) m.ws.length c, .int .i64 (IntKind.i64.wrap (m.n : Int))]) :: pt (some ⟨sb, 0, none⟩) (RSkO mp k) :: G)
  (fun i => k.n - i.1) ⟨0, by omega⟩ (sub.cons rfl (sub.cons rfl sub.nil)) (by rw [← hset]; exact Ent.refl _) ?_
 rintro ⟨i, hi⟩
 dsimp only
 have hil := rUp_len k m i
 have hul : (us (rUp k m i).ws).length = m.ws.length := by rw [length_us, hil]
 refine go ?_
 refine Cx.ifp rfl (fun h => ?_) (fun h => ?_)
 ·refine go ?_
  refine Cx.ordc rfl (by kernel_rfl) ?_
  refine ge ?_
  rw [w64 (n := (k.links : Int) + i) (by omega) (by omega), w64 (n := (i : Int) + 2) (by omega) (by omega), w64 (n := (k.n : Int) + 1) (by omega) (by omega)]
  refine Ev.pvH (by kernel_rfl) rfl rfl (by omega) ?_
  have hmlt : (i + 2) % (k.n + 1) < k.n + 1 := Nat.mod_lt _ (by omega)
  rw [show (i : Int) + 2 = ((i + 2 : Nat) : Int) by omega, show (k.n : Int) + 1 = ((k.n + 1 : Nat) : Int) by omega, natTmod]
  refine ge ?_
  rw [wrap64 (n := (i + 2) % (k.n + 1)) (by omega)]
  refine Ev.strH (b := rg) (by kernel_rfl) rfl rfl rfl rfl rfl (by rw [hul]; simp; omega) rfl (Pres.deps (by kernel_rfl)) ?_
  refine ge ?_
  rw [show (us (rUp k m i).ws).set (0 + ((k.links : Int) + i).toNat * 1) (.int .u64 (((i + 2) % (k.n + 1) : Nat) : Int)) = us ((rUp k m i).lay (k.links + i) ((i + 2) % (k.n + 1))).ws by
   rw [show 0 + ((k.links : Int) + i).toNat * 1 = k.links + i by omega]
   exact us_set _ _ _]
  have hul2 : (us ((rUp k m i).lay (k.links + i) ((i + 2) % (k.n + 1))).ws).length = m.ws.length := by rw [length_us, Mm.len_lay, hil]
  refine go ?_
  rw [w64 (n := (k.n : Int) - 1) (by omega) (by omega)]
  refine Cx.ifp rfl (fun h2 => ?_) (fun h2 => ?_)
  ·have e : rUp k m (i + 1) = ((rUp k m i).lay (k.links + i) ((i + 2) % (k.n + 1))).lay (k.links + i) 0 := by rw [rUp.eq_def]; simp only; rw [if_pos (by omega)]
   refine go ?_
   refine Cx.orde rfl (by kernel_rfl) ?_
   refine ge ?_
   rw [w64 (n := (k.links : Int) + i) (by omega) (by omega)]
   refine ge ?_
   refine Ev.strH (b := rg) (by kernel_rfl) rfl rfl rfl rfl rfl (by rw [hul2]; simp; omega) rfl (Pres.deps (by kernel_rfl)) ?_
   refine ge ?_
   rw [show (us ((rUp k m i).lay (k.links + i) ((i + 2) % (k.n + 1))).ws).set (0 + ((k.links : Int) + i).toNat * 1) (.int .u64 0) = us (rUp k m (i + 1)).ws by
    rw [show 0 + ((k.links : Int) + i).toNat * 1 = k.links + i by omega, e]
    exact us_set _ _ 0]
   refine go ?_
   rw [w64 (n := (i : Int) + 1) (by omega) (by omega)]
   exact Klp.nm ⟨i + 1, by omega⟩ (sub.cons rfl (sub.cons rfl sub.nil)) (Ent.refl _) (by dsimp only; omega)
  ·have e : rUp k m (i + 1) = (rUp k m i).lay (k.links + i) ((i + 2) % (k.n + 1)) := by rw [rUp.eq_def]; simp only; rw [if_neg (by omega)]
   rw [← e]
   refine go ?_
   rw [w64 (n := (i : Int) + 1) (by omega) (by omega)]
   exact Klp.nm ⟨i + 1, by omega⟩ (sub.cons rfl (sub.cons rfl sub.nil)) (Ent.refl _) (by dsimp only; omega)
 ·have hin : i = k.n := by omega
  subst hin
  refine go ?_
  refine Kr.none (.inl rfl) ?_ rfl
  have hl2 : (fillM k m).ws.length = m.ws.length := fillM_len k m
  refine Ent.trans ?_ (Ent.cons (Ent.of s.back))
  refine RMemO.close (a := some ⟨mp, 0, none⟩) (r := some ⟨rg, 0, none⟩) (fillM k m) ⟨fillM_ok hm.1 k2, by rw [hl2]; exact hm.2⟩ ?_ hl2.symm ?_
  ·rw [fillM_n]
  ·rw [hfill]
end
end Go.Proofs.YtflalhdofhobmaaGreat


namespace Go.Proofs.YtflalhdofhobmaaGreat
open Go
attribute [local irreducible] Sx Cx Rx Fx Krg Ksq Kbl Klp Kr
section
variable {L F G : St}
abbrev RWO (x : Cn) (rm rp rs re : Nat) : Option Addr → As := Blk 115 (x.l ++ [.pointer (some ⟨rm, 0, none⟩), .pointer (some ⟨rp, 0, none⟩), .pointer (some ⟨rs, 0, none⟩), .pointer (some ⟨re, 0, none⟩)])
abbrev REpO (x : Cn) (rm : Nat) : Option Addr → As := Blk 218 [.pointer (some ⟨rm, 0, none⟩), .int .i64 2, .int .i64 3, .int .i64 x.w]
def zeroM (x : Cn) : Mm := ⟨List.replicate x.len 0, 0⟩
theorem zeroM_len (x : Cn) : (zeroM x).ws.length = x.len := by simp [zeroM]
set_option maxHeartbeats 2000000 in
theorem refWNew {x : Cn} (hx : x.ok) : Fx Tryz.prog 74 [x.v] L (fun v L' => ∃ w rm rp rs re, v = .pointer (some ⟨w, 0, none⟩) ∧
  L' = pt (some ⟨w, 0, none⟩) (RWO x rm rp rs re) :: pt (some ⟨rm, 0, none⟩) (RMemO (fillM x.spare (fillM x.pool (zeroM x)))) :: pt (some ⟨rp, 0, none⟩) (RSkO rm x.pool) :: pt (some ⟨rs, 0, none⟩) (RSkO rm x.spare) :: pt (some ⟨re, 0, none⟩) (REpO x rm) :: L) := by
 obtain ⟨b1, b2, b3, b4, b5, b6, b7⟩ := hx.b
 have hlen := hx.len_le
 refine Fx.mk Tryz.func74 k74 (Nat.le_of_ble_eq_true rfl) ?_
 dsimp only [c74, envOf, Nat.reduceAdd]
 refine Cx.sq ?_
 refine Cx.rg ?_
 refine Sx.bx rfl rfl fun g => ?_
 refine go ?_
 refine Sx.ca rfl (refLen hx) ?_
 rintro v L' ⟨rfl, rfl⟩
 refine go ?_
 refine Sx.ca rfl (rmemNew x.len hlen) ?_
 rintro v L' ⟨rm, rfl, rfl⟩
 refine go ?_
 refine Sx.bx rfl rfl fun w => ?_
 refine go ?_
 refine Cx.ordc rfl (by kernel_rfl) ?_
 refine ge ?_
 refine Ev.cakH (by kernel_rfl) rfl rfl (refLink hx 0 (by omega)) ?_
 refine ge ?_
 refine Ev.bxH (by kernel_rfl) rfl rfl rfl (Pres.deps (by kernel_rfl)) fun rp => ?_
 refine ge ?_
 refine Ev.stbH (b := w) (by kernel_rfl) rfl rfl rfl rfl rfl (by rfl) rfl (Pres.deps (by kernel_rfl)) ?_
 refine ge ?_
 refine go ?_
 refine Cx.ordc rfl (by kernel_rfl) ?_
 refine ge ?_
 refine Ev.cakH (by kernel_rfl) rfl rfl (refSlot hx 0 (by omega)) ?_
 refine ge ?_
 refine Ev.bxH (by kernel_rfl) rfl rfl rfl (Pres.deps (by kernel_rfl)) fun rs => ?_
 refine ge ?_
 refine Ev.stbH (b := w) (by kernel_rfl) rfl rfl rfl rfl rfl (by rfl) rfl (Pres.deps (by kernel_rfl)) ?_
 refine ge ?_
 refine go ?_
 refine Cx.ordc rfl (by kernel_rfl) ?_
 refine ge ?_
 refine Ev.cakH (by kernel_rfl) rfl rfl (refPin hx 0 (by omega)) ?_
 refine ge ?_
 refine Ev.bxH (by kernel_rfl) rfl rfl rfl (Pres.deps (by kernel_rfl)) fun re => ?_
 refine ge ?_
 refine Ev.stbH (b := w) (by kernel_rfl) rfl rfl rfl rfl rfl (by rfl) rfl (Pres.deps (by kernel_rfl)) ?_
 refine ge ?_
 refine go ?_
 refine Sx.ca rfl (refFill (sb := rp) (mp := rm) (k := x.pool) (m := zeroM x) (hx.pool (by rw [zeroM_len]; exact Nat.le_refl _) (by rw [zeroM_len]; exact hlen))) ?_
 rintro v L' rfl
 refine go ?_
 refine Sx.ca rfl (refFill (sb := rs) (mp := rm) (k := x.spare) (m := fillM x.pool (zeroM x)) (hx.spare (by rw [fillM_len, zeroM_len]; exact Nat.le_refl _) (by rw [fillM_len, zeroM_len]; exact hlen))) ?_
 rintro v L' rfl
 refine go ?_
 refine Kr.one (.inr rfl) rfl ?_ ⟨w, rm, rp, rs, re, rfl, rfl⟩
 exact ent
theorem refSupply {w rm rp rs re : Nat} {x : Cn} [t : Take L (some ⟨w, 0, none⟩) (RWO x rm rp rs re) F] : Fx Tryz.prog 76 [.pointer (some ⟨w, 0, none⟩)] L (fun v L' => ∃ s st lm, v = .pointer (some ⟨s, 0, none⟩) ∧
  L' = pt (some ⟨s, 0, none⟩) (Blk 183 [.pointer (some ⟨w, 0, none⟩), .pointer (some ⟨st, 0, none⟩), .pointer (some ⟨lm, 0, none⟩)]) :: pt (some ⟨lm, 0, none⟩) (RLimboO Lm.nil) :: pt (some ⟨st, 0, none⟩) (RefO (min (max (x.ca : Int) 0) 64) []) :: L) := by
 refine Fx.mk Tryz.func76 k76 (Nat.le_of_ble_eq_true rfl) ?_
 dsimp only [c76, envOf, Nat.reduceAdd]
 refine go ?_
 refine Sx.ca rfl (refNew (x.ca : Int)) ?_
 rintro v L' ⟨st, rfl, rfl⟩
 refine go ?_
 refine Sx.ca rfl refLimboNew ?_
 rintro v L' ⟨lm, rfl, rfl⟩
 refine go ?_
 refine Sx.bx rfl rfl fun s => ?_
 refine go ?_
 exact Kr.one (.inr rfl) rfl (Ent.refl _) ⟨s, st, lm, rfl, rfl⟩
end
end Go.Proofs.YtflalhdofhobmaaGreat


namespace Go.Proofs.YtflalhdofhobmaaGreat
open Go
attribute [local irreducible] Sx Cx Rx Fx Krg Ksq Kbl Klp Kr
section
variable {L F G : St}
theorem stashTakeI {b : Nat} {most : Int} (xs : List Int) {F : St} [t : Take L (some ⟨b, 0, none⟩) (StashO most xs) F] (hb : xs.length ≤ 1000000000) :
  Fx Tryz.prog 248 [.pointer (some ⟨b, 0, none⟩)] L (fun v L' => v = .tuple #[.int .i64 (lastI xs), .bool (decide (xs ≠ []))] ∧ L' = pt (some ⟨b, 0, none⟩) (StashO most xs.dropLast) :: F) := by
 rcases List.eq_nil_or_concat xs with rfl | ⟨ys, x, rfl⟩
 ·exact stashTakeNone
 ·rw [List.concat_eq_append] at t hb ⊢
  refine (stashTakeSome (t := t) (by simp at hb; omega)).mono ?_
  rintro v L' ⟨rfl, rfl⟩
  simp [lastI]
def supL (T : TypeId) (mp pb : Nat) (x : Cn) (s : SupS) (a : Option Addr) (y : Nat × Nat) : St :=
 [pt a (Blk T (.pointer (some ⟨mp, 0, none⟩) :: x.l ++ [.pointer (some ⟨pb, 0, none⟩), .pointer (some ⟨y.1, 0, none⟩), .pointer (some ⟨y.2, 0, none⟩)])), pt (some ⟨y.1, 0, none⟩) (StashO s.most s.xs), pt (some ⟨y.2, 0, none⟩) (LimboO s.lm)]
def SupT (T : TypeId) (mp pb : Nat) (x : Cn) (s : SupS) (a : Option Addr) : As := exs (supL T mp pb x s a)
abbrev SupO := SupT 195
theorem SupO.close {T : TypeId} {mp pb sh lm : Nat} {x : Cn} {a : Option Addr} {m : Int} {xs : List Int} {l : Lm} {F0 F1 G : St} (s : SupS)
  [t : Take L a (Blk T (.pointer (some ⟨mp, 0, none⟩) :: x.l ++ [.pointer (some ⟨pb, 0, none⟩), .pointer (some ⟨sh, 0, none⟩), .pointer (some ⟨lm, 0, none⟩)])) F0] [u : Take F0 (some ⟨sh, 0, none⟩) (StashO m xs) F1] [q : Take F1 (some ⟨lm, 0, none⟩) (LimboO l) G]
  (hm : m = s.most) (hx : xs = s.xs) (hl : l = s.lm) : Ent L (pt a (SupT T mp pb x s) :: G) := by
 subst hm; subst hx; subst hl
 refine Ent.trans (Ent.take1 (t := t) (Ent.trans (Ent.of u.out) (Ent.cons (Ent.of q.out)))) ?_
 exact Ent.close (f := supL T mp pb x s a) rfl (sh, lm)
theorem supNew {mp : Nat} {m : Mm} {x : Cn} (hx : x.ok) (hl : x.len ≤ m.ws.length) [t : Take L (some ⟨mp, 0, none⟩) (MemO m) F] :
  Fx Tryz.prog 75 [.pointer (some ⟨mp, 0, none⟩), x.v] L (fun v L' => ∃ u pb, v = .tuple #[.pointer (some ⟨u, 0, none⟩), .int .i64 0] ∧ L' = pt (some ⟨u, 0, none⟩) (SupO mp pb x (SupS.nil x.ca)) :: pt (some ⟨pb, 0, none⟩) (SkO mp x.pool) :: L) := by
 refine Fx.mk Tryz.func75 k75 (Nat.le_of_ble_eq_true rfl) ?_
 dsimp only [c75, envOf, Nat.reduceAdd]
 refine Cx.sq ?_
 refine Cx.rg ?_
 refine Sx.bx rfl rfl fun g => ?_
 refine go ?_
 refine Sx.ca rfl (chainNew (mp := mp) (m := m) hx hl) ?_
 rintro v L' ⟨c, pb, rfl, rfl⟩
 refine go ?_
 refine Cx.ordc rfl (by kernel_rfl) ?_
 refine ge ?_
 refine Ev.cakH (by kernel_rfl) rfl rfl (chainPool (g := c) (mp := mp) (sb := pb) (x := x)) ?_
 refine ge ?_
 refine Ev.caH (by kernel_rfl) rfl rfl (stashNew (x.ca : Int)) (.dep rfl (.dep rfl (.keep (fun v L' ⟨_, _, e⟩ => by subst e; exact Has.blk) .nil))) ?_
 rintro v L' ⟨sh, rfl, rfl⟩
 refine ge ?_
 refine Ev.caH (by kernel_rfl) rfl rfl limboNew (.dep rfl (.dep rfl (.keep (fun v L' ⟨_, _, e⟩ => by subst e; exact Has.blk) .nil))) ?_
 rintro v L' ⟨lm, rfl, rfl⟩
 refine ge ?_
 refine Ev.bxH (by kernel_rfl) rfl rfl rfl (Pres.deps (by kernel_rfl)) fun u => ?_
 refine ge ?_
 refine go ?_
 refine Kr.two (.inr rfl) rfl rfl ?_ ⟨u, pb, rfl, rfl⟩
 refine Ent.trans (SupO.close (a := some ⟨u, 0, none⟩) (sh := sh) (lm := lm) (mp := mp) (pb := pb) (x := x) (SupS.nil x.ca) rfl rfl rfl) ?_
 refine Ent.cons ?_
 exact ent
theorem supStash {u mp pb : Nat} {x : Cn} {s : SupS} {F : St} [t : Take L (some ⟨u, 0, none⟩) (SupO mp pb x s) F] (hb : s.xs.length ≤ 1000000000) : Fx Tryz.prog 44 [.pointer (some ⟨u, 0, none⟩)] L (fun v L' => ∃ a c, v = .slice a s.xs.length c ∧ L' = pt a (Row 3 1 s.xs.length c (ints s.xs)) :: pt (some ⟨u, 0, none⟩) (SupO mp pb x s) :: F) := by
 refine Fx.mk Tryz.func44 k44 (Nat.le_of_ble_eq_true rfl) ?_
 dsimp only [c44, envOf, Nat.reduceAdd]
 refine Cx.openp (t := t) rfl ?_
 rintro ⟨sh, lm⟩
 simp only [supL, List.cons_append, List.nil_append]
 refine go ?_
 refine Sx.ca rfl (stashList (b := sh) hb) ?_
 rintro v L' ⟨a, c, rfl, rfl⟩
 refine go ?_
 exact Kr.one (.inr rfl) rfl (Ent.cons (SupO.close (a := some ⟨u, 0, none⟩) (sh := sh) (lm := lm) (mp := mp) (pb := pb) (x := x) s rfl rfl rfl)) ⟨a, c, rfl, rfl⟩
theorem supBucket {u mp pb : Nat} {x : Cn} {s : SupS} {F : St} [t : Take L (some ⟨u, 0, none⟩) (SupO mp pb x s) F] (k : Int) (hb : s.lm.size ≤ 1000000000) : Fx Tryz.prog 57 [.pointer (some ⟨u, 0, none⟩), .int .i64 k] L (fun v L' =>
   ((k < 0 ∨ 3 ≤ k ∨ s.lm.items k.toNat = []) ∧ v = .tuple #[.int .i64 0, .slice none 0 0] ∧ L' = pt (some ⟨u, 0, none⟩) (SupO mp pb x s) :: F) ∨
   (¬ (k < 0 ∨ 3 ≤ k ∨ s.lm.items k.toNat = []) ∧ ∃ ro co, v = .tuple #[.int .i64 (s.lm.tag k.toNat), .slice ro (s.lm.items k.toNat).length co] ∧ L' = pt ro (Row 3 1 (s.lm.items k.toNat).length co (ints (s.lm.items k.toNat))) :: pt (some ⟨u, 0, none⟩) (SupO mp pb x s) :: F)) := by
 refine Fx.mk Tryz.func57 k57 (Nat.le_of_ble_eq_true rfl) ?_
 dsimp only [c57, envOf, Nat.reduceAdd]
 refine Cx.openp (t := t) rfl ?_
 rintro ⟨sh, lm⟩
 simp only [supL, List.cons_append, List.nil_append]
 refine go ?_
 refine Sx.ca rfl (limboBucket (b := lm) (m := s.lm) (k := k) hb) ?_
 rintro v L' (⟨h, rfl, rfl⟩ | ⟨h, ro, co, rfl, rfl⟩)
 ·refine go ?_
  exact Kr.two (.inr rfl) rfl rfl (SupO.close (a := some ⟨u, 0, none⟩) (sh := sh) (lm := lm) (mp := mp) (pb := pb) (x := x) s rfl rfl rfl) (.inl ⟨h, rfl, rfl⟩)
 ·refine go ?_
  exact Kr.two (.inr rfl) rfl rfl (Ent.cons (SupO.close (a := some ⟨u, 0, none⟩) (sh := sh) (lm := lm) (mp := mp) (pb := pb) (x := x) s rfl rfl rfl)) (.inr ⟨h, ro, co, rfl, rfl⟩)
theorem supPut {u mp pb : Nat} {x : Cn} {s : SupS} {F : St} [t : Take L (some ⟨u, 0, none⟩) (SupO mp pb x s) F] {ys : List Int} {ya : Option Addr} {m c : Nat} (hr : Rd F 1 ya m (ints ys)) (hb : s.xs.length + m ≤ 1000000000) :
  Fx Tryz.prog 206 [.pointer (some ⟨u, 0, none⟩), .slice ya m c] L (fun v L' => v = .tuple #[] ∧ L' = pt (some ⟨u, 0, none⟩) (SupO mp pb x (s.give ys)) :: F) := by
 refine Fx.mk Tryz.func206 k206 (Nat.le_of_ble_eq_true rfl) ?_
 dsimp only [c206, envOf, Nat.reduceAdd]
 refine Cx.openp (t := t) rfl ?_
 rintro ⟨sh, lm⟩
 simp only [supL, List.cons_append, List.nil_append]
 refine go ?_
 refine Sx.ca rfl (stashGive (b := sh) (hr.ent (by repeat (first | exact Ent.refl _ | (refine Ent.trans Ent.drop ?_)))) hb) ?_
 rintro v L' ⟨rfl, rfl⟩
 refine go ?_
 exact Kr.none (.inl rfl) (SupO.close (a := some ⟨u, 0, none⟩) (sh := sh) (lm := lm) (mp := mp) (pb := pb) (x := x) (s.give ys) rfl rfl rfl) ⟨rfl, rfl⟩
theorem supRetire {u mp pb : Nat} {x : Cn} {s : SupS} {F : St} [t : Take L (some ⟨u, 0, none⟩) (SupO mp pb x s) F] {tag : Int} {ys : List Int} {ya : Option Addr} {n c : Nat} (hr : Rd F 1 ya n (ints ys)) (hb : s.lm.size + n ≤ 100000000) (hx : s.xs.length ≤ 100000000) :
  Fx Tryz.prog 256 [.pointer (some ⟨u, 0, none⟩), .int .i64 tag, .slice ya n c] L (fun v L' =>
   (refused s.lm tag ys ∧ v = .int .i64 1 ∧ L' = pt (some ⟨u, 0, none⟩) (SupO mp pb x s) :: F) ∨
   (¬ refused s.lm tag ys ∧ v = .int .i64 0 ∧ L' = pt (some ⟨u, 0, none⟩) (SupO mp pb x ⟨s.most, s.xs ++ outM s.lm tag, retireM s.lm tag ys⟩) :: F)) := by
 have hz := size_retire s.lm tag ys
 refine Fx.mk Tryz.func256 k256 (Nat.le_of_ble_eq_true rfl) ?_
 dsimp only [c256, envOf, Nat.reduceAdd]
 refine Cx.openp (t := t) rfl ?_
 rintro ⟨sh, lm⟩
 simp only [supL, List.cons_append, List.nil_append]
 refine go ?_
 refine Sx.ca rfl (limboRetire (b := lm) (m := s.lm) (ys := ys) (hr.ent (by repeat (first | exact Ent.refl _ | (refine Ent.trans Ent.drop ?_)))) (by omega)) ?_
 rintro v L' (⟨h, rfl, rfl⟩ | ⟨h, ro, co, rfl, rfl⟩)
 ·refine go ?_
  refine Sx.ca rfl (stashGive (b := sh) (ys := []) (Rd.nil _ _ _) (by omega)) ?_
  rintro v L' ⟨rfl, rfl⟩
  refine go ?_
  exact Kr.one (.inr rfl) rfl (SupO.close (a := some ⟨u, 0, none⟩) (sh := sh) (lm := lm) (mp := mp) (pb := pb) (x := x) s rfl (List.append_nil _) rfl) (.inl ⟨h, rfl, rfl⟩)
 ·refine Sx.rowkey (a := ro) fun hx0 hn0 _ hk0 => ?_
  refine go ?_
  refine Sx.ca rfl (stashGive (b := sh) (Rd.any (a := ro) hx0 (hk0.imp (fun h => h.2.1) id)) (by omega)) ?_
  rintro v L' ⟨rfl, rfl⟩
  refine go ?_
  refine Kr.one (.inr rfl) rfl (Ent.trans (SupO.close (a := some ⟨u, 0, none⟩) (sh := sh) (lm := lm) (mp := mp) (pb := pb) (x := x) ⟨s.most, s.xs ++ outM s.lm tag, retireM s.lm tag ys⟩ rfl rfl rfl) ?_) (.inr ⟨h, rfl, rfl⟩)
  exact ent
theorem supReady {u mp pb : Nat} {x : Cn} {s : SupS} {F : St} [t : Take L (some ⟨u, 0, none⟩) (SupO mp pb x s) F] {now : Int} (hb : s.lm.size ≤ 100000000) (hx : s.xs.length ≤ 100000000) (hn : now ≤ 9223372036854775807) :
  Fx Tryz.prog 67 [.pointer (some ⟨u, 0, none⟩), .int .i64 now] L (fun v L' => v = .int .i64 (readyAll now s.lm).1.length ∧ L' = pt (some ⟨u, 0, none⟩) (SupO mp pb x (s.ready now)) :: F) := by
 have hz := size_ready now s.lm
 refine Fx.mk Tryz.func67 k67 (Nat.le_of_ble_eq_true rfl) ?_
 dsimp only [c67, envOf, Nat.reduceAdd]
 refine Cx.openp (t := t) rfl ?_
 rintro ⟨sh, lm⟩
 simp only [supL, List.cons_append, List.nil_append]
 refine go ?_
 refine Sx.ca rfl (limboReady (b := lm) (m := s.lm) (now := now) hb hn) ?_
 rintro v L' ⟨ro, co, rfl, rfl⟩
 refine Sx.rowkey (a := ro) fun hx0 hn0 _ hk0 => ?_
 refine go ?_
 refine Sx.ca rfl (stashGive (b := sh) (Rd.any (a := ro) hx0 (hk0.imp (fun h => h.2.1) id)) (by omega)) ?_
 rintro v L' ⟨rfl, rfl⟩
 refine go ?_
 refine Kr.one (.inr rfl) rfl (Ent.trans (SupO.close (a := some ⟨u, 0, none⟩) (sh := sh) (lm := lm) (mp := mp) (pb := pb) (x := x) (s.ready now) rfl rfl rfl) ?_) ⟨rfl, rfl⟩
 exact ent
end
end Go.Proofs.YtflalhdofhobmaaGreat


namespace Go.Proofs.YtflalhdofhobmaaGreat
open Go
attribute [local irreducible] Sx Cx Rx Fx Krg Ksq Kbl Klp Kr
section
variable {L F G : St}
def poolM (x : Cn) : Mm := fillM x.pool (zeroM x)
theorem poolM_len (x : Cn) : (poolM x).ws.length = x.len := by unfold poolM; rw [fillM_len, zeroM_len]
end
end Go.Proofs.YtflalhdofhobmaaGreat


namespace Go.Proofs.YtflalhdofhobmaaGreat
def pinI (w : Nat) : Int := ((w / 2 : Nat) : Int)
def behind (e w : Nat) : Prop := w % 2 = 1 ∧ pinI w ≠ cutE e
instance (e w : Nat) : Decidable (behind e w) := by unfold behind; infer_instance
structure AdvS where
 was : Nat
 worker : Nat
 won : Bool
 at_ : Nat
 done : Bool
def AdvS.init : AdvS := ⟨0, 0, false, 0, false⟩
end Go.Proofs.YtflalhdofhobmaaGreat


namespace Go.Proofs.YtflalhdofhobmaaGreat
open Go
attribute [local irreducible] Sx Cx Rx Fx Krg Ksq Kbl Klp Kr
section
variable {L F G : St}
theorem row_some {n cap : Nat} {r : Option Addr} {i : Nat} (hi : i < n) (h : (r = none ∧ n = 0 ∧ cap = 0) ∨ ∃ g, r = some ⟨g, 0, none⟩) : ∃ g, r = some ⟨g, 0, none⟩ := by
 rcases h with h | h
 ·omega
 ·exact h
theorem rmemKey {rm : Nat} {m : Mm} {F : St} [t : Take L (some ⟨rm, 0, none⟩) (RMemO m) F] : ∀ h, holds L h → m.ok ∧ m.ws.length ≤ 8388608 := by
 intro h hh
 obtain ⟨y, hy⟩ := holds_ex.1 (t.out h hh)
 exact (holds_lift.1 hy).1
theorem refLoad {rm : Nat} {m : Mm} (i : Nat) (hi : i < m.ws.length) [t : Take L (some ⟨rm, 0, none⟩) (RMemO m) F] :
  Fx Tryz.prog 98 [.pointer (some ⟨rm, 0, none⟩), .int .i64 i] L (fun v L' => v = wd (m.at_ i) ∧ L' = pt (some ⟨rm, 0, none⟩) (RMemO m.tick) :: F) := by
 refine Fx.mk Tryz.func98 k98 (Nat.le_of_ble_eq_true rfl) ?_
 dsimp only [c98, envOf, Nat.reduceAdd]
 refine Cx.openp (t := t) rfl ?_
 rintro ⟨r, c⟩
 simp only [rmemL, List.cons_append, List.nil_append]
 refine Cx.liftp fun hm => ?_
 refine Cx.rowkey (a := r) fun hx0 hn0 _ hk1 => ?_
 obtain ⟨rg, rfl⟩ := row_some hi (hk1.imp (fun h => ⟨h.1, h.2.1, h.2.2⟩) id)
 refine gg ?_
 refine Sx.ldr (b := rg) rfl (v := wd (m.at_ i)) (by rw [show 0 + (i : Int).toNat * 1 = i by omega]; exact us_get (Mm.get hi)) ?_
 refine go ?_
 refine Kr.one (.inr rfl) rfl ?_ ⟨rfl, rfl⟩
 exact RMemO.close (a := some ⟨rm, 0, none⟩) (r := some ⟨rg, 0, none⟩) m.tick hm (by rw [wrap_succ]; rfl) rfl rfl
theorem refStore {rm : Nat} {m : Mm} (i v : Nat) (hi : i < m.ws.length) (hv : v < 18446744073709551616) [t : Take L (some ⟨rm, 0, none⟩) (RMemO m) F] :
  Fx Tryz.prog 110 [.pointer (some ⟨rm, 0, none⟩), .int .i64 i, wd v] L (fun u L' => u = .tuple #[] ∧ L' = pt (some ⟨rm, 0, none⟩) (RMemO (m.put i v)) :: F) := by
 refine Fx.mk Tryz.func110 k110 (Nat.le_of_ble_eq_true rfl) ?_
 dsimp only [c110, envOf, Nat.reduceAdd]
 refine Cx.openp (t := t) rfl ?_
 rintro ⟨r, c⟩
 simp only [rmemL, List.cons_append, List.nil_append]
 refine Cx.liftp fun hm => ?_
 refine Cx.rowkey (a := r) fun hx0 hn0 _ hk1 => ?_
 obtain ⟨rg, rfl⟩ := row_some hi (hk1.imp (fun h => ⟨h.1, h.2.1, h.2.2⟩) id)
 refine gg ?_
 refine Sx.str1 (b := rg) rfl rfl rfl rfl (by rw [length_us]; simp; omega) rfl ?_
 refine go ?_
 refine Kr.none (.inl rfl) ?_ ⟨rfl, rfl⟩
 refine RMemO.close (a := some ⟨rm, 0, none⟩) (r := some ⟨rg, 0, none⟩) (m.put i v) ⟨Mm.ok_put hm.1 hv, by rw [Mm.len_put]; exact hm.2⟩ (by rw [wrap_succ]; rfl) Mm.len_put.symm ?_
 rw [show 0 + (i : Int).toNat * 1 = i by omega]
 exact us_set _ _ _
theorem refCas {rm : Nat} {m : Mm} (i o v : Nat) (hi : i < m.ws.length) (ho : o < 18446744073709551616) (hv : v < 18446744073709551616) [t : Take L (some ⟨rm, 0, none⟩) (RMemO m) F] :
  Fx Tryz.prog 102 [.pointer (some ⟨rm, 0, none⟩), .int .i64 i, wd o, wd v] L (fun u L' => u = .bool (decide (m.at_ i = o)) ∧ L' = pt (some ⟨rm, 0, none⟩) (RMemO (m.cas i o v)) :: F) := by
 refine Fx.mk Tryz.func102 k102 (Nat.le_of_ble_eq_true rfl) ?_
 dsimp only [c102, envOf, Nat.reduceAdd]
 refine Cx.openp (t := t) rfl ?_
 rintro ⟨r, c⟩
 simp only [rmemL, List.cons_append, List.nil_append]
 refine Cx.liftp fun hm => ?_
 refine Cx.rowkey (a := r) fun hx0 hn0 _ hk1 => ?_
 obtain ⟨rg, rfl⟩ := row_some hi (hk1.imp (fun h => ⟨h.1, h.2.1, h.2.2⟩) id)
 refine gg ?_
 refine Sx.ldr (b := rg) rfl (v := wd (m.at_ i)) (by rw [show 0 + (i : Int).toNat * 1 = i by omega]; exact us_get (Mm.get hi)) ?_
 refine go ?_
 refine Cx.ifn rfl (fun h => ?_) (fun h => ?_)
 ·have hne : m.at_ i ≠ o := fun e => h (by rw [e])
  refine go ?_
  refine Kr.one (.inr rfl) rfl ?_ ⟨by rw [decide_eq_false hne], rfl⟩
  rw [show m.cas i o v = m.tick by unfold Mm.cas; rw [if_neg hne]]
  exact RMemO.close (a := some ⟨rm, 0, none⟩) (r := some ⟨rg, 0, none⟩) m.tick hm (by rw [wrap_succ]; rfl) rfl rfl
 ·have he : m.at_ i = o := by omega
  refine gg ?_
  refine Sx.str1 (b := rg) rfl rfl rfl rfl (by rw [length_us]; simp; omega) rfl ?_
  refine go ?_
  refine Kr.one (.inr rfl) rfl ?_ ⟨by rw [decide_eq_true he], rfl⟩
  rw [show m.cas i o v = m.put i v by unfold Mm.cas; rw [if_pos he]]
  refine RMemO.close (a := some ⟨rm, 0, none⟩) (r := some ⟨rg, 0, none⟩) (m.put i v) ⟨Mm.ok_put hm.1 hv, by rw [Mm.len_put]; exact hm.2⟩ (by rw [wrap_succ]; rfl) Mm.len_put.symm ?_
  rw [show 0 + (i : Int).toNat * 1 = i by omega]
  exact us_set _ _ _
theorem refCut (w : Nat) (hw : w < 18446744073709551616) : Fx Tryz.prog 123 [wd w] L (fun v L' => v = .int .i64 (cutE w) ∧ L = L') := by
 refine Fx.mk Tryz.func123 k123 (Nat.le_of_ble_eq_true rfl) ?_
 dsimp only [c123, envOf, Nat.reduceAdd]
 refine go ?_
 refine Cx.ifp rfl (fun h => ?_) (fun h => ?_)
 ·refine go ?_
  exact Kr.one (.inr rfl) rfl (Ent.refl _) ⟨by unfold cutE; rw [Int.min_eq_right (by omega)], rfl⟩
 ·refine go ?_
  rw [w64 (n := (w : Int)) (by omega) (by omega)]
  exact Kr.one (.inr rfl) rfl (Ent.refl _) ⟨by unfold cutE; rw [Int.min_eq_left (by omega)], rfl⟩
theorem refGetHead (w : Nat) (hw : w < 18446744073709551616) : Fx Tryz.prog 200 [wd w] L (fun v L' => v = hdV (hdI w) (hdT w) ∧ L = L') := by
 refine Fx.mk Tryz.func200 k200 (Nat.le_of_ble_eq_true rfl) ?_
 dsimp only [c200, envOf, Nat.reduceAdd]
 refine Cx.sq ?_
 refine Cx.rg ?_
 refine Sx.al fun g => ?_
 refine gg ?_
 have hm : (w : Int).tmod 4294967296 = ((w % 4294967296 : Nat) : Int) := natTmod w 4294967296
 have hdv : (w : Int).tdiv 4294967296 = (hdT w : Int) := (Int.ofNat_tdiv w 4294967296).symm
 have h3 := hdT_lt hw
 rw [hm, hdv, w64 (n := ((w % 4294967296 : Nat) : Int)) (by omega) (by omega), w64 (n := ((w % 4294967296 : Nat) : Int) - 1) (by omega) (by omega), wu64 (n := (hdT w : Int)) (by omega) (by omega), w64 (n := (hdT w : Int)) (by omega) (by omega)]
 refine Sx.st (b := g) rfl rfl rfl rfl rfl rfl ?_
 dsimp only [lay]
 refine go ?_
 exact Kr_cell (b := g) (.inr rfl) rfl rfl (L' := L) Ent.drop ⟨rfl, rfl⟩
theorem refTop {sb rm : Nat} {k : Sk} (w : Nat) (hw : w < 18446744073709551616) [t : Take L (some ⟨sb, 0, none⟩) (RSkO rm k) F] :
  Fx Tryz.prog 133 [.pointer (some ⟨sb, 0, none⟩), wd w] L (fun v L' => v = .int .i64 (k.top w) ∧ L = L') := by
 refine Fx.mk Tryz.func133 k133 (Nat.le_of_ble_eq_true rfl) ?_
 dsimp only [c133, envOf, Nat.reduceAdd]
 refine go ?_
 refine Sx.ca rfl (refGetHead w hw) ?_
 rintro v L' ⟨rfl, rfl⟩
 refine go ?_
 refine Cx.ifp rfl (fun h => ?_) (fun h => ?_)
 ·refine go ?_
  exact Kr.one (.inr rfl) rfl (Ent.refl _) ⟨by unfold Sk.top; rw [if_neg (by omega)], rfl⟩
 ·refine go ?_
  exact Kr.one (.inr rfl) rfl (Ent.refl _) ⟨by unfold Sk.top; rw [if_pos (by omega)], rfl⟩
theorem refBelow {sb rm : Nat} {k : Sk} (w : Nat) (hw : w < 18446744073709551616) (hk : k.n ≤ 4096) [t : Take L (some ⟨sb, 0, none⟩) (RSkO rm k) F] :
  Fx Tryz.prog 134 [.pointer (some ⟨sb, 0, none⟩), wd w] L (fun v L' => v = .int .i64 (k.below w) ∧ L = L') := by
 refine Fx.mk Tryz.func134 k134 (Nat.le_of_ble_eq_true rfl) ?_
 dsimp only [c134, envOf, Nat.reduceAdd]
 refine go ?_
 rw [wu64 (n := (k.n : Int)) (by omega) (by omega)]
 refine Cx.ifp rfl (fun h => ?_) (fun h => ?_)
 ·refine go ?_
  exact Kr.one (.inr rfl) rfl (Ent.refl _) ⟨by unfold Sk.below; rw [if_pos (by omega)], rfl⟩
 ·refine go ?_
  rw [w64 (n := (w : Int)) (by omega) (by omega), w64 (n := (w : Int) - 1) (by omega) (by omega)]
  exact Kr.one (.inr rfl) rfl (Ent.refl _) ⟨by unfold Sk.below; rw [if_neg (by omega)], rfl⟩
theorem refNextHead (i : Int) (t : Nat) (j : Int) (ht : t < 4294967296) : Fx Tryz.prog 242 [hdV i t, .int .i64 j] L (fun v L' => v = hdV j (laterT t) ∧ L = L') := by
 refine Fx.mk Tryz.func242 k242 (Nat.le_of_ble_eq_true rfl) ?_
 dsimp only [c242, envOf, Nat.reduceAdd]
 refine Cx.sq ?_
 refine Cx.rg ?_
 refine Sx.bx rfl rfl fun q => ?_
 refine Sx.al fun g => ?_
 refine go ?_
 refine Cx.ifp rfl (fun h => ?_) (fun h => ?_)
 ·refine go ?_
  refine Sx.st (b := g) rfl rfl rfl rfl rfl rfl ?_
  dsimp only [lay]
  refine go ?_
  refine Kr_cell (b := g) (.inr rfl) rfl rfl (L' := L) (Ent.trans Ent.drop Ent.drop) ⟨?_, rfl⟩
  rw [show laterT t = 0 by unfold laterT; rw [if_neg (by omega)]]
  rfl
 ·refine go ?_
  rw [w64 (n := (t : Int) + 1) (by omega) (by omega)]
  refine Sx.st (b := g) rfl rfl rfl rfl rfl rfl ?_
  dsimp only [lay]
  refine go ?_
  refine Kr_cell (b := g) (.inr rfl) rfl rfl (L' := L) (Ent.trans Ent.drop Ent.drop) ⟨?_, rfl⟩
  rw [show laterT t = t + 1 by unfold laterT; rw [if_pos (by omega)]]
  rfl
theorem refNextW (w : Nat) (i : Int) (hw : w < 18446744073709551616) (h1 : -1 ≤ i) (h2 : i < 4294967295) : Fx Tryz.prog 195 [wd w, .int .i64 i] L (fun v L' => v = wd (nextW w i) ∧ L = L') := by
 refine Fx.mk Tryz.func195 k195 (Nat.le_of_ble_eq_true rfl) ?_
 dsimp only [c195, envOf, Nat.reduceAdd]
 refine go ?_
 refine Sx.ca rfl (refGetHead w hw) ?_
 rintro v L' ⟨rfl, rfl⟩
 refine go ?_
 refine Sx.ca rfl (refNextHead _ _ i (hdT_lt hw)) ?_
 rintro v L' ⟨rfl, rfl⟩
 refine go ?_
 refine Sx.ca rfl (refPutHead i (laterT (hdT w)) h1 h2 (laterT_lt (hdT_lt hw))) ?_
 rintro v L' ⟨rfl, rfl⟩
 refine go ?_
 exact Kr.one (.inr rfl) rfl (Ent.refl _) ⟨rfl, rfl⟩
end
end Go.Proofs.YtflalhdofhobmaaGreat


namespace Go.Proofs.YtflalhdofhobmaaGreat
open Go
attribute [local irreducible] Sx Cx Rx Fx Krg Ksq Kbl Klp Kr
theorem ints_last {l : List Int} (h : l ≠ []) : (ints l)[l.length - 1]? = some (.int .i64 (lastI l)) := by
 unfold ints lastI
 rw [List.getElem?_map, List.getLastD_eq_getLast?, ← List.getLast?_eq_getElem?, List.getLast?_eq_some_getLast h]
 rfl
section
variable {L F G : St}
def rpopL (T : TypeId) (sb : Nat) (q : PopS) (a : Option Addr) (y : Option Addr × Nat) : St :=
 [pt a (Blk T [.pointer (some ⟨sb, 0, none⟩), .int .i64 q.most, .int .i64 (q.at_ : Nat), .int .i64 q.under, wd q.was, .slice y.1 q.got.length y.2, .bool q.done]), pt y.1 (Row 3 1 q.got.length y.2 (ints q.got))]
def RPopT (T : TypeId) (sb : Nat) (q : PopS) (a : Option Addr) : As := exs (rpopL T sb q a)
abbrev RPopO := RPopT 235
theorem RPopO.close {T : TypeId} {sb : Nat} {a r : Option Addr} {c n : Nat} {v0 v1 v2 v3 v4 v6 : Value} {w : List Value} {F G : St} (q : PopS) [t : Take L a (Blk T [v0, v1, v2, v3, v4, .slice r n c, v6]) F] [u : Take F r (Row 3 1 n c w) G]
  (h0 : v0 = .pointer (some ⟨sb, 0, none⟩)) (h1 : v1 = .int .i64 q.most) (h2 : v2 = .int .i64 (q.at_ : Nat)) (h3 : v3 = .int .i64 q.under) (h4 : v4 = wd q.was) (h5 : n = q.got.length) (h6 : v6 = .bool q.done) (hw : w = ints q.got) : Ent L (pt a (RPopT T sb q) :: G) := by
 subst h0 h1 h2 h3 h4 h5 h6 hw
 refine Ent.trans (Ent.take1 (t := t) (Ent.of u.out)) ?_
 exact Ent.close (f := rpopL T sb q a) rfl (r, c)
theorem refPopNew {sb rm : Nat} {k : Sk} (most : Int) [t : Take L (some ⟨sb, 0, none⟩) (RSkO rm k) F] :
  Fx Tryz.prog 166 [.pointer (some ⟨sb, 0, none⟩), .int .i64 most] L (fun v L' => ∃ b, v = .pointer (some ⟨b, 0, none⟩) ∧ L' = pt (some ⟨b, 0, none⟩) (RPopO sb (PopS.init most)) :: L) := by
 refine Fx.mk Tryz.func166 k166 (Nat.le_of_ble_eq_true rfl) ?_
 dsimp only [c166, envOf, Nat.reduceAdd]
 refine go ?_
 refine Sx.bx rfl rfl fun b => ?_
 refine go ?_
 refine Kr.one (.inr rfl) rfl ?_ ⟨b, rfl, rfl⟩
 refine Ent.trans (Ent.rownil 3 1) ?_
 refine RPopO.close (a := some ⟨b, 0, none⟩) (r := none) (PopS.init most) rfl (congrArg (Value.int .i64) ?_) rfl rfl rfl rfl rfl rfl
 simp only [PopS.init, cond_true, cond_false]
 (repeat' split) <;> omega
set_option maxHeartbeats 1000000 in
theorem refPopStep {b sb rm : Nat} {k : Sk} {m : Mm} {q : PopS} {F1 F2 : St} (hk : k.ok m.ws.length) (hq : q.ok k) [t1 : Take L (some ⟨b, 0, none⟩) (RPopO sb q) F1] [t2 : Take F1 (some ⟨rm, 0, none⟩) (RMemO m) F2] [t3 : Take F2 (some ⟨sb, 0, none⟩) (RSkO rm k) G] :
  Fx Tryz.prog 167 [.pointer (some ⟨b, 0, none⟩)] L (fun v L' => v = .bool (!q.done) ∧ L' = pt (some ⟨b, 0, none⟩) (RPopO sb (popStep k m q).1) :: pt (some ⟨rm, 0, none⟩) (RMemO (popStep k m q).2) :: F2) := by
 obtain ⟨k1, k2, k3, k4, k5, k6⟩ := hk
 refine Fx.mk Tryz.func167 k167 (Nat.le_of_ble_eq_true rfl) ?_
 dsimp only [c167, envOf, Nat.reduceAdd]
 refine Cx.ent (Ent.trans (Ent.of t1.out) (Ent.cons (Ent.trans (Ent.of t2.out) (Ent.cons (Ent.of t3.out))))) ?_
 refine Cx.pure (rmemKey (rm := rm) (m := m)) fun hm => ?_
 refine Cx.openp (a := some ⟨b, 0, none⟩) rfl ?_
 rintro ⟨r, c⟩
 simp only [rpopL, List.cons_append, List.nil_append]
 cases hd : q.done with
 | true =>
   have e1 : popStep k m q = (q, m) := by unfold popStep; rw [hd]; rfl
   rw [e1]
   refine go ?_
   refine Kr.one (.inr rfl) rfl (Ent.trans (RPopO.close (sb := sb) (a := some ⟨b, 0, none⟩) (r := r) q rfl rfl rfl rfl rfl rfl (by rw [hd]) rfl) (Ent.cons (Ent.cons (Ent.of t3.back)))) ⟨rfl, rfl⟩
 | false =>
   have ha := hq.a
   rcases (show q.at_ = 0 ∨ q.at_ = 1 ∨ q.at_ = 2 by omega) with h0 | h0 | h0
   ·have hwl := Mm.at_lt hm.1 k.head
    rw [h0]
    refine go ?_
    refine Cx.ordc rfl (by kernel_rfl) ?_
    refine ge ?_
    refine Ev.caH (by kernel_rfl) rfl rfl (refLoad (rm := rm) (m := m) k.head k3) (Pres.deps (by kernel_rfl)) ?_
    rintro v L' ⟨rfl, rfl⟩
    refine ge ?_
    refine Ev.stbH (b := b) (by kernel_rfl) rfl rfl rfl rfl rfl (by rfl) rfl (Pres.deps (by kernel_rfl)) ?_
    refine ge ?_
    refine go ?_
    refine Sx.ca rfl (refTop (sb := sb) (rm := rm) (k := k) (m.at_ k.head) hwl) ?_
    rintro v L' ⟨rfl, rfl⟩
    refine go ?_
    refine Cx.ifp rfl (fun h => ?_) (fun h => ?_)
    ·have e1 : popStep k m q = ({ q with was := m.at_ k.head, got := [], done := true }, m.tick) := by unfold popStep; rw [hd, h0]; simp only [Bool.false_eq_true, if_false]; rw [if_neg (by omega)]
     rw [e1]
     refine go ?_
     refine Kr.one (.inr rfl) rfl ?_ ⟨rfl, rfl⟩
     refine Ent.trans (Ent.rownil 3 1) ?_
     refine Ent.trans (RPopO.close (sb := sb) (a := some ⟨b, 0, none⟩) (r := none) { q with was := m.at_ k.head, got := [], done := true } rfl rfl (by rw [h0]) rfl rfl rfl rfl rfl) ?_
     refine Ent.cons ?_
     refine Ent.trans ?_ (Ent.cons (Ent.of t3.back))
     exact ent
    ·have e1 : popStep k m q = ({ q with was := m.at_ k.head, got := [k.top (m.at_ k.head)], at_ := 1 }, m.tick) := by unfold popStep; rw [hd, h0]; simp only [Bool.false_eq_true, if_false]; rw [if_pos (by omega)]
     rw [e1]
     refine go ?_
     refine Sx.bs (sz := 1) rfl rfl fun g => ?_
     refine go ?_
     refine Sx.apn rfl rfl (Rd.row (b := g) (E := 3) (cap := 1) rfl) rfl (by simp [maxLen]) (by omega) fun r' c' hc => ?_
     refine go ?_
     refine Kr.one (.inr rfl) rfl ?_ ⟨rfl, rfl⟩
     refine Ent.trans (RPopO.close (sb := sb) (a := some ⟨b, 0, none⟩) (r := r') { q with was := m.at_ k.head, got := [k.top (m.at_ k.head)], at_ := 1 } rfl rfl rfl rfl rfl rfl (by rw [hd]) rfl) ?_
     refine Ent.cons ?_
     refine Ent.trans ?_ (Ent.cons (Ent.of t3.back))
     exact ent
   ·have hne := hq.ne hd (by omega)
    have hlp := List.length_pos_iff.2 hne
    have hlen8 := hq.len
    have hlast := hq.g _ (lastI_mem hne)
    have hm8 := hq.m2
    have hwl := Mm.at_lt hm.1 (k.links + (lastI q.got).toNat)
    obtain ⟨bl, hbl⟩ : ∃ bl, k.below (m.at_ (k.links + (lastI q.got).toNat)) = bl := ⟨_, rfl⟩
    have hbl1 : -1 ≤ bl := hbl ▸ k.below_ge _
    have hbl2 : bl < k.n := hbl ▸ k.below_lt _
    refine Cx.rowkey (a := r) fun hx0 hn0 hc0 hk1 => ?_
    obtain ⟨rg, rfl⟩ := row_some hlp (hk1.imp (fun h => ⟨h.1, h.2.1, h.2.2⟩) id)
    rw [h0]
    refine go ?_
    refine Cx.ordc rfl (by kernel_rfl) ?_
    refine ge ?_
    rw [w64 (n := (q.got.length : Int) - 1) (by omega) (by omega)]
    refine ge ?_
    refine Ev.ldrH (b := rg) (v := .int .i64 (lastI q.got)) (by kernel_rfl) rfl rfl (by rw [show 0 + ((q.got.length : Int) - 1).toNat * 1 = q.got.length - 1 by omega]; exact ints_last hne) ?_
    refine ge ?_
    rw [w64 (n := (k.links : Int) + lastI q.got) (by omega) (by omega), show (k.links : Int) + lastI q.got = ((k.links + (lastI q.got).toNat : Nat) : Int) by omega]
    refine Ev.caH (by kernel_rfl) rfl rfl (refLoad (rm := rm) (m := m) (k.links + (lastI q.got).toNat) (by omega)) (Pres.deps (by kernel_rfl)) ?_
    rintro v L' ⟨rfl, rfl⟩
    refine ge ?_
    refine Ev.cakH (by kernel_rfl) rfl rfl (refBelow (sb := sb) (rm := rm) (k := k) _ hwl k2) ?_
    rw [hbl]
    refine ge ?_
    refine Ev.stbH (b := b) (by kernel_rfl) rfl rfl rfl rfl rfl (by rfl) rfl (Pres.deps (by kernel_rfl)) ?_
    refine ge ?_
    refine Cx.sq ?_
    refine Cx.ordc rfl (by kernel_rfl) ?_
    refine ge ?_
    by_cases hb0 : 0 ≤ bl
    ·refine Ev.yes 120 rfl (decide_eq_true hb0) ?_
     refine ge ?_
     refine Cx.ifp rfl (fun h => ?_) (fun h => ?_)
     ·have e1 : popStep k m q = ({ q with under := bl, got := q.got ++ [bl] }, m.tick) := by unfold popStep; rw [hd, h0]; simp only [Bool.false_eq_true, if_false, hbl]; rw [if_pos ⟨hb0, h⟩]
      rw [e1]
      refine go ?_
      refine Cx.orde rfl (by kernel_rfl) ?_
      refine ge ?_
      refine Ev.bsH (sz := 1) (by kernel_rfl) rfl rfl rfl (.dep rfl (.keep (fun v L' ⟨_, _, e⟩ => by subst e; exact Has.cell rfl) .nil)) fun g => ?_
      refine ge ?_
      refine Ev.apH (ra := some ⟨rg, 0, none⟩) (by kernel_rfl) rfl rfl rfl (Rd.row (b := g) (E := 3) (cap := 1) rfl) rfl (by simp [maxLen]; omega) (by omega) (Pres.deps (by kernel_rfl)) fun r' c' hc hk2 => ?_
      refine ge ?_
      refine Ev.stbH (b := b) (by kernel_rfl) rfl rfl rfl rfl rfl (by rfl) rfl (Pres.deps (by kernel_rfl)) ?_
      refine ge ?_
      refine go ?_
      refine Kr.one (.inr rfl) rfl ?_ ⟨rfl, rfl⟩
      refine Ent.trans (RPopO.close (sb := sb) (a := some ⟨b, 0, none⟩) (r := r') { q with under := bl, got := q.got ++ [bl] } rfl rfl (by rw [h0]) rfl rfl (by simp) (by rw [hd]) (by simp [ints, lay])) ?_
      refine Ent.cons ?_
      refine Ent.trans ?_ (Ent.cons (Ent.of t3.back))
      exact ent
     ·have e1 : popStep k m q = ({ q with under := bl, at_ := 2 }, m.tick) := by unfold popStep; rw [hd, h0]; simp only [Bool.false_eq_true, if_false, hbl]; rw [if_neg (fun hh => h hh.2)]
      rw [e1]
      refine go ?_
      refine Kr.one (.inr rfl) rfl ?_ ⟨rfl, rfl⟩
      refine Ent.trans (RPopO.close (sb := sb) (a := some ⟨b, 0, none⟩) (r := some ⟨rg, 0, none⟩) { q with under := bl, at_ := 2 } rfl rfl rfl rfl rfl rfl (by rw [hd]) rfl) ?_
      refine Ent.cons ?_
      refine Ent.trans ?_ (Ent.cons (Ent.of t3.back))
      exact ent
    ·refine Ev.no 120 rfl (decide_eq_false hb0) ?_
     have e1 : popStep k m q = ({ q with under := bl, at_ := 2 }, m.tick) := by unfold popStep; rw [hd, h0]; simp only [Bool.false_eq_true, if_false, hbl]; rw [if_neg (fun hh => hb0 hh.1)]
     rw [e1]
     refine ge ?_
     refine go ?_
     refine Kr.one (.inr rfl) rfl ?_ ⟨rfl, rfl⟩
     refine Ent.trans (RPopO.close (sb := sb) (a := some ⟨b, 0, none⟩) (r := some ⟨rg, 0, none⟩) { q with under := bl, at_ := 2 } rfl rfl rfl rfl rfl rfl (by rw [hd]) rfl) ?_
     refine Ent.cons ?_
     refine Ent.trans ?_ (Ent.cons (Ent.of t3.back))
     exact ent
   ·have hu1 := hq.u1
    have hu2 := hq.u2
    have hw := hq.w
    have hnw := nextW_lt (i := q.under) hw (by omega)
    have e1 : popStep k m q = ({ q with at_ := 0, done := decide (m.at_ k.head = q.was) }, m.cas k.head q.was (nextW q.was q.under)) := by unfold popStep; rw [hd, h0]; rfl
    rw [e1, h0]
    refine go ?_
    refine Cx.ordc rfl (by kernel_rfl) ?_
    refine ge ?_
    refine Ev.cakH (by kernel_rfl) rfl rfl (refNextW q.was q.under hw hu1 (by omega)) ?_
    refine ge ?_
    refine Ev.caH (by kernel_rfl) rfl rfl (refCas (rm := rm) (m := m) k.head q.was (nextW q.was q.under) k3 hw hnw) (Pres.deps (by kernel_rfl)) ?_
    rintro v L' ⟨rfl, rfl⟩
    refine ge ?_
    refine Ev.stbH (b := b) (by kernel_rfl) rfl rfl rfl rfl rfl (by rfl) rfl (Pres.deps (by kernel_rfl)) ?_
    refine ge ?_
    refine go ?_
    refine Kr.one (.inr rfl) rfl ?_ ⟨rfl, rfl⟩
    refine Ent.trans (RPopO.close (sb := sb) (a := some ⟨b, 0, none⟩) (r := r) { q with at_ := 0, done := decide (m.at_ k.head = q.was) } rfl rfl rfl rfl rfl rfl rfl rfl) ?_
    refine Ent.cons ?_
    refine Ent.trans ?_ (Ent.cons (Ent.of t3.back))
    exact ent
theorem refPopGot {b sb rm : Nat} {k : Sk} {q : PopS} {F1 : St} (hd : q.done = true) (hb : q.got.length ≤ 8) [t1 : Take L (some ⟨b, 0, none⟩) (RPopO sb q) F1] :
  Fx Tryz.prog 168 [.pointer (some ⟨b, 0, none⟩)] L (fun v L' => ∃ r c, v = .slice r q.got.length c ∧ L' = pt r (Row 3 1 q.got.length c (ints q.got)) :: pt (some ⟨b, 0, none⟩) (RPopO sb q) :: F1) := by
 refine Fx.mk Tryz.func168 k168 (Nat.le_of_ble_eq_true rfl) ?_
 dsimp only [c168, envOf, Nat.reduceAdd]
 refine Cx.openp (t := t1) rfl ?_
 rintro ⟨r, c⟩
 simp only [rpopL, List.cons_append, List.nil_append]
 rw [hd]
 refine Cx.rowkey (a := r) fun hx0 hn0 hc0 hk1 => ?_
 refine go ?_
 refine Sx.apn rfl rfl (Rd.any (a := r) hx0 (hk1.imp (fun h => h.2.1) id)) (ones_ints _) (by simp [maxLen]; omega) (by omega) fun r' c' hc => ?_
 refine go ?_
 refine Kr.one (.inr rfl) rfl (Ent.cons ?_) ⟨r', c', rfl, rfl⟩
 exact RPopO.close (sb := sb) (a := some ⟨b, 0, none⟩) (r := r) q rfl rfl rfl rfl rfl rfl (by rw [hd]) rfl
end
end Go.Proofs.YtflalhdofhobmaaGreat


namespace Go.Proofs.YtflalhdofhobmaaGreat
open Go
attribute [local irreducible] Sx Cx Rx Fx Krg Ksq Kbl Klp Kr
section
variable {L F : St}
theorem anyOpen_least {now : Int} {m : Lm} (h : 2 ≤ now) : decide (0 ≤ leastI (leastUp now m 3)) = anyOpen now m := by
 refine decide_eq_decide.2 ?_
 cases hl : leastUp now m 3 with
 | none =>
   have hn := leastUp_none hl
   simp [leastI, hn 0 (by omega), hn 1 (by omega), hn 2 (by omega)]
 | some j =>
   have hj := leastUp_lt hl
   have h1 := hj.1
   simp only [leastI]
   refine ⟨fun _ => ⟨h, ?_⟩, fun _ => by omega⟩
   rcases (show j = 0 ∨ j = 1 ∨ j = 2 by omega) with rfl | rfl | rfl
   ·exact .inl hj.2
   ·exact .inr (.inl hj.2)
   ·exact .inr (.inr hj.2)
theorem refOpen {b : Nat} {m : Lm} {now : Int} {F : St} [t : Take L (some ⟨b, 0, none⟩) (RLimboO m) F] (h3 : now ≤ 9223372036854775807) :
  Fx Tryz.prog 253 [.pointer (some ⟨b, 0, none⟩), .int .i64 now] L (fun v L' => v = .bool (anyOpen now m) ∧ L = L') := by
 refine Fx.mk Tryz.func253 k253 (Nat.le_of_ble_eq_true rfl) ?_
 dsimp only [c253, envOf, Nat.reduceAdd]
 refine go ?_
 refine Sx.ifp rfl (fun h => ?_) (fun h => ?_)
 ·refine go ?_
  refine Sx.ca rfl (refLeast (b := b) (m := m) (F := F) h h3) ?_
  rintro v L' ⟨rfl, rfl⟩
  refine go ?_
  exact Kr.one (.inr rfl) rfl (Ent.refl _) ⟨congrArg Value.bool (anyOpen_least h), rfl⟩
 ·have h' : ¬ 2 ≤ now := h
  refine go ?_
  exact Kr.one (.inr rfl) rfl (Ent.refl _) ⟨by simp [anyOpen, h'], rfl⟩
theorem refLimboLen {b : Nat} {m : Lm} {F : St} [t : Take L (some ⟨b, 0, none⟩) (RLimboO m) F] (hb : m.size ≤ 1000000000) :
  Fx Tryz.prog 229 [.pointer (some ⟨b, 0, none⟩)] L (fun v L' => v = .int .i64 m.size ∧ L = L') := by
 have hs : m.size = m.x0.length + m.x1.length + m.x2.length := rfl
 refine Fx.kept (t := t) ?_
 refine Fx.mk Tryz.func229 k229 (Nat.le_of_ble_eq_true rfl) ?_
 dsimp only [c229, envOf, Nat.reduceAdd]
 refine Cx.openp (t := t) rfl ?_
 rintro ⟨⟨⟨r0, c0⟩, ⟨r1, c1⟩, ⟨r2, c2⟩⟩, ⟨u0, u1, u2, l⟩⟩
 simp only [refL, List.cons_append, List.nil_append]
 refine Cx.liftp fun hT => ?_
 refine go ?_
 refine Cx.ordc rfl (by kernel_rfl) ?_
 refine ge ?_
 rw [w64 (n := (m.x0.length : Int) + m.x1.length) (by omega) (by omega), w64 (n := (m.x0.length : Int) + m.x1.length + m.x2.length) (by omega) (by omega)]
 refine go ?_
 refine Kr.one (.inr rfl) rfl (RLimboO.close (a := some ⟨b, 0, none⟩) (r0 := r0) (r1 := r1) (r2 := r2) m hT rfl rfl rfl rfl rfl rfl rfl rfl rfl rfl) ⟨?_, rfl⟩
 refine congrArg (Value.int .i64) ?_
 omega
theorem RTag.put0 {m : Lm} {u0 u1 u2 l : Int} (h : RTag m u0 u1 u2 l) : RTag (m.put 0 0 []) u0 u1 u2 l := ⟨fun x => absurd rfl x, h.h1, h.h2, h.hl⟩
theorem RTag.put1 {m : Lm} {u0 u1 u2 l : Int} (h : RTag m u0 u1 u2 l) : RTag (m.put 1 0 []) u0 u1 u2 l := ⟨h.h0, fun x => absurd rfl x, h.h2, h.hl⟩
theorem RTag.put2 {m : Lm} {u0 u1 u2 l : Int} (h : RTag m u0 u1 u2 l) : RTag (m.put 2 0 []) u0 u1 u2 l := ⟨h.h0, h.h1, fun x => absurd rfl x, h.hl⟩
set_option maxHeartbeats 4000000 in
theorem refReady {b : Nat} {m : Lm} {now : Int} {F : St} [t : Take L (some ⟨b, 0, none⟩) (RLimboO m) F] (hb : m.size ≤ 100000000) (hnow : now ≤ 9223372036854775807) :
  Fx Tryz.prog 230 [.pointer (some ⟨b, 0, none⟩), .int .i64 now] L (fun v L' => ∃ ro co, v = .slice ro (readyAll now m).1.length co ∧
   L' = pt ro (Row 3 1 (readyAll now m).1.length co (ints (readyAll now m).1)) :: pt (some ⟨b, 0, none⟩) (RLimboO (readyAll now m).2) :: F) := by
 refine Fx.mk Tryz.func230 k230 (Nat.le_of_ble_eq_true rfl) ?_
 dsimp only [c230, envOf, Nat.reduceAdd]
 refine Cx.ent (Ent.trans (Ent.of t.out) (Ent.rownil 3 1)) ?_
 refine go ?_
 refine Cx.lp (α := {p : (List Int × Lm) × (Option Addr × Nat) // p.1.1.length + p.1.2.size = m.size ∧ p.1.1 ++ (readyAll now p.1.2).1 = (readyAll now m).1 ∧ (readyAll now p.1.2).2 = (readyAll now m).2})
  (fun p => [(0, .pointer (some ⟨b, 0, none⟩)), (1, .int .i64 now), (5, .slice p.1.2.1 p.1.1.1.length p.1.2.2)])
  (fun p => pt p.1.2.1 (Row 3 1 p.1.1.1.length p.1.2.2 (ints p.1.1.1)) :: pt (some ⟨b, 0, none⟩) (RLimboO p.1.1.2) :: F) (fun p => p.1.1.2.cnt) ⟨(([], m), (none, 0)), by simp, by simp, rfl⟩ (sub.cons rfl (sub.cons rfl (sub.cons rfl sub.nil))) (Ent.refl _) ?_
 rintro ⟨⟨⟨out, m'⟩, ⟨ro, co⟩⟩, hsz, he1, he2⟩
 dsimp only at hsz he1 he2 ⊢
 refine go ?_
 refine Sx.ca rfl (refOpen (b := b) (m := m') hnow) ?_
 rintro v L' ⟨rfl, rfl⟩
 refine go ?_
 have hall : ∀ o, 2 ≤ now → leastUp now m' 3 = o → readyAll now m' = match o with
    | none => ([], m')
    | some j => (m'.items j ++ (readyAll now (m'.put j 0 [])).1, (readyAll now (m'.put j 0 [])).2) := by
   intro o h2 ho
   unfold readyAll
   simp only [if_pos h2]
   cases o with
   | none =>
     cases hc : m'.cnt with
     | zero => rfl
     | succ c => simp [readyM, ho]
   | some j =>
     rw [cnt_put (leastUp_lt ho).1 (open_ne (leastUp_lt ho).2)]
     simp [readyM, ho]
 refine Cx.cd rfl (fun hop => ?_) (fun hop => ?_)
 ·have h2 : 2 ≤ now := (of_decide_eq_true hop).1
  rw [← anyOpen_least h2] at hop
  have hl := of_decide_eq_true hop
  refine go ?_
  refine Sx.ca rfl (refLeast (b := b) (m := m') h2 hnow) ?_
  rintro v L' ⟨rfl, rfl⟩
  rcases hlu : leastUp now m' 3 with _ | j
  ·rw [hlu] at hl; exact absurd hl (by decide)
  have hra := hall _ h2 hlu
  have hj := (leastUp_lt hlu).1
  have hne := open_ne (leastUp_lt hlu).2
  have hsp := size_put (m := m') hj
  have hcp := cnt_put hj hne
  have hm1 : out.length + (m'.x0.length + m'.x1.length + m'.x2.length) = m.size := hsz
  dsimp only at hra
  rw [hra, ← List.append_assoc] at he1
  rw [hra] at he2
  simp only [leastI]
  refine Sx.openp (a := some ⟨b, 0, none⟩) rfl ?_
  rintro ⟨⟨⟨r0, c0⟩, ⟨r1, c1⟩, ⟨r2, c2⟩⟩, ⟨u0, u1, u2, l⟩⟩
  simp only [refL, List.cons_append, List.nil_append]
  refine Sx.liftp fun hT => ?_
  rcases (show j = 0 ∨ j = 1 ∨ j = 2 by omega) with rfl | rfl | rfl
  ·refine gg ?_
   refine Sx.rowkey (a := r0) fun hxj hnj _ hkj => ?_
   refine Sx.ap (ra := ro) rfl rfl (Rd.any (a := r0) hxj (hkj.imp (fun h => h.2.1) id)) (ones_ints _) (by simp [maxLen]; omega) (by omega) fun ra ca hc => ?_
   refine gg ?_
   refine Klp.nm ⟨((out ++ m'.items 0, m'.put 0 0 []), (ra, ca)), by dsimp only; rw [List.length_append]; omega, he1, he2⟩ (sub.cons rfl (sub.cons rfl (sub.cons ?_ sub.nil))) ?_ (by dsimp only; omega)
   ·show _ = some (Value.slice ra (out ++ m'.items 0).length ca)
    rw [show (out ++ m'.items 0).length = out.length + m'.x0.length by simp [Lm.items]]
    rfl
   ·dsimp only
    rw [ints_append, List.length_append]
    refine Ent.take1 (t := inferInstance) ?_
    refine Ent.trans (Ent.rownil 3 1) ?_
    refine Ent.trans (RLimboO.close (a := some ⟨b, 0, none⟩) (r0 := none) (r1 := r1) (r2 := r2) (m'.put 0 0 []) hT.put0 rfl rfl rfl rfl rfl rfl rfl rfl rfl rfl) ?_
    exact ent
  ·refine gg ?_
   refine Sx.rowkey (a := r1) fun hxj hnj _ hkj => ?_
   refine Sx.ap (ra := ro) rfl rfl (Rd.any (a := r1) hxj (hkj.imp (fun h => h.2.1) id)) (ones_ints _) (by simp [maxLen]; omega) (by omega) fun ra ca hc => ?_
   refine gg ?_
   refine Klp.nm ⟨((out ++ m'.items 1, m'.put 1 0 []), (ra, ca)), by dsimp only; rw [List.length_append]; omega, he1, he2⟩ (sub.cons rfl (sub.cons rfl (sub.cons ?_ sub.nil))) ?_ (by dsimp only; omega)
   ·show _ = some (Value.slice ra (out ++ m'.items 1).length ca)
    rw [show (out ++ m'.items 1).length = out.length + m'.x1.length by simp [Lm.items]]
    rfl
   ·dsimp only
    rw [ints_append, List.length_append]
    refine Ent.take1 (t := inferInstance) ?_
    refine Ent.trans (Ent.rownil 3 1) ?_
    refine Ent.trans (RLimboO.close (a := some ⟨b, 0, none⟩) (r0 := r0) (r1 := none) (r2 := r2) (m'.put 1 0 []) hT.put1 rfl rfl rfl rfl rfl rfl rfl rfl rfl rfl) ?_
    exact ent
  ·refine gg ?_
   refine Sx.rowkey (a := r2) fun hxj hnj _ hkj => ?_
   refine Sx.ap (ra := ro) rfl rfl (Rd.any (a := r2) hxj (hkj.imp (fun h => h.2.1) id)) (ones_ints _) (by simp [maxLen]; omega) (by omega) fun ra ca hc => ?_
   refine gg ?_
   refine Klp.nm ⟨((out ++ m'.items 2, m'.put 2 0 []), (ra, ca)), by dsimp only; rw [List.length_append]; omega, he1, he2⟩ (sub.cons rfl (sub.cons rfl (sub.cons ?_ sub.nil))) ?_ (by dsimp only; omega)
   ·show _ = some (Value.slice ra (out ++ m'.items 2).length ca)
    rw [show (out ++ m'.items 2).length = out.length + m'.x2.length by simp [Lm.items]]
    rfl
   ·dsimp only
    rw [ints_append, List.length_append]
    refine Ent.take1 (t := inferInstance) ?_
    refine Ent.trans (Ent.rownil 3 1) ?_
    refine Ent.trans (RLimboO.close (a := some ⟨b, 0, none⟩) (r0 := r0) (r1 := r1) (r2 := none) (m'.put 2 0 []) hT.put2 rfl rfl rfl rfl rfl rfl rfl rfl rfl rfl) ?_
    exact ent
 ·refine go ?_
  have hra : readyAll now m' = ([], m') := by
   by_cases h2 : 2 ≤ now
   ·rw [← anyOpen_least h2] at hop
    have hl := of_decide_eq_false hop
    rcases hlu : leastUp now m' 3 with _ | j
    ·exact hall _ h2 hlu
    ·rw [hlu] at hl; exact absurd (show (0 : Int) ≤ leastI (some j) by simp [leastI]) hl
   ·unfold readyAll; rw [if_neg h2]
  rw [hra] at he1 he2
  simp only [List.append_nil] at he1
  subst he1; subst he2
  exact Kr.one (.inr rfl) rfl (Ent.refl _) ⟨ro, co, rfl, rfl⟩
end
end Go.Proofs.YtflalhdofhobmaaGreat


namespace Go.Proofs.YtflalhdofhobmaaGreat
open Go
attribute [local irreducible] Sx Cx Rx Fx Krg Ksq Kbl Klp Kr
section
variable {L F : St}
end
end Go.Proofs.YtflalhdofhobmaaGreat


namespace Go.Proofs.YtflalhdofhobmaaGreat
open Go
attribute [local irreducible] Sx Cx Rx Fx Krg Ksq Kbl Klp Kr
section
variable {L F G : St}
abbrev tkB (b u : Nat) (nx n1 n2 n3 : Value) (cnt : Int) (pp : Value) (chunk seen : Int) (is_ : Bool) : As :=
 pt (some ⟨b, 0, none⟩) (Blk 274 [nx, n1, n2, n3, .int .i64 cnt, .pointer (some ⟨u, 0, none⟩), pp, .int .i64 chunk, .int .i64 seen, .bool is_])
def takeDL (T : TypeId) (u : Nat) (t : TakeS) (a : Option Addr) (y : Value × Value × Value × Value × Int) : St :=
 [pt a (Blk T [.nilFunc, y.1, y.2.1, y.2.2.1, .int .i64 y.2.2.2.2, .pointer (some ⟨u, 0, none⟩), y.2.2.2.1, .int .i64 t.chunk, .int .i64 t.seen, .bool t.is_])]
def takeLL (T : TypeId) (u : Nat) (t : TakeS) (a : Option Addr) (y : Value × Value × Value × Value × Int) : St :=
 [pt a (Blk T [.func (.func 218) #[.pointer a] #[], y.1, y.2.1, y.2.2.1, .int .i64 y.2.2.2.2, .pointer (some ⟨u, 0, none⟩), y.2.2.2.1, .int .i64 t.chunk, .int .i64 t.seen, .bool t.is_])]
def takePL (T : TypeId) (u pb : Nat) (k : Sk) (t : TakeS) (a : Option Addr) (y : Nat × Int) : St :=
 [pt a (Blk T [.func (.func 232) #[.pointer a] #[], mth 163 y.1, mth 164 y.1, .func (.func 249) #[.pointer a] #[], .int .i64 y.2, .pointer (some ⟨u, 0, none⟩), .pointer (some ⟨y.1, 0, none⟩), .int .i64 t.chunk, .int .i64 t.seen, .bool t.is_]),
  pt (some ⟨y.1, 0, none⟩) (PopO pb k t.q)]
def TakeT (T : TypeId) (u pb : Nat) (k : Sk) (t : TakeS) (a : Option Addr) : As := bif t.done then exs (takeDL T u t a) else bif Nat.beq t.at_ 0 then exs (takeLL T u t a) else exs (takePL T u pb k t a)
abbrev TakeO := TakeT 274
theorem TakeO.d {T : TypeId} {u pb : Nat} {k : Sk} {t : TakeS} {a : Option Addr} (h : t.done = true) : TakeT T u pb k t a = exs (takeDL T u t a) := by unfold TakeT; rw [h]; rfl
theorem TakeO.l {T : TypeId} {u pb : Nat} {k : Sk} {t : TakeS} {a : Option Addr} (h : t.done = false) (h0 : t.at_ = 0) : TakeT T u pb k t a = exs (takeLL T u t a) := by unfold TakeT; rw [h, h0]; rfl
theorem TakeO.p {T : TypeId} {u pb : Nat} {k : Sk} {t : TakeS} {a : Option Addr} (h : t.done = false) (h0 : t.at_ ≠ 0) : TakeT T u pb k t a = exs (takePL T u pb k t a) := by
 unfold TakeT
 have : Nat.beq t.at_ 0 = false := by
  cases hb : Nat.beq t.at_ 0 with
  | false => rfl
  | true => exact absurd (Nat.eq_of_beq_eq_true hb) h0
 rw [h, this]; rfl
theorem TakeO.closeD {b u pb : Nat} {k : Sk} (t : TakeS) (h : t.done = true) {n1 n2 n3 pp : Value} {cnt chunk seen : Int} {is_ : Bool} (hc : chunk = t.chunk) (hs : seen = t.seen) (hi : is_ = t.is_) : Ent (tkB b u .nilFunc n1 n2 n3 cnt pp chunk seen is_ :: G) (pt (some ⟨b, 0, none⟩) (TakeO u pb k t) :: G) := by
 subst hc; subst hs; subst hi
 exact Ent.close (f := takeDL 274 u t (some ⟨b, 0, none⟩)) (TakeO.d h) (n1, n2, n3, pp, cnt)
theorem TakeO.closeL {b u pb : Nat} {k : Sk} (t : TakeS) (h : t.done = false) (h0 : t.at_ = 0) {n1 n2 n3 pp : Value} {cnt chunk seen : Int} {is_ : Bool} (hc : chunk = t.chunk) (hs : seen = t.seen) (hi : is_ = t.is_) :
  Ent (tkB b u (mth 218 b) n1 n2 n3 cnt pp chunk seen is_ :: G) (pt (some ⟨b, 0, none⟩) (TakeO u pb k t) :: G) := by
 subst hc; subst hs; subst hi
 exact Ent.close (f := takeLL 274 u t (some ⟨b, 0, none⟩)) (TakeO.l h h0) (n1, n2, n3, pp, cnt)
theorem TakeO.closeP {b u pb p : Nat} {k : Sk} (t : TakeS) (h : t.done = false) (h0 : t.at_ ≠ 0) {cnt chunk seen : Int} {is_ : Bool} {q : PopS} (hc : chunk = t.chunk) (hs : seen = t.seen) (hi : is_ = t.is_) (hq : q = t.q) :
  Ent (tkB b u (mth 232 b) (mth 163 p) (mth 164 p) (mth 249 b) cnt (.pointer (some ⟨p, 0, none⟩)) chunk seen is_ :: pt (some ⟨p, 0, none⟩) (PopO pb k q) :: G) (pt (some ⟨b, 0, none⟩) (TakeO u pb k t) :: G) := by
 subst hc; subst hs; subst hi; subst hq
 exact Ent.close (f := takePL 274 u pb k t (some ⟨b, 0, none⟩)) (TakeO.p h h0) (p, cnt)
abbrev tkV (u : Nat) (nx n1 n2 n3 : Value) (cnt : Int) (pp : Value) (chunk seen : Int) (is_ : Bool) : Option Addr → As :=
 Blk 274 [nx, n1, n2, n3, .int .i64 cnt, .pointer (some ⟨u, 0, none⟩), pp, .int .i64 chunk, .int .i64 seen, .bool is_]
theorem takeKept {b u mp pb : Nat} {x : Cn} {s : SupS} {nx n1 n2 n3 pp : Value} {cnt chunk seen : Int} {is_ : Bool} {F1 : St} (hb : s.xs.length ≤ 1000000000) [t1 : Take L (some ⟨b, 0, none⟩) (tkV u nx n1 n2 n3 cnt pp chunk seen is_) F1] [t2 : Take F1 (some ⟨u, 0, none⟩) (SupO mp pb x s) G] :
  Fx Tryz.prog 216 [.pointer (some ⟨b, 0, none⟩)] L
   (fun v L' => v = .bool (decide (s.xs ≠ [])) ∧ L' = tkB b u nx n1 n2 n3 cnt pp (lastI s.xs) seen (decide (s.xs ≠ [])) :: pt (some ⟨u, 0, none⟩) (SupO mp pb x s.kept) :: G) := by
 refine Fx.mk Tryz.func216 k216 (Nat.le_of_ble_eq_true rfl) ?_
 dsimp only [c216, envOf, Nat.reduceAdd]
 refine Cx.ent (Ent.trans (Ent.of t1.out) (Ent.cons (Ent.of t2.out))) ?_
 refine Cx.openp (a := some ⟨u, 0, none⟩) rfl ?_
 rintro ⟨sh, lm⟩
 simp only [supL, List.cons_append, List.nil_append]
 refine go ?_
 refine Sx.ca rfl (stashTakeI (b := sh) s.xs hb) ?_
 rintro v L' ⟨rfl, rfl⟩
 refine go ?_
 refine Kr.one (.inr rfl) rfl ?_ ⟨rfl, rfl⟩
 refine Ent.cons ?_
 exact SupO.close (a := some ⟨u, 0, none⟩) (sh := sh) (lm := lm) (mp := mp) (pb := pb) (x := x) s.kept rfl rfl rfl
theorem takeAsk {b u mp pb : Nat} {x : Cn} {s : SupS} {n1 n2 n3 pp : Value} {cnt chunk seen : Int} {is_ : Bool} {F1 : St} (hx : x.ok) [t1 : Take L (some ⟨b, 0, none⟩) (tkV u .nilFunc n1 n2 n3 cnt pp chunk seen is_) F1] [t2 : Take F1 (some ⟨u, 0, none⟩) (SupO mp pb x s) G] :
  Fx Tryz.prog 219 [.pointer (some ⟨b, 0, none⟩)] L
   (fun v L' => L' = pt (some ⟨b, 0, none⟩) (TakeO u pb x.pool ⟨1, chunk, is_, seen, PopS.init x.ba, false⟩) :: pt (some ⟨u, 0, none⟩) (SupO mp pb x s) :: G) := by
 refine Fx.mk Tryz.func219 k219 (Nat.le_of_ble_eq_true rfl) ?_
 dsimp only [c219, envOf, Nat.reduceAdd]
 refine Cx.ent (Ent.trans (Ent.of t1.out) (Ent.cons (Ent.of t2.out))) ?_
 refine Cx.openp (a := some ⟨u, 0, none⟩) rfl ?_
 rintro ⟨sh, lm⟩
 simp only [supL, List.cons_append, List.nil_append]
 refine go ?_
 refine Cx.ordc rfl (by kernel_rfl) ?_
 refine ge ?_
 refine Ev.caH (by kernel_rfl) rfl rfl (stackPop (sb := pb) (k := x.pool) (x.ba : Int) (by have := hx.2.1; show 1 ≤ x.c; omega)) (Pres.deps (by kernel_rfl)) ?_
 rintro v L' ⟨p, rfl, rfl⟩
 refine ge ?_
 refine Ev.stbH (b := b) (by kernel_rfl) rfl rfl rfl rfl rfl (by rfl) rfl (Pres.deps (by kernel_rfl)) ?_
 refine ge ?_
 refine Cx.orde rfl (by kernel_rfl) ?_
 refine ge ?_
 refine Ev.caH (by kernel_rfl) rfl rfl (machThrough (b := b) (machOnNo (b := b) (by kernel_rfl) (popDoneC (b := p) (sb := pb) (k := x.pool) (q := PopS.init x.ba)))) (Pres.deps (by kernel_rfl)) ?_
 rintro v L' ⟨rfl, w, rfl, rfl⟩
 refine ge ?_
 refine Kr.none (.inl rfl) ?_ rfl
 refine Ent.trans (Ent.cons ?_) (TakeO.closeP (p := p) ⟨1, chunk, is_, seen, PopS.init x.ba, false⟩ rfl (by simp) rfl rfl rfl rfl)
 refine Ent.cons ?_
 exact SupO.close (a := some ⟨u, 0, none⟩) (sh := sh) (lm := lm) (mp := mp) (pb := pb) (x := x) s rfl rfl rfl
theorem epochCut (w : Nat) (hw : w < 18446744073709551616) : Fx Tryz.prog 233 [wd w] L (fun v L' => v = .int .i64 (cutE w) ∧ L = L') := by
 refine Fx.mk Tryz.func233 k233 (Nat.le_of_ble_eq_true rfl) ?_
 dsimp only [c233, envOf, Nat.reduceAdd]
 refine go ?_
 refine Kr.one (.inr rfl) rfl (Ent.refl _) ⟨congrArg (Value.int .i64) ?_, rfl⟩
 rw [cond_false]
 unfold cutE
 refine Eq.trans (congrArg IntKind.i64.wrap (show _ = min (w : Int) 4611686018427387903 by split <;> omega)) ?_
 exact w64 (by omega) (by omega)
theorem takeLook {b u mp pb : Nat} {x : Cn} {s : SupS} {m : Mm} {t : TakeS} {n1 n2 n3 pp : Value} {cnt : Int} {F1 F2 : St} (hx : x.ok) (hm : m.ok) (hl : 2 < m.ws.length) (hd : t.done = false) (h0 : t.at_ = 0) (hi : t.chunk = 0 ∧ t.is_ = false)
  (hb : s.xs.length + s.lm.size ≤ 1000000) [t1 : Take L (some ⟨b, 0, none⟩) (tkV u .nilFunc n1 n2 n3 cnt pp t.chunk t.seen t.is_) F1] [t2 : Take F1 (some ⟨u, 0, none⟩) (SupO mp pb x s) F2] [t3 : Take F2 (some ⟨mp, 0, none⟩) (MemO m) G] :
  Fx Tryz.prog 218 [.pointer (some ⟨b, 0, none⟩)] L
   (fun v L' => L' = pt (some ⟨b, 0, none⟩) (TakeO u pb x.pool (takeStep x.pool x.ba m s t).2.2) :: pt (some ⟨u, 0, none⟩) (SupO mp pb x (takeStep x.pool x.ba m s t).2.1) :: pt (some ⟨mp, 0, none⟩) (MemO (takeStep x.pool x.ba m s t).1) :: G) := by
 have hlt := Mm.at_lt hm 2
 have hz := size_ready (cutE (m.at_ 2)) s.lm
 have hcut : cutE (m.at_ 2) ≤ 9223372036854775807 := by unfold cutE; omega
 refine Fx.mk Tryz.func218 k218 (Nat.le_of_ble_eq_true rfl) ?_
 dsimp only [c218, envOf, Nat.reduceAdd]
 refine Cx.ent (Ent.trans (Ent.of t1.out) (Ent.cons (Ent.trans (Ent.of t2.out) (Ent.cons (Ent.of t3.out))))) ?_
 refine Cx.openp (a := some ⟨u, 0, none⟩) rfl ?_
 rintro ⟨sh, lm⟩
 simp only [supL, List.cons_append, List.nil_append]
 refine go ?_
 refine Sx.ca rfl (cellsLoad (b := mp) (m := m) 2 hl) ?_
 rintro v L' ⟨rfl, rfl⟩
 refine go ?_
 refine Sx.ca rfl (epochCut (m.at_ 2) hlt) ?_
 rintro v L' ⟨rfl, rfl⟩
 refine go ?_
 refine Cx.ent (SupO.close (a := some ⟨u, 0, none⟩) (sh := sh) (lm := lm) (mp := mp) (pb := pb) (x := x) s rfl rfl rfl) ?_
 refine Cx.ordc rfl (by kernel_rfl) ?_
 refine ge ?_
 refine Ev.caH (by kernel_rfl) rfl rfl (supReady (u := u) (mp := mp) (pb := pb) (x := x) (s := s) (now := cutE (m.at_ 2)) (by omega) (by omega) hcut) (Pres.deps (by kernel_rfl)) ?_
 rintro v L' ⟨rfl, rfl⟩
 refine ge ?_
 refine go ?_
 have hrl : (s.ready (cutE (m.at_ 2))).xs.length ≤ 1000000000 := by simp only [SupS.ready, List.length_append]; omega
 refine Sx.ca rfl (takeKept (b := b) (u := u) (mp := mp) (pb := pb) (x := x) (s := s.ready (cutE (m.at_ 2))) hrl) ?_
 rintro v L' ⟨rfl, rfl⟩
 by_cases hxs : (s.ready (cutE (m.at_ 2))).xs = []
 ·have e : takeStep x.pool x.ba m s t = (m.tick, s.ready (cutE (m.at_ 2)), ⟨1, 0, false, cutE (m.at_ 2), PopS.init x.ba, false⟩) := by
   unfold takeStep
   rw [hd, h0]
   simp only [Bool.false_eq_true, if_false, keepT, if_pos hxs, hi.1, hi.2]
  have hk : (s.ready (cutE (m.at_ 2))).kept = s.ready (cutE (m.at_ 2)) := by unfold SupS.kept; rw [hxs]; simp only [List.dropLast_nil]; rw [← hxs]
  rw [e, decide_eq_false (fun h : (s.ready (cutE (m.at_ 2))).xs ≠ [] => h hxs), hk, hxs]
  refine go ?_
  refine Sx.ca rfl (takeAsk (b := b) (u := u) (mp := mp) (pb := pb) (x := x) (s := s.ready (cutE (m.at_ 2))) hx) ?_
  rintro v L' rfl
  refine go ?_
  exact Kr.none (.inl rfl) (Ent.refl _) rfl
 ·have e : takeStep x.pool x.ba m s t = (m.tick, (s.ready (cutE (m.at_ 2))).kept, ⟨0, lastI (s.ready (cutE (m.at_ 2))).xs, true, cutE (m.at_ 2), t.q, true⟩) := by
   unfold takeStep
   rw [hd, h0]
   simp only [Bool.false_eq_true, if_false, keepT, if_neg hxs]
  rw [e, decide_eq_true (show (s.ready (cutE (m.at_ 2))).xs ≠ [] from hxs)]
  refine go ?_
  exact Kr.none (.inl rfl) (TakeO.closeD _ rfl rfl rfl rfl) rfl
theorem takePopped {b u mp pb p : Nat} {x : Cn} {s : SupS} {t : TakeS} {n1 n2 n3 : Value} {cnt : Int} {F1 F2 : St} {k : Sk} (hq : t.q.done = true) (hi : t.is_ = false) (hb : s.xs.length ≤ 1000000)
  [t1 : Take L (some ⟨b, 0, none⟩) (tkV u .nilFunc n1 n2 n3 cnt (.pointer (some ⟨p, 0, none⟩)) t.chunk t.seen t.is_) F1] [t2 : Take F1 (some ⟨u, 0, none⟩) (SupO mp pb x s) F2] [t3 : Take F2 (some ⟨p, 0, none⟩) (PopO pb k t.q) G] :
  Fx Tryz.prog 249 [.pointer (some ⟨b, 0, none⟩)] L
   (fun v L' => L' = pt (some ⟨b, 0, none⟩) (TakeO u pb k (popped s t).2) :: pt (some ⟨u, 0, none⟩) (SupO mp pb x (popped s t).1) :: G) := by
 refine Fx.mk Tryz.func249 k249 (Nat.le_of_ble_eq_true rfl) ?_
 dsimp only [c249, envOf, Nat.reduceAdd]
 refine Cx.ent (Ent.trans (Ent.of t1.out) (Ent.cons (Ent.trans (Ent.of t2.out) (Ent.cons (Ent.of t3.out))))) ?_
 have hlen : ∀ h, holds (tkB b u .nilFunc n1 n2 n3 cnt (.pointer (some ⟨p, 0, none⟩)) t.chunk t.seen t.is_ :: pt (some ⟨u, 0, none⟩) (SupO mp pb x s) :: pt (some ⟨p, 0, none⟩) (PopO pb k t.q) :: G) h → t.q.got.length ≤ 8 := by
  intro h hh
  have h1 := (inferInstance : Take (tkB b u .nilFunc n1 n2 n3 cnt (.pointer (some ⟨p, 0, none⟩)) t.chunk t.seen t.is_ :: pt (some ⟨u, 0, none⟩) (SupO mp pb x s) :: pt (some ⟨p, 0, none⟩) (PopO pb k t.q) :: G) (some ⟨p, 0, none⟩) (PopO pb k t.q) _).out h hh
  obtain ⟨y, hy⟩ := holds_ex.1 h1
  exact (holds_lift.1 hy).1.len
 refine Cx.pure hlen fun h8 => ?_
 refine go ?_
 refine Sx.ca rfl (popGot (b := p) (sb := pb) (k := k) (q := t.q) hq) ?_
 rintro v L' ⟨ro, co, rfl, rfl⟩
 refine go ?_
 cases hg : t.q.got with
 | nil =>
   have e : popped s t = (s, { t with done := true }) := by unfold popped; rw [hg]
   rw [e]
   refine go ?_
   refine Kr.none (.inl rfl) ?_ rfl
   refine Ent.trans ?_ (TakeO.closeD (n1 := n1) (n2 := n2) (n3 := n3) (cnt := cnt) (pp := .pointer (some ⟨p, 0, none⟩)) { t with done := true } rfl rfl rfl rfl)
   exact ent
 | cons y l =>
   have e : popped s t = (s.give l, { t with chunk := y, is_ := true, done := true }) := by unfold popped; rw [hg]
   rw [e]
   rw [hg] at h8
   simp only [List.length_cons] at h8 ⊢
   refine Cx.cyes rfl (decide_eq_true (by omega)) ?_
   refine Cx.rowkey (a := ro) fun hx0 hn0 hc0 hk0 => ?_
   obtain ⟨rg, rfl⟩ : ∃ g, ro = some ⟨g, 0, none⟩ := by
    rcases hk0 with h | h
    ·omega
    ·exact h
   refine go ?_
   refine Sx.pv rfl ⟨by omega, by omega⟩ ?_
   refine Sx.ldr (b := rg) rfl (v := .int .i64 y) rfl ?_
   refine go ?_
   refine Cx.orde rfl (by kernel_rfl) ?_
   refine ge ?_
   refine Ev.caH (by kernel_rfl) rfl rfl (supPut (u := u) (mp := mp) (pb := pb) (x := x) (s := s) (ys := l) (Rd.suffix_ (g := rg) (i := 1) hx0 hn0 (by omega)) (by omega)) (Pres.deps (by kernel_rfl)) ?_
   rintro v L' ⟨rfl, rfl⟩
   refine ge ?_
   refine Kr.none (.inl rfl) ?_ rfl
   refine Ent.trans ?_ (TakeO.closeD (n1 := n1) (n2 := n2) (n3 := n3) (cnt := cnt) (pp := .pointer (some ⟨p, 0, none⟩)) { t with chunk := y, is_ := true, done := true } rfl rfl rfl rfl)
   exact ent
structure TakeS.ok (t : TakeS) : Prop where
 a : t.at_ ≤ 1
 i : t.done = false → t.chunk = 0 ∧ t.is_ = false
theorem takeStepC {b u mp pb : Nat} {x : Cn} {s : SupS} {m : Mm} {t : TakeS} {F1 F2 F3 : St} (hx : x.ok) (hl : x.len ≤ m.ws.length) (ht : t.ok) (hb : s.xs.length + s.lm.size ≤ 1000000)
  [t1 : Take L (some ⟨b, 0, none⟩) (TakeO u pb x.pool t) F1] [t2 : Take F1 (some ⟨u, 0, none⟩) (SupO mp pb x s) F2] [t3 : Take F2 (some ⟨mp, 0, none⟩) (MemO m) F3] [t4 : Take F3 (some ⟨pb, 0, none⟩) (SkO mp x.pool) G] :
  Fx Tryz.prog 159 [.pointer (some ⟨b, 0, none⟩)] L
   (fun v L' => v = .bool (!t.done) ∧ L' = pt (some ⟨b, 0, none⟩) (TakeO u pb x.pool (takeStep x.pool x.ba m s t).2.2) :: pt (some ⟨u, 0, none⟩) (SupO mp pb x (takeStep x.pool x.ba m s t).2.1) :: pt (some ⟨mp, 0, none⟩) (MemO (takeStep x.pool x.ba m s t).1) :: F3) := by
 have hl3 : 3 ≤ x.len := by unfold Cn.len; omega
 refine Fx.mk Tryz.func159 k159 (Nat.le_of_ble_eq_true rfl) ?_
 dsimp only [c159, envOf, Nat.reduceAdd]
 refine Cx.ent (Ent.trans (Ent.of t1.out) (Ent.cons (Ent.trans (Ent.of t2.out) (Ent.cons (Ent.trans (Ent.of t3.out) (Ent.cons (Ent.of t4.out))))))) ?_
 refine Cx.pure (memKey (b := mp) (m := m)) fun hm => ?_
 cases hd : t.done with
 | true =>
   have e : takeStep x.pool x.ba m s t = (m, s, t) := by unfold takeStep; rw [hd]; rfl
   rw [e]
   refine Cx.openp (a := some ⟨b, 0, none⟩) (TakeO.d hd) ?_
   rintro ⟨n1, n2, n3, pp, cnt⟩
   simp only [takeDL, List.cons_append, List.nil_append]
   refine go ?_
   refine Sx.ca rfl (machStepDone (b := b)) ?_
   rintro v L' ⟨rfl, rfl⟩
   refine go ?_
   exact Kr.one (.inr rfl) rfl (Ent.trans (TakeO.closeD t hd rfl rfl rfl) (Ent.cons (Ent.cons (Ent.cons (Ent.of t4.back))))) ⟨rfl, rfl⟩
 | false =>
   have ha := ht.a
   rcases (show t.at_ = 0 ∨ t.at_ = 1 by omega) with h0 | h0
   ·refine Cx.openp (a := some ⟨b, 0, none⟩) (TakeO.l hd h0) ?_
    rintro ⟨n1, n2, n3, pp, cnt⟩
    simp only [takeLL, List.cons_append, List.nil_append]
    refine go ?_
    refine Sx.ca rfl (machStep (b := b) (by kernel_rfl) (takeLook (b := b) (u := u) (mp := mp) (pb := pb) (x := x) (s := s) (m := m) (t := t) hx hm.1 (by omega) hd h0 (ht.i hd) hb)) ?_
    rintro v L' ⟨rfl, w, rfl⟩
    refine go ?_
    exact Kr.one (.inr rfl) rfl (Ent.cons (Ent.cons (Ent.cons (Ent.of t4.back)))) ⟨rfl, rfl⟩
   ·refine Cx.openp (a := some ⟨b, 0, none⟩) (TakeO.p hd (by omega)) ?_
    rintro ⟨p, cnt⟩
    simp only [takePL, List.cons_append, List.nil_append]
    have hk := hx.pool (n := m.ws.length) hl hm.2
    cases hq : (popStep x.pool m t.q).1.done with
    | true =>
      have e : takeStep x.pool x.ba m s t = ((popStep x.pool m t.q).2, popped s { t with q := (popStep x.pool m t.q).1 }) := by
       unfold takeStep
       rw [hd, h0]
       simp only [Bool.false_eq_true, if_false, hq, if_true]
      rw [e]
      refine go ?_
      refine Sx.ca rfl (machStep (b := b) (by kernel_rfl) (machGoes (b := b) (by kernel_rfl) (popStepC (b := p) (mp := mp) (sb := pb) (k := x.pool) (m := m) (q := t.q) hk) (R2 := fun v L' => v = .tuple #[] ∧ ∃ w : Value, L' = pt (some ⟨b, 0, none⟩) (TakeO u pb x.pool (popped s { t with q := (popStep x.pool m t.q).1 }).2) :: pt (some ⟨u, 0, none⟩) (SupO mp pb x (popped s { t with q := (popStep x.pool m t.q).1 }).1) :: pt (some ⟨mp, 0, none⟩) (MemO (popStep x.pool m t.q).2) :: pt (some ⟨pb, 0, none⟩) (SkO mp x.pool) :: G) ?_)) ?_
      ·rintro v L1 ⟨rfl, rfl⟩
       have hon := machOnYes (b := b) (by kernel_rfl) (fd := 164) (ft := 249) (w := .pointer (some ⟨p, 0, none⟩)) (u := .pointer (some ⟨b, 0, none⟩)) (L := pt (some ⟨p, 0, none⟩) (PopO pb x.pool (popStep x.pool m t.q).1) :: pt (some ⟨mp, 0, none⟩) (MemO (popStep x.pool m t.q).2) :: tkB b u .nilFunc (mth 163 p) (mth 164 p) (mth 249 b) (IntKind.i64.wrap (cnt + 1)) (.pointer (some ⟨p, 0, none⟩)) t.chunk t.seen t.is_ :: pt (some ⟨u, 0, none⟩) (SupO mp pb x s) :: pt (some ⟨pb, 0, none⟩) (SkO mp x.pool) :: G)
        ((popDoneC (b := p) (sb := pb) (k := x.pool) (q := (popStep x.pool m t.q).1)).mono (by rintro v L' ⟨rfl, rfl⟩; exact ⟨by rw [hq], rfl⟩)) (by kernel_rfl)
        (takePopped (b := b) (u := u) (mp := mp) (pb := pb) (p := p) (x := x) (s := s) (t := { t with q := (popStep x.pool m t.q).1 }) (k := x.pool) hq (ht.i hd).2 (by omega))
       refine hon.mono ?_
       rintro v L' ⟨rfl, w, rfl⟩
       exact ⟨rfl, w, rfl⟩
      ·rintro v L' ⟨rfl, w, _, w2, _, w3, rfl⟩
       refine go ?_
       exact Kr.one (.inr rfl) rfl (Ent.cons (Ent.cons (Ent.cons (Ent.of t4.back)))) ⟨rfl, rfl⟩
    | false =>
      have e : takeStep x.pool x.ba m s t = ((popStep x.pool m t.q).2, s, { t with q := (popStep x.pool m t.q).1 }) := by
       unfold takeStep
       rw [hd, h0]
       simp only [Bool.false_eq_true, if_false, hq]
      rw [e]
      refine go ?_
      refine Sx.ca rfl (machStep (b := b) (by kernel_rfl) (machGoes (b := b) (by kernel_rfl) (popStepC (b := p) (mp := mp) (sb := pb) (k := x.pool) (m := m) (q := t.q) hk) (R2 := fun v L' => v = .tuple #[] ∧ L' = tkB b u (mth 232 b) (mth 163 p) (mth 164 p) (mth 249 b) (IntKind.i64.wrap (cnt + 1)) (.pointer (some ⟨p, 0, none⟩)) t.chunk t.seen t.is_ ::
       pt (some ⟨p, 0, none⟩) (PopO pb x.pool (popStep x.pool m t.q).1) :: pt (some ⟨mp, 0, none⟩) (MemO (popStep x.pool m t.q).2) :: pt (some ⟨u, 0, none⟩) (SupO mp pb x s) :: pt (some ⟨pb, 0, none⟩) (SkO mp x.pool) :: G) ?_)) ?_
      ·rintro v L1 ⟨rfl, rfl⟩
       have hon := machOnNo (b := b) (by kernel_rfl) (fd := 164) (w := .pointer (some ⟨p, 0, none⟩)) (L := pt (some ⟨p, 0, none⟩) (PopO pb x.pool (popStep x.pool m t.q).1) :: pt (some ⟨mp, 0, none⟩) (MemO (popStep x.pool m t.q).2) :: tkB b u .nilFunc (mth 163 p) (mth 164 p) (mth 249 b) (IntKind.i64.wrap (cnt + 1)) (.pointer (some ⟨p, 0, none⟩)) t.chunk t.seen t.is_ :: pt (some ⟨u, 0, none⟩) (SupO mp pb x s) :: pt (some ⟨pb, 0, none⟩) (SkO mp x.pool) :: G)
        ((popDoneC (b := p) (sb := pb) (k := x.pool) (q := (popStep x.pool m t.q).1)).mono (by rintro v L' ⟨rfl, rfl⟩; exact ⟨by rw [hq], rfl⟩))
       refine hon.mono ?_
       rintro v L' ⟨rfl, rfl⟩
       exact ⟨rfl, rfl⟩
      ·rintro v L' ⟨rfl, w, _, w2, _, rfl⟩
       refine go ?_
       refine Kr.one (.inr rfl) rfl ?_ ⟨rfl, rfl⟩
       refine Ent.trans (TakeO.closeP (p := p) { t with q := (popStep x.pool m t.q).1 } hd (by dsimp only; omega) rfl rfl rfl rfl) ?_
       refine Ent.cons ?_
       refine Ent.trans ?_ (Ent.cons (Ent.cons (Ent.of t4.back)))
       exact ent
theorem takeStep_ok {k : Sk} {ba : Int} {m : Mm} {s : SupS} {t : TakeS} (h : t.ok) : (takeStep k ba m s t).2.2.ok := by
 unfold takeStep
 split
 ·exact h
 ·rename_i hd
  have hd' : t.done = false := by simpa using hd
  have hi := h.i hd'
  split
  ·unfold keepT
   dsimp only
   split
   ·rename_i hr
    split at hr
    ·cases hr
    ·cases hr; exact ⟨by show t.at_ ≤ 1; exact h.a, fun h => by cases h⟩
   ·exact ⟨by simp, fun _ => ⟨hi.1, hi.2⟩⟩
  ·dsimp only
   split
   ·unfold popped
    split
    ·exact ⟨h.a, fun h => by cases h⟩
    ·exact ⟨h.a, fun h => by cases h⟩
   ·exact ⟨h.a, fun _ => hi⟩
theorem takeInit_ok {ba : Int} {s : SupS} : (takeInit ba s).2.ok := by
 unfold takeInit keepT
 split
 ·rename_i r hr
  split at hr
  ·cases hr
  ·cases hr; exact ⟨by simp [TakeS.none_], fun h => by cases h⟩
 ·split
  ·exact ⟨by simp [TakeS.none_], fun _ => ⟨rfl, rfl⟩⟩
  ·exact ⟨by simp, fun _ => ⟨rfl, rfl⟩⟩
theorem takeDone {b u pb : Nat} {k : Sk} {t : TakeS} {F1 : St} (ht : t.ok) [t1 : Take L (some ⟨b, 0, none⟩) (TakeO u pb k t) F1] : Fx Tryz.prog 160 [.pointer (some ⟨b, 0, none⟩)] L (fun v L' => v = .bool t.done ∧ L = L') := by
 refine Fx.kept (t := t1) ?_
 refine Fx.mk Tryz.func160 k160 (Nat.le_of_ble_eq_true rfl) ?_
 dsimp only [c160, envOf, Nat.reduceAdd]
 refine Cx.ent (Ent.of t1.out) ?_
 cases hd : t.done with
 | true =>
   refine Cx.openp (a := some ⟨b, 0, none⟩) (TakeO.d hd) ?_
   rintro ⟨n1, n2, n3, pp, cnt⟩
   simp only [takeDL, List.cons_append, List.nil_append]
   refine go ?_
   refine Sx.ca rfl (machDoneYes (b := b)) ?_
   rintro v L' ⟨rfl, rfl⟩
   refine go ?_
   exact Kr.one (.inr rfl) rfl (TakeO.closeD t hd rfl rfl rfl) ⟨rfl, rfl⟩
 | false =>
   have ha := ht.a
   rcases (show t.at_ = 0 ∨ t.at_ = 1 by omega) with h0 | h0
   ·refine Cx.openp (a := some ⟨b, 0, none⟩) (TakeO.l hd h0) ?_
    rintro ⟨n1, n2, n3, pp, cnt⟩
    simp only [takeLL, List.cons_append, List.nil_append]
    refine go ?_
    refine Sx.ca rfl (machDoneNo (b := b)) ?_
    rintro v L' ⟨rfl, rfl⟩
    refine go ?_
    exact Kr.one (.inr rfl) rfl (TakeO.closeL t hd h0 rfl rfl rfl) ⟨rfl, rfl⟩
   ·refine Cx.openp (a := some ⟨b, 0, none⟩) (TakeO.p hd (by omega)) ?_
    rintro ⟨p, cnt⟩
    simp only [takePL, List.cons_append, List.nil_append]
    refine go ?_
    refine Sx.ca rfl (machDoneNo (b := b)) ?_
    rintro v L' ⟨rfl, rfl⟩
    refine go ?_
    exact Kr.one (.inr rfl) rfl (TakeO.closeP (p := p) t hd (by omega) rfl rfl rfl rfl) ⟨rfl, rfl⟩
theorem takeChunk {b u pb : Nat} {k : Sk} {t : TakeS} {F1 : St} (ht : t.ok) [t1 : Take L (some ⟨b, 0, none⟩) (TakeO u pb k t) F1] : Fx Tryz.prog 220 [.pointer (some ⟨b, 0, none⟩)] L (fun v L' => v = .tuple #[.int .i64 t.chunk, .bool t.is_] ∧ L = L') := by
 refine Fx.kept (t := t1) ?_
 refine Fx.mk Tryz.func220 k220 (Nat.le_of_ble_eq_true rfl) ?_
 dsimp only [c220, envOf, Nat.reduceAdd]
 refine Cx.ent (Ent.of t1.out) ?_
 refine go ?_
 refine Sx.ca rfl (takeDone (b := b) (u := u) (pb := pb) (k := k) (t := t) ht) ?_
 rintro v L' ⟨rfl, rfl⟩
 cases hd : t.done with
 | false =>
   refine go ?_
   exact Kr.two (.inr rfl) rfl rfl (Ent.refl _) ⟨by rw [(ht.i hd).1, (ht.i hd).2], rfl⟩
 | true =>
   refine go ?_
   refine Cx.openp (a := some ⟨b, 0, none⟩) (TakeO.d hd) ?_
   rintro ⟨n1, n2, n3, pp, cnt⟩
   simp only [takeDL, List.cons_append, List.nil_append]
   refine Cx.ordc rfl (by kernel_rfl) ?_
   refine ge ?_
   refine go ?_
   exact Kr.two (.inr rfl) rfl rfl (TakeO.closeD t hd rfl rfl rfl) ⟨rfl, rfl⟩
end
end Go.Proofs.YtflalhdofhobmaaGreat


namespace Go.Proofs.YtflalhdofhobmaaGreat
open Go
attribute [local irreducible] Sx Cx Rx Fx Krg Ksq Kbl Klp Kr
section
variable {L F G : St}
theorem refTakeI {b : Nat} {most : Int} (xs : List Int) {F : St} [t : Take L (some ⟨b, 0, none⟩) (RefO most xs) F] (hb : xs.length ≤ 100000000) :
  Fx Tryz.prog 231 [.pointer (some ⟨b, 0, none⟩)] L (fun v L' => v = .tuple #[.int .i64 (lastI xs), .bool (decide (xs ≠ []))] ∧ L' = pt (some ⟨b, 0, none⟩) (RefO most xs.dropLast) :: F) := by
 rcases List.eq_nil_or_concat xs with rfl | ⟨ys, x, rfl⟩
 ·exact refTakeNone
 ·rw [List.concat_eq_append] at t hb ⊢
  refine (refTakeSome (t := t) (by simp at hb; omega)).mono ?_
  rintro v L' ⟨rfl, rfl⟩
  simp [lastI]
def rsupL (T : TypeId) (w : Nat) (S : SupS) (a : Option Addr) (y : Nat × Nat) : St :=
 [pt a (Blk T [.pointer (some ⟨w, 0, none⟩), .pointer (some ⟨y.1, 0, none⟩), .pointer (some ⟨y.2, 0, none⟩)]), pt (some ⟨y.1, 0, none⟩) (RefO S.most S.xs), pt (some ⟨y.2, 0, none⟩) (RLimboO S.lm)]
def RSupT (T : TypeId) (w : Nat) (S : SupS) (a : Option Addr) : As := exs (rsupL T w S a)
abbrev RSupO := RSupT 183
theorem RSupO.close {T : TypeId} {w st lm : Nat} {a : Option Addr} {m : Int} {xs : List Int} {l : Lm} {F0 F1 G : St} (S : SupS)
  [t : Take L a (Blk T [.pointer (some ⟨w, 0, none⟩), .pointer (some ⟨st, 0, none⟩), .pointer (some ⟨lm, 0, none⟩)]) F0] [u : Take F0 (some ⟨st, 0, none⟩) (RefO m xs) F1] [q : Take F1 (some ⟨lm, 0, none⟩) (RLimboO l) G]
  (hm : m = S.most) (hx : xs = S.xs) (hl : l = S.lm) : Ent L (pt a (RSupT T w S) :: G) := by
 subst hm; subst hx; subst hl
 refine Ent.trans (Ent.take1 (t := t) (Ent.trans (Ent.of u.out) (Ent.cons (Ent.of q.out)))) ?_
 exact Ent.close (f := rsupL T w S a) rfl (st, lm)
theorem refSupReady {s w : Nat} {S : SupS} {F : St} [t : Take L (some ⟨s, 0, none⟩) (RSupO w S) F] {now : Int} (hb : S.lm.size ≤ 100000000) (hx : S.xs.length ≤ 100000000) (hn : now ≤ 9223372036854775807) :
  Fx Tryz.prog 181 [.pointer (some ⟨s, 0, none⟩), .int .i64 now] L (fun v L' => v = .int .i64 (readyAll now S.lm).1.length ∧ L' = pt (some ⟨s, 0, none⟩) (RSupO w (S.ready now)) :: F) := by
 have hz := size_ready now S.lm
 refine Fx.mk Tryz.func181 k181 (Nat.le_of_ble_eq_true rfl) ?_
 dsimp only [c181, envOf, Nat.reduceAdd]
 refine Cx.openp (t := t) rfl ?_
 rintro ⟨st, lm⟩
 simp only [rsupL, List.cons_append, List.nil_append]
 refine go ?_
 refine Sx.ca rfl (refReady (b := lm) (m := S.lm) (now := now) hb hn) ?_
 rintro v L' ⟨ro, co, rfl, rfl⟩
 refine Sx.rowkey (a := ro) fun hx0 hn0 _ hk0 => ?_
 refine go ?_
 refine Sx.ca rfl (refGive (b := st) (Rd.any (a := ro) hx0 (hk0.imp (fun h => h.2.1) id)) (by omega)) ?_
 rintro v L' ⟨rfl, rfl⟩
 refine go ?_
 refine Kr.one (.inr rfl) rfl (Ent.trans (RSupO.close (a := some ⟨s, 0, none⟩) (st := st) (lm := lm) (w := w) (S.ready now) rfl rfl rfl) ?_) ⟨rfl, rfl⟩
 exact ent
def TakeS.ch (t : TakeS) : Int := if t.is_ then t.chunk else -1
abbrev rtkB (b s : Nat) (at_ : Nat) (ch seen : Int) (pp : Value) (d : Bool) : As := pt (some ⟨b, 0, none⟩) (Blk 186 [.pointer (some ⟨s, 0, none⟩), .int .i64 (at_ : Nat), .int .i64 ch, .int .i64 seen, pp, .bool d])
def rtakeDL (T : TypeId) (s : Nat) (t : TakeS) (a : Option Addr) (y : Nat × Value) : St := [pt a (Blk T [.pointer (some ⟨s, 0, none⟩), .int .i64 (y.1 : Nat), .int .i64 t.ch, .int .i64 t.seen, y.2, .bool true])]
def rtakeLL (T : TypeId) (s : Nat) (t : TakeS) (a : Option Addr) (y : Value) : St := [pt a (Blk T [.pointer (some ⟨s, 0, none⟩), .int .i64 0, .int .i64 (-1), .int .i64 t.seen, y, .bool false])]
def rtakePL (T : TypeId) (s rp : Nat) (t : TakeS) (a : Option Addr) (y : Nat) : St := [pt a (Blk T [.pointer (some ⟨s, 0, none⟩), .int .i64 1, .int .i64 (-1), .int .i64 t.seen, .pointer (some ⟨y, 0, none⟩), .bool false]), pt (some ⟨y, 0, none⟩) (RPopO rp t.q)]
def RTakeT (T : TypeId) (s rp : Nat) (t : TakeS) (a : Option Addr) : As := bif t.done then exs (rtakeDL T s t a) else bif Nat.beq t.at_ 0 then exs (rtakeLL T s t a) else exs (rtakePL T s rp t a)
abbrev RTakeO := RTakeT 186
theorem RTakeO.d {T : TypeId} {s rp : Nat} {t : TakeS} {a : Option Addr} (h : t.done = true) : RTakeT T s rp t a = exs (rtakeDL T s t a) := by unfold RTakeT; rw [h]; rfl
theorem RTakeO.l {T : TypeId} {s rp : Nat} {t : TakeS} {a : Option Addr} (h : t.done = false) (h0 : t.at_ = 0) : RTakeT T s rp t a = exs (rtakeLL T s t a) := by unfold RTakeT; rw [h, h0]; rfl
theorem RTakeO.p {T : TypeId} {s rp : Nat} {t : TakeS} {a : Option Addr} (h : t.done = false) (h0 : t.at_ ≠ 0) : RTakeT T s rp t a = exs (rtakePL T s rp t a) := by
 unfold RTakeT
 have : Nat.beq t.at_ 0 = false := by
  cases hb : Nat.beq t.at_ 0 with
  | false => rfl
  | true => exact absurd (Nat.eq_of_beq_eq_true hb) h0
 rw [h, this]; rfl
theorem RTakeO.closeD {b s rp n : Nat} {ch seen : Int} {pp : Value} (t : TakeS) (h : t.done = true) (hc : ch = t.ch) (hs : seen = t.seen) : Ent (rtkB b s n ch seen pp true :: G) (pt (some ⟨b, 0, none⟩) (RTakeO s rp t) :: G) := by
 subst hc; subst hs
 exact Ent.close (f := rtakeDL 186 s t (some ⟨b, 0, none⟩)) (RTakeO.d h) (n, pp)
theorem RTakeO.closeL {b s rp : Nat} {seen : Int} {pp : Value} (t : TakeS) (h : t.done = false) (h0 : t.at_ = 0) (hs : seen = t.seen) : Ent (rtkB b s 0 (-1) seen pp false :: G) (pt (some ⟨b, 0, none⟩) (RTakeO s rp t) :: G) := by
 subst hs
 exact Ent.close (f := rtakeLL 186 s t (some ⟨b, 0, none⟩)) (RTakeO.l h h0) pp
theorem RTakeO.closeP {b s rp p : Nat} {seen : Int} {q : PopS} (t : TakeS) (h : t.done = false) (h0 : t.at_ ≠ 0) (hs : seen = t.seen) (hq : q = t.q) : Ent (rtkB b s 1 (-1) seen (.pointer (some ⟨p, 0, none⟩)) false :: pt (some ⟨p, 0, none⟩) (RPopO rp q) :: G) (pt (some ⟨b, 0, none⟩) (RTakeO s rp t) :: G) := by
 subst hs; subst hq
 exact Ent.close (f := rtakePL 186 s rp t (some ⟨b, 0, none⟩)) (RTakeO.p h h0) p
abbrev rtkV (s : Nat) (at_ : Nat) (ch seen : Int) (pp : Value) (d : Bool) : Option Addr → As := Blk 186 [.pointer (some ⟨s, 0, none⟩), .int .i64 (at_ : Nat), .int .i64 ch, .int .i64 seen, pp, .bool d]
theorem refKept {b s w n : Nat} {S : SupS} {seen : Int} {pp : Value} {F1 : St} (hb : S.xs.length ≤ 100000000) [t1 : Take L (some ⟨b, 0, none⟩) (rtkV s n (-1) seen pp false) F1] [t2 : Take F1 (some ⟨s, 0, none⟩) (RSupO w S) G] :
  Fx Tryz.prog 182 [.pointer (some ⟨b, 0, none⟩)] L
   (fun v L' => v = .tuple #[] ∧ L' = rtkB b s n (if S.xs = [] then -1 else lastI S.xs) seen pp (decide (S.xs ≠ [])) :: pt (some ⟨s, 0, none⟩) (RSupO w S.kept) :: G) := by
 refine Fx.mk Tryz.func182 k182 (Nat.le_of_ble_eq_true rfl) ?_
 dsimp only [c182, envOf, Nat.reduceAdd]
 refine Cx.ent (Ent.trans (Ent.of t1.out) (Ent.cons (Ent.of t2.out))) ?_
 refine Cx.openp (a := some ⟨s, 0, none⟩) rfl ?_
 rintro ⟨st, lm⟩
 simp only [rsupL, List.cons_append, List.nil_append]
 refine go ?_
 refine Sx.ca rfl (refTakeI (b := st) S.xs hb) ?_
 rintro v L' ⟨rfl, rfl⟩
 by_cases hx : S.xs = []
 ·rw [decide_eq_false (fun h => h hx), if_pos hx]
  refine go ?_
  refine Kr.none (.inl rfl) ?_ ⟨rfl, rfl⟩
  refine Ent.trans ?_ Ent.swap
  refine Ent.trans (RSupO.close (a := some ⟨s, 0, none⟩) (st := st) (lm := lm) (w := w) S.kept rfl rfl rfl) (Ent.cons ?_)
  exact ent
 ·rw [decide_eq_true hx, if_neg hx]
  refine go ?_
  refine Kr.none (.inl rfl) ?_ ⟨rfl, rfl⟩
  refine Ent.trans ?_ Ent.swap
  refine Ent.trans (RSupO.close (a := some ⟨s, 0, none⟩) (st := st) (lm := lm) (w := w) S.kept rfl rfl rfl) (Ent.cons ?_)
  exact ent
theorem refTakePop {b s w rm rp rs re n : Nat} {x : Cn} {S : SupS} {ch seen : Int} {pp : Value} {F1 F2 F3 : St} (hb : x.ba ≤ 8) [t1 : Take L (some ⟨b, 0, none⟩) (rtkV s n ch seen pp false) F1] [t2 : Take F1 (some ⟨s, 0, none⟩) (RSupO w S) F2] [t3 : Take F2 (some ⟨w, 0, none⟩) (RWO x rm rp rs re) F3] [t4 : Take F3 (some ⟨rp, 0, none⟩) (RSkO rm x.pool) G] :
  Fx Tryz.prog 183 [.pointer (some ⟨b, 0, none⟩)] L
   (fun v L' => ∃ p, v = .tuple #[] ∧ L' = rtkB b s 1 ch seen (.pointer (some ⟨p, 0, none⟩)) false :: pt (some ⟨p, 0, none⟩) (RPopO rp (PopS.init x.ba)) :: pt (some ⟨s, 0, none⟩) (RSupO w S) :: F2) := by
 refine Fx.mk Tryz.func183 k183 (Nat.le_of_ble_eq_true rfl) ?_
 dsimp only [c183, envOf, Nat.reduceAdd]
 refine Cx.ent (Ent.trans (Ent.of t1.out) (Ent.cons (Ent.trans (Ent.of t2.out) (Ent.cons (Ent.trans (Ent.of t3.out) (Ent.cons (Ent.of t4.out))))))) ?_
 refine Cx.openp (a := some ⟨s, 0, none⟩) rfl ?_
 rintro ⟨st, lm⟩
 simp only [rsupL, List.cons_append, List.nil_append]
 refine Cx.orde rfl (by kernel_rfl) ?_
 refine ge ?_
 refine Ev.caH (by kernel_rfl) rfl rfl (refPopNew (sb := rp) (rm := rm) (k := x.pool) (x.ba : Int)) (Pres.deps (by kernel_rfl)) ?_
 rintro v L' ⟨p, rfl, rfl⟩
 refine ge ?_
 refine Ev.stbH (b := b) (by kernel_rfl) rfl rfl rfl rfl rfl (by rfl) rfl (Pres.deps (by kernel_rfl)) ?_
 refine ge ?_
 refine Ev.stbH (b := b) (by kernel_rfl) rfl rfl rfl rfl rfl (by rfl) rfl (Pres.deps (by kernel_rfl)) ?_
 refine ge ?_
 refine Kr.none (.inl rfl) ?_ ⟨p, rfl, rfl⟩
 refine Ent.trans (Ent.take (a := some ⟨b, 0, none⟩)) (Ent.cons ?_)
 refine Ent.trans (Ent.take (a := some ⟨p, 0, none⟩)) (Ent.cons ?_)
 refine Ent.trans (RSupO.close (a := some ⟨s, 0, none⟩) (st := st) (lm := lm) (w := w) S rfl rfl rfl) (Ent.cons ?_)
 refine Ent.trans ?_ (Ent.of t3.back)
 refine Ent.trans ?_ (Ent.cons (Ent.of t4.back))
 exact ent
end
end Go.Proofs.YtflalhdofhobmaaGreat


namespace Go.Proofs.YtflalhdofhobmaaGreat
open Go
attribute [local irreducible] Sx Cx Rx Fx Krg Ksq Kbl Klp Kr
theorem holds_perm {L M : St} (p : L.Perm M) : ∀ {h : Hp}, holds L h → holds M h := by
 induction p with
 | nil => exact fun H => H
 | cons x _ ih => exact fun H => holds_cons (fun _ => ih) H
 | swap x y l => exact fun H => holds_swap H
 | trans _ _ ih1 ih2 => exact fun H => ih2 (ih1 H)
theorem Ent.perm {L M : St} (p : L.Perm M) : Ent L M := .of fun _ => holds_perm p
def many (n : Nat) (f : Nat → St) : St := (List.range n).flatMap f
def updS (f : Nat → St) (i : Nat) (s : St) : Nat → St := fun j => if j = i then s else f j
theorem Ent.deep {M N G : St} : Ent (N ++ (M ++ G)) (M ++ (N ++ G)) := by
 rw [← List.append_assoc, ← List.append_assoc]; exact .perm (List.perm_append_comm.append_right _)
theorem many_zero (f : Nat → St) : many 0 f = [] := rfl
theorem many_succ (n : Nat) (f : Nat → St) : many (n + 1) f = many n f ++ f n := by simp [many, List.range_succ]
theorem many_congr {n : Nat} {f g : Nat → St} (h : ∀ i, i < n → f i = g i) : many n f = many n g := by
 induction n with
 | zero => rfl
 | succ n ih => rw [many_succ, many_succ, ih fun i hi => h i (by omega), h n (by omega)]
theorem updS_same (f : Nat → St) (i : Nat) (s : St) : updS f i s i = s := if_pos rfl
theorem updS_ne (f : Nat → St) {i j : Nat} (s : St) (h : j ≠ i) : updS f i s j = f j := if_neg h
theorem many_perm {n : Nat} {f : Nat → St} : ∀ {i : Nat}, i < n → (many n f).Perm (f i ++ many n (updS f i [])) := by
 induction n with
 | zero => intro i h; omega
 | succ n ih =>
   intro i h
   rw [many_succ, many_succ]
   by_cases e : i = n
   ·subst e
    rw [updS_same, List.append_nil, many_congr (g := f) fun j hj => updS_ne f [] (by omega)]
    exact List.perm_append_comm
   ·rw [updS_ne f [] (show n ≠ i by omega), ← List.append_assoc]
    exact (ih (by omega)).append_right _
theorem Ent.one {n i : Nat} {f : Nat → St} {G : St} (h : i < n) : Ent (many n f ++ G) (f i ++ (many n (updS f i []) ++ G)) := by
 rw [← List.append_assoc]; exact .perm ((many_perm h).append_right _)
theorem Ent.app {A B X : St} (h : Ent A B) : Ent (X ++ A) (X ++ B) := by
 induction X with
 | nil => exact h
 | cons P X ih => exact Ent.cons ih
theorem Ent.dropA {A B : St} : Ent (A ++ B) B := by
 induction A with
 | nil => exact Ent.refl _
 | cons P X ih => exact Ent.trans Ent.drop ih
class Many (L : St) (n : outParam Nat) (f : outParam (Nat → St)) (N G : outParam St) : Prop where
 eq : L = N ++ (many n f ++ G)
instance (priority := high) Many.here (n : Nat) (f : Nat → St) (G : St) : Many (many n f ++ G) n f [] G := ⟨rfl⟩
instance Many.there (P : As) (L : St) (n : Nat) (f : Nat → St) (N G : St) [t : Many L n f N G] : Many (P :: L) n f (P :: N) G := ⟨by rw [t.eq]; rfl⟩
theorem Ent.ith {L : St} {n : Nat} {f : Nat → St} {N G : St} [t : Many L n f N G] (i : Nat) (h : i < n) : Ent L (f i ++ (N ++ (many n (updS f i []) ++ G))) := by
 rw [t.eq]
 exact Ent.trans Ent.deep (Ent.trans (Ent.one h) (Ent.app Ent.deep))
theorem entm {L M : St} (h : Ent L M := by repeat (first | exact Ent.refl _ | (refine Ent.take1 ?_) | (refine Ent.trans Ent.drop ?_) | (refine Ent.trans Ent.dropA ?_))) : Ent L M := h
def ptrs (n : Nat) (U : Nat → Nat) : List Value := (List.range n).map fun i => .pointer (some ⟨U i, 0, none⟩)
theorem ptrs_succ (n : Nat) (U : Nat → Nat) : ptrs (n + 1) U = ptrs n U ++ [.pointer (some ⟨U n, 0, none⟩)] := by simp [ptrs, List.range_succ]
theorem ptrs_get {n i : Nat} {U : Nat → Nat} (h : i < n) : (ptrs n U)[i]? = some (.pointer (some ⟨U i, 0, none⟩)) := by simp [ptrs, h]
theorem ptrs_congr {n : Nat} {U V : Nat → Nat} (h : ∀ i, i < n → U i = V i) : ptrs n U = ptrs n V := by
 unfold ptrs
 refine List.map_congr_left fun i hi => ?_
 rw [h i (List.mem_range.1 hi)]
structure Who where
 u : Nat
 pb : Nat
 s : Nat
section
variable {L F G : St}
def whoL (mp w : Nat) (x : Cn) (q : Who) (S S2 : SupS) : St :=
 [pt (some ⟨q.u, 0, none⟩) (SupO mp q.pb x S), pt (some ⟨q.pb, 0, none⟩) (SkO mp x.pool), pt (some ⟨q.s, 0, none⟩) (RSupO w S2)]
end
end Go.Proofs.YtflalhdofhobmaaGreat


namespace Go.Proofs.YtflalhdofhobmaaGreat
structure Rt where
 gen : Nat
 mrk : Nat
 cl : Nat
 off : Nat
def rtOf (w : Nat) : Rt := ⟨w / 4294967296, w / 65536 % 65536, w / 4096 % 16, w % 4096⟩
def Rt.w (r : Rt) : Nat := r.gen * 4294967296 + r.mrk * 65536 + r.cl * 4096 + r.off
structure Rt.ok (r : Rt) : Prop where
 g : r.gen < 4294967296
 m : r.mrk ≤ 4097
 c : r.cl ≤ 3
 o : r.off ≤ 1024
theorem rtOf_w {r : Rt} (h : r.ok) : rtOf r.w = r := by
 obtain ⟨g, m, c, o⟩ := r
 obtain ⟨h1, h2, h3, h4⟩ := h
 dsimp only at h1 h2 h3 h4
 unfold rtOf Rt.w
 dsimp only
 rw [show (g * 4294967296 + m * 65536 + c * 4096 + o) / 4294967296 = g by omega, show (g * 4294967296 + m * 65536 + c * 4096 + o) / 65536 % 65536 = m by omega,
  show (g * 4294967296 + m * 65536 + c * 4096 + o) / 4096 % 16 = c by omega, show (g * 4294967296 + m * 65536 + c * 4096 + o) % 4096 = o by omega]
theorem Rt.w_lt {r : Rt} (h : r.ok) : r.w < 18446744073709551616 := by
 obtain ⟨h1, h2, h3, h4⟩ := h
 unfold Rt.w; omega
theorem rtOf_gen {w : Nat} (h : w < 18446744073709551616) : (rtOf w).gen < 4294967296 := by show w / 4294967296 < _; omega
theorem rtOf_mrk (w : Nat) : (rtOf w).mrk < 65536 := by show w / 65536 % 65536 < _; omega
theorem rtOf_cl (w : Nat) : (rtOf w).cl < 16 := by show w / 4096 % 16 < _; omega
theorem rtOf_off (w : Nat) : (rtOf w).off < 4096 := by show w % 4096 < _; omega
theorem rt_zero_ok : (rtOf 0).ok := ⟨by decide, by decide, by decide, by decide⟩
def Rt.live (r : Rt) (gen : Int) : Prop := 1 ≤ r.mrk ∧ (r.gen : Int) = gen
instance (r : Rt) (gen : Int) : Decidable (r.live gen) := by unfold Rt.live; infer_instance
def Rt.chunk (r : Rt) : Int := if r.mrk < 2 then -1 else (r.mrk : Int) - 2
def roundS (cl n : Nat) : Nat := (n + 2 ^ cl - 1) / 2 ^ cl * 2 ^ cl
def fitsS (wd off need : Nat) : Prop := 2 * need ≤ wd ∧ off + need ≤ wd
instance (wd off need : Nat) : Decidable (fitsS wd off need) := by unfold fitsS; infer_instance
def afterS (wd need : Nat) : Nat := if wd < 2 * need then wd else need
theorem roundS_cases {cl n : Nat} (h : cl ≤ 3) : (cl = 0 ∧ roundS cl n = n) ∨ (cl = 1 ∧ roundS cl n = (n + 1) / 2 * 2) ∨ (cl = 2 ∧ roundS cl n = (n + 3) / 4 * 4) ∨ (cl = 3 ∧ roundS cl n = (n + 7) / 8 * 8) := by
 rcases (show cl = 0 ∨ cl = 1 ∨ cl = 2 ∨ cl = 3 by omega) with rfl | rfl | rfl | rfl
 ·exact .inl ⟨rfl, by unfold roundS; omega⟩
 ·exact .inr (.inl ⟨rfl, by unfold roundS; omega⟩)
 ·exact .inr (.inr (.inl ⟨rfl, by unfold roundS; omega⟩))
 ·exact .inr (.inr (.inr ⟨rfl, by unfold roundS; omega⟩))
theorem roundS_le {cl n wd : Nat} (h : cl ≤ 3) (hn : n ≤ wd) (hw : wd % 8 = 0) : roundS cl n ≤ wd := by
 rcases roundS_cases (n := n) h with h | h | h | h <;> omega
theorem roundS_ge {cl n : Nat} (h : cl ≤ 3) : n ≤ roundS cl n := by
 rcases roundS_cases (n := n) h with h | h | h | h <;> omega
theorem roundS_lt {cl n : Nat} (h : cl ≤ 3) : roundS cl n < n + 8 := by
 rcases roundS_cases (n := n) h with h | h | h | h <;> omega
theorem afterS_le {wd need : Nat} (h : need ≤ wd) : afterS wd need ≤ wd := by unfold afterS; split <;> omega
structure CreS where
 at_ : Nat
 cnt : Nat
 slot : Int
 point : Nat
 was : Nat
 code : Nat
 q : PopS
 done : Bool
def CreS.init : CreS := ⟨0, 0, -1, 0, 0, 0, PopS.init 1, false⟩
def nextRt (cl w : Nat) : Rt := ⟨laterT (rtOf w).gen, 1, cl, 0⟩
theorem nextRt_ok {cl w : Nat} (h : w < 18446744073709551616) (hc : cl ≤ 3) : (nextRt cl w).ok := ⟨laterT_lt (rtOf_gen h), by show 1 ≤ 4097; omega, hc, by show 0 ≤ 1024; omega⟩
def crPopped (c : CreS) : CreS :=
 match c.q.got with
 | [] => { c with point := c.cnt, code := 7, done := true }
 | s :: _ => { c with point := c.cnt, slot := s, at_ := 1 }
def crStep (k : Sk) (ro cl : Nat) (m : Mm) (c : CreS) : CreS × Mm :=
 if c.done then (c, m) else
 match c.at_ with
 | 0 => if (popStep k m c.q).1.done then (crPopped { c with cnt := c.cnt + 1, q := (popStep k m c.q).1 }, (popStep k m c.q).2) else ({ c with cnt := c.cnt + 1, q := (popStep k m c.q).1 }, (popStep k m c.q).2)
 | 1 => ({ c with cnt := c.cnt + 1, was := m.at_ (ro + c.slot.toNat), at_ := 2 }, m.tick)
 | _ => ({ c with cnt := c.cnt + 1, done := true }, m.put (ro + c.slot.toNat) (nextRt cl c.was).w)
structure CreS.ok (k : Sk) (c : CreS) : Prop where
 a : c.at_ ≤ 2
 q : c.q.ok k
 w : c.was < 18446744073709551616
 s : c.at_ ≠ 0 → 0 ≤ c.slot ∧ c.slot < k.n
 n : c.cnt ≤ 1000000
def crIt (k : Sk) (ro cl : Nat) : Nat → CreS × Mm → CreS × Mm
 | 0, r => r
 | j + 1, r => crStep k ro cl (crIt k ro cl j r).2 (crIt k ro cl j r).1
structure EndS where
 at_ : Nat
 cnt : Nat
 was : Nat
 code : Nat
 chunk : Int
 point : Nat
 done : Bool
def EndS.init : EndS := ⟨0, 0, 0, 0, -1, 0, false⟩
def endStep (a : Nat) (gen : Int) (m : Mm) (e : EndS) : EndS × Mm :=
 if e.done then (e, m) else
 match e.at_ with
 | 0 => (if (rtOf (m.at_ a)).live gen then { e with cnt := e.cnt + 1, was := m.at_ a, at_ := 1 } else { e with cnt := e.cnt + 1, was := m.at_ a, code := 3, point := e.cnt + 1, done := true }, m.tick)
 | _ => (if m.at_ a = e.was then { e with cnt := e.cnt + 1, chunk := (rtOf e.was).chunk, point := e.cnt + 1, done := true } else { e with cnt := e.cnt + 1, at_ := 0 }, m.cas a e.was (Rt.w ⟨(rtOf e.was).gen, 0, 0, 0⟩))
structure Hd where
 slot : Int
 gen : Int
 chunk : Int
 off : Int
 len : Int
def Hd.zero : Hd := ⟨0, 0, 0, 0, 0⟩
structure AlV where
 cnt : Nat
 hand : Int
 zat : Nat
 asked : Bool
 ends : Bool
 need : Nat
 point : Nat
 was : Nat
 code : Nat
 obj : Hd
structure AlS where
 at_ : Nat
 v : AlV
 t : TakeS
 g : PushS
 done : Bool
def AlV.init : AlV := ⟨0, -1, 0, false, false, 0, 0, 0, 0, Hd.zero⟩
end Go.Proofs.YtflalhdofhobmaaGreat


namespace Go.Proofs.YtflalhdofhobmaaGreat
open Go
attribute [local irreducible] Sx Cx Rx Fx Krg Ksq Kbl Klp Kr
section
variable {L F G : St}
abbrev rtL (r : Rt) : List Value := [.int .i64 (r.gen : Nat), .int .i64 (r.mrk : Nat), .int .i64 (r.cl : Nat), .int .i64 (r.off : Nat)]
abbrev rtV (r : Rt) : Value := .agg #[.int .i64 (r.gen : Nat), .int .i64 (r.mrk : Nat), .int .i64 (r.cl : Nat), .int .i64 (r.off : Nat)]
theorem getRoot (w : Nat) (hw : w < 18446744073709551616) : Fx Tryz.prog 93 [wd w] L (fun v L' => v = rtV (rtOf w) ∧ L = L') := by
 refine Fx.mk Tryz.func93 k93 (Nat.le_of_ble_eq_true rfl) ?_
 dsimp only [c93, envOf, Nat.reduceAdd]
 refine Cx.sq ?_
 refine Cx.rg ?_
 refine Sx.al fun g => ?_
 refine go ?_
 refine Sx.ca rfl (bitsGet w 32 32 hw (by omega) (by omega)) ?_
 rintro v L' ⟨rfl, rfl⟩
 refine go ?_
 refine Sx.ca rfl (bitsGet w 16 16 hw (by omega) (by omega)) ?_
 rintro v L' ⟨rfl, rfl⟩
 refine go ?_
 refine Sx.ca rfl (bitsGet w 12 4 hw (by omega) (by omega)) ?_
 rintro v L' ⟨rfl, rfl⟩
 refine go ?_
 refine Sx.ca rfl (bitsGet w 0 12 hw (by omega) (by omega)) ?_
 rintro v L' ⟨rfl, rfl⟩
 refine go ?_
 have e1 : w / 2 ^ 32 % 2 ^ 32 = (rtOf w).gen := by show _ = w / 4294967296; omega
 have e2 : w / 2 ^ 16 % 2 ^ 16 = (rtOf w).mrk := rfl
 have e3 : w / 2 ^ 12 % 2 ^ 4 = (rtOf w).cl := rfl
 have e4 : w / 2 ^ 0 % 2 ^ 12 = (rtOf w).off := by show _ = w % 4096; omega
 have h1 := rtOf_gen hw
 have h2 := rtOf_mrk w
 have h3 := rtOf_cl w
 have h4 := rtOf_off w
 rw [e1, e2, e3, e4, w64 (n := ((rtOf w).gen : Int)) (by omega) (by omega), w64 (n := ((rtOf w).mrk : Int)) (by omega) (by omega), w64 (n := ((rtOf w).cl : Int)) (by omega) (by omega), w64 (n := ((rtOf w).off : Int)) (by omega) (by omega)]
 refine Sx.st (b := g) rfl rfl rfl rfl rfl rfl ?_
 dsimp only [lay]
 refine go ?_
 exact Kr_cell (b := g) (.inr rfl) rfl rfl (L' := L) Ent.drop ⟨rfl, rfl⟩
set_option maxHeartbeats 1000000 in
theorem putRoot (r : Rt) (h : r.ok) : Fx Tryz.prog 227 [rtV r] L (fun v L' => v = .tuple #[wd r.w, .bool true] ∧ L = L') := by
 obtain ⟨h1, h2, h3, h4⟩ := h
 refine Fx.mk Tryz.func227 k227 (Nat.le_of_ble_eq_true rfl) ?_
 dsimp only [c227, envOf, Nat.reduceAdd]
 refine Cx.sq ?_
 refine Cx.rg ?_
 refine Sx.bx rfl rfl fun g => ?_
 refine go ?_
 iterate 4
  refine Sx.ca rfl (wordWithin _ _ _ (by omega) (by omega)) ?_
  rintro v L' ⟨rfl, rfl⟩
  refine go ?_
 rw [wrap64 (n := r.off) (by omega)]
 refine Sx.ca rfl (bitsPut 0 0 12 r.off (by omega) (by omega) (by omega) (by omega)) ?_
 rintro v L' ⟨rfl, rfl⟩
 refine go ?_
 rw [wrap64 (n := r.cl) (by omega)]
 refine Sx.ca rfl (bitsPut (r.off * 2 ^ 0 + 0) 12 4 r.cl (by omega) (by omega) (by omega) (by omega)) ?_
 rintro v L' ⟨rfl, rfl⟩
 refine go ?_
 rw [wrap64 (n := r.mrk) (by omega)]
 refine Sx.ca rfl (bitsPut (r.cl * 2 ^ 12 + (r.off * 2 ^ 0 + 0)) 16 16 r.mrk (by omega) (by omega) (by omega) (by omega)) ?_
 rintro v L' ⟨rfl, rfl⟩
 refine go ?_
 rw [wrap64 (n := r.gen) (by omega)]
 refine Sx.ca rfl (bitsPut (r.mrk * 2 ^ 16 + (r.cl * 2 ^ 12 + (r.off * 2 ^ 0 + 0))) 32 32 r.gen (by omega) (by omega) (by omega) (by omega)) ?_
 rintro v L' ⟨rfl, rfl⟩
 refine go ?_
 refine Kr.two (.inr rfl) rfl rfl Ent.drop ⟨?_, rfl⟩
 rw [show r.gen * 2 ^ 32 + (r.mrk * 2 ^ 16 + (r.cl * 2 ^ 12 + (r.off * 2 ^ 0 + 0))) = r.w by unfold Rt.w; omega]
theorem wordLive (r : Rt) (gen : Int) : Fx Tryz.prog 152 [rtV r, .int .i64 gen] L (fun v L' => v = .bool (decide (r.live gen)) ∧ L = L') := by
 refine Fx.mk Tryz.func152 k152 (Nat.le_of_ble_eq_true rfl) ?_
 dsimp only [c152, envOf, Nat.reduceAdd]
 refine Cx.sq ?_
 refine Cx.rg ?_
 refine Sx.bx rfl rfl fun g => ?_
 refine go ?_
 refine Sx.ifp rfl (fun h => ?_) (fun h => ?_)
 ·refine go ?_
  refine Kr.one (.inr rfl) rfl Ent.drop ⟨congrArg Value.bool (decide_eq_decide.2 ?_), rfl⟩
  unfold Rt.live
  omega
 ·refine go ?_
  refine Kr.one (.inr rfl) rfl Ent.drop ⟨congrArg Value.bool (decide_eq_false (fun hh => h ?_)).symm, rfl⟩
  have := hh.1
  omega
theorem wordChunk (r : Rt) (h : r.mrk < 65536) : Fx Tryz.prog 213 [rtV r] L (fun v L' => v = .int .i64 r.chunk ∧ L = L') := by
 refine Fx.mk Tryz.func213 k213 (Nat.le_of_ble_eq_true rfl) ?_
 dsimp only [c213, envOf, Nat.reduceAdd]
 refine Cx.sq ?_
 refine Cx.rg ?_
 refine Sx.bx rfl rfl fun g => ?_
 refine go ?_
 refine Cx.ifp rfl (fun h => ?_) (fun h => ?_)
 ·refine go ?_
  refine Kr.one (.inr rfl) rfl Ent.drop ⟨congrArg (Value.int .i64) ?_, rfl⟩
  unfold Rt.chunk
  rw [if_pos (by omega)]
 ·refine go ?_
  rw [w64 (n := (r.mrk : Int) - 2) (by omega) (by omega)]
  refine Kr.one (.inr rfl) rfl Ent.drop ⟨congrArg (Value.int .i64) ?_, rfl⟩
  unfold Rt.chunk
  rw [if_neg (by omega)]
theorem sizeRound (cl n : Nat) (hc : cl ≤ 3) (hn : 1 ≤ n) (hn2 : n ≤ 1024) : Fx Tryz.prog 154 [.int .i64 cl, .int .i64 n] L (fun v L' => v = .int .i64 (roundS cl n : Nat) ∧ L = L') := by
 refine Fx.mk Tryz.func154 k154 (Nat.le_of_ble_eq_true rfl) ?_
 dsimp only [c154, envOf, Nat.reduceAdd]
 have hr := roundS_cases (n := n) hc
 refine go ?_
 refine Sx.gyes rfl (decide_eq_false (by omega)) ?_
 refine go ?_
 refine Cx.cno rfl (decide_eq_false (by omega)) ?_
 refine go ?_
 have e1 : (bif true then (if (cl : Int) < 0 then (0 : Int) else (cl : Int)) else (if (0 : Int) < (cl : Int) then (0 : Int) else (cl : Int))) = cl := by
  rw [cond_true, if_neg (by omega)]
 have e2 : (bif false then (if (cl : Int) < 3 then (3 : Int) else (cl : Int)) else (if (3 : Int) < (cl : Int) then (3 : Int) else (cl : Int))) = cl := by
  rw [cond_false, if_neg (by omega)]
 rw [e1, e2]
 refine Sx.pv rfl (by omega) ?_
 have hp : 1 ≤ 2 ^ cl ∧ 2 ^ cl ≤ 8 := by rcases (show cl = 0 ∨ cl = 1 ∨ cl = 2 ∨ cl = 3 by omega) with rfl | rfl | rfl | rfl <;> decide
 have e3 : min (cl : Int).toNat IntKind.i64.bits = cl := by rw [Int.toNat_natCast]; exact Nat.min_eq_left (by show cl ≤ 64; omega)
 obtain ⟨P, hP⟩ : ∃ P, P = 2 ^ cl := ⟨_, rfl⟩
 rw [← hP] at hp
 rw [e3, show (1 : Int) * 2 ^ cl = ((2 ^ cl : Nat) : Int) by push_cast; omega, ← hP, w64 (n := (P : Int)) (by omega) (by omega)]
 refine go ?_
 rw [w64 (n := (n : Int) + P) (by omega) (by omega), w64 (n := (n : Int) + P - 1) (by omega) (by omega)]
 refine Sx.pv rfl (by omega) ?_
 have e4 : Int.tdiv ((n : Int) + P - 1) P = (((n + P - 1) / P : Nat) : Int) := by
  rw [show (n : Int) + P - 1 = ((n + P - 1 : Nat) : Int) by omega]; rfl
 have e5 : (n + P - 1) / P * P ≤ n + P - 1 := Nat.div_mul_le_self _ _
 have e6 : (n + P - 1) / P ≤ n + P - 1 := Nat.div_le_self _ _
 have e7 : roundS cl n = (n + P - 1) / P * P := by unfold roundS; rw [hP]
 have e8 : (((n + P - 1) / P : Nat) : Int) * (P : Int) = (((n + P - 1) / P * P : Nat) : Int) := by push_cast; rfl
 obtain ⟨D, hD⟩ : ∃ D, (n + P - 1) / P = D := ⟨_, rfl⟩
 rw [hD] at e4 e5 e6 e7 e8
 obtain ⟨E, hE⟩ : ∃ E, D * P = E := ⟨_, rfl⟩
 rw [hE] at e5 e7 e8
 rw [e4, w64 (n := (D : Int)) (by omega) (by omega)]
 refine go ?_
 rw [e8, w64 (n := (E : Int)) (by omega) (by omega), ← e7]
 exact Kr.one (.inr rfl) rfl (Ent.refl _) ⟨rfl, rfl⟩
theorem sizeRight (wd need : Nat) (hw : 1 ≤ wd) (hw2 : wd ≤ 1024) (hn : 1 ≤ need) (hn2 : need ≤ wd) : Fx Tryz.prog 210 [.int .i64 wd, .int .i64 need] L (fun v L' => v = .bool true ∧ L = L') := by
 refine Fx.mk Tryz.func210 k210 (Nat.le_of_ble_eq_true rfl) ?_
 dsimp only [c210, envOf, Nat.reduceAdd]
 refine go ?_
 iterate 3 (refine Sx.gyes rfl (decide_eq_true (by omega)) ?_; refine go ?_)
 refine Kr.one (.inr rfl) rfl (Ent.refl _) ⟨congrArg Value.bool (decide_eq_true (by omega)), rfl⟩
theorem sizeAlone (wd need : Nat) (hw : 1 ≤ wd) (hw2 : wd ≤ 1024) (hn : 1 ≤ need) (hn2 : need ≤ wd) : Fx Tryz.prog 211 [.int .i64 wd, .int .i64 need] L (fun v L' => v = .bool (decide (wd < 2 * need)) ∧ L = L') := by
 refine Fx.mk Tryz.func211 k211 (Nat.le_of_ble_eq_true rfl) ?_
 dsimp only [c211, envOf, Nat.reduceAdd]
 refine go ?_
 refine Sx.ca rfl (sizeRight wd need hw hw2 hn hn2) ?_
 rintro v L' ⟨rfl, rfl⟩
 refine go ?_
 rw [w64 (n := 2 * (need : Int)) (by omega) (by omega)]
 refine Kr.one (.inr rfl) rfl (Ent.refl _) ⟨congrArg Value.bool (decide_eq_decide.2 (by omega)), rfl⟩
theorem sizeFits (wd off need : Nat) (hw : 1 ≤ wd) (hw2 : wd ≤ 1024) (hn : 1 ≤ need) (hn2 : need ≤ wd) : Fx Tryz.prog 155 [.int .i64 wd, .int .i64 off, .int .i64 need] L (fun v L' => v = .bool (decide (fitsS wd off need)) ∧ L = L') := by
 refine Fx.mk Tryz.func155 k155 (Nat.le_of_ble_eq_true rfl) ?_
 dsimp only [c155, envOf, Nat.reduceAdd]
 refine go ?_
 refine Sx.ca rfl (sizeRight wd need hw hw2 hn hn2) ?_
 rintro v L' ⟨rfl, rfl⟩
 refine go ?_
 refine Sx.ca rfl (sizeAlone wd need hw hw2 hn hn2) ?_
 rintro v L' ⟨rfl, rfl⟩
 by_cases h : wd < 2 * need
 ·rw [decide_eq_true h]
  refine go ?_
  refine Kr.one (.inr rfl) rfl (Ent.refl _) ⟨congrArg Value.bool (decide_eq_false (fun hh => ?_)).symm, rfl⟩
  have := hh.1; omega
 ·rw [decide_eq_false h]
  refine go ?_
  rw [w64 (n := (wd : Int) - need) (by omega) (by omega)]
  refine Kr.one (.inr rfl) rfl (Ent.refl _) ⟨congrArg Value.bool (decide_eq_decide.2 ?_), rfl⟩
  unfold fitsS; omega
theorem sizeAfter (wd need : Nat) (hw : 1 ≤ wd) (hw2 : wd ≤ 1024) (hn : 1 ≤ need) (hn2 : need ≤ wd) : Fx Tryz.prog 247 [.int .i64 wd, .int .i64 need] L (fun v L' => v = .int .i64 (afterS wd need : Nat) ∧ L = L') := by
 refine Fx.mk Tryz.func247 k247 (Nat.le_of_ble_eq_true rfl) ?_
 dsimp only [c247, envOf, Nat.reduceAdd]
 refine go ?_
 refine Sx.ca rfl (sizeRight wd need hw hw2 hn hn2) ?_
 rintro v L' ⟨rfl, rfl⟩
 refine go ?_
 refine Sx.ca rfl (sizeAlone wd need hw hw2 hn hn2) ?_
 rintro v L' ⟨rfl, rfl⟩
 by_cases h : wd < 2 * need
 ·rw [decide_eq_true h]
  refine go ?_
  refine Kr.one (.inr rfl) rfl (Ent.refl _) ⟨by unfold afterS; rw [if_pos h], rfl⟩
 ·rw [decide_eq_false h]
  refine go ?_
  refine Kr.one (.inr rfl) rfl (Ent.refl _) ⟨by unfold afterS; rw [if_neg h], rfl⟩
def Cn.root (x : Cn) : Nat := 3 + x.w
def Cn.word (x : Cn) : Nat := 3 + x.w + x.sl + x.sl + x.c
theorem layRootN {x : Cn} (h : x.ok) (n : Nat) (hn : n < x.sl) : Fx Tryz.prog 94 [x.v, .int .i64 n] L (fun v L' => v = .int .i64 ((x.root + n : Nat) : Int) ∧ L = L') := by
 refine (layRoot _ _ _ _ _ _ h (n : Int)).mono ?_
 rintro v L' ⟨rfl, rfl⟩
 refine ⟨congrArg (Value.int .i64) ?_, rfl⟩
 unfold cellC
 rw [if_pos ⟨by omega, by simp only [manyC]; omega⟩]
 simp only [startC, Cn.root]
 push_cast; rfl
theorem laySlotN {x : Cn} (h : x.ok) (n : Nat) (hn : n < x.sl) : Fx Tryz.prog 140 [x.v, .int .i64 n] L (fun v L' => v = .int .i64 ((x.slot + n : Nat) : Int) ∧ L = L') := by
 refine (laySlot _ _ _ _ _ _ h (n : Int)).mono ?_
 rintro v L' ⟨rfl, rfl⟩
 refine ⟨congrArg (Value.int .i64) ?_, rfl⟩
 unfold cellC
 rw [if_pos ⟨by omega, by simp only [manyC]; omega⟩]
 simp only [startC, Cn.slot]
 push_cast; rfl
theorem layWordN {x : Cn} (h : x.ok) (k j : Nat) (hk : k < x.c) (hj : j < x.wd) : Fx Tryz.prog 24 [x.v, .int .i64 k, .int .i64 j] L (fun v L' => v = .int .i64 ((x.word + k * x.wd + j : Nat) : Int) ∧ L = L') := by
 have hmay : MayC (x.w : Int) x.c x.wd x.sl x.ca x.ba := h
 have hm := MayC.mul hmay
 have hlt : k * x.wd + j < x.c * x.wd := by
  have h1 : (k + 1) * x.wd ≤ x.c * x.wd := Nat.mul_le_mul_right _ hk
  rw [Nat.succ_mul] at h1
  omega
 have hcast : ((x.c * x.wd : Nat) : Int) = (x.c : Int) * x.wd := by push_cast; rfl
 have hcast2 : ((k * x.wd : Nat) : Int) = (k : Int) * x.wd := by push_cast; rfl
 refine Fx.mk Tryz.func24 k24 (Nat.le_of_ble_eq_true rfl) ?_
 dsimp only [c24, envOf, Nat.reduceAdd]
 refine Cx.sq ?_
 refine Cx.rg ?_
 refine Sx.bx rfl rfl fun g => ?_
 refine go ?_
 obtain ⟨b1, b2, b3, b4, b5, b6, b7⟩ := hmay
 rw [w64 (n := (x.c : Int) - 1) (by omega) (by omega)]
 refine Sx.ca rfl (within_ (k : Int) 0 ((x.c : Int) - 1)) ?_
 rintro v L' ⟨rfl, rfl⟩
 rw [decide_eq_true (show (0 : Int) ≤ k ∧ (k : Int) ≤ (x.c : Int) - 1 by omega)]
 refine go ?_
 rw [w64 (n := (x.wd : Int) - 1) (by omega) (by omega)]
 refine Sx.ca rfl (within_ (j : Int) 0 ((x.wd : Int) - 1)) ?_
 rintro v L' ⟨rfl, rfl⟩
 rw [decide_eq_true (show (0 : Int) ≤ j ∧ (j : Int) ≤ (x.wd : Int) - 1 by omega)]
 refine go ?_
 refine Sx.ca rfl (may_ (x.w : Int) x.c x.wd x.sl x.ca x.ba) ?_
 rintro v L' ⟨rfl, rfl⟩
 rw [decide_eq_true (show MayC (x.w : Int) x.c x.wd x.sl x.ca x.ba from h)]
 refine go ?_
 rw [w64 (n := (k : Int) * x.wd) (by omega) (by omega), w64 (n := (k : Int) * x.wd + j) (by omega) (by omega)]
 refine Sx.ca rfl (layCell _ _ _ _ _ _ h 4 (by omega) ((k : Int) * x.wd + j) _ (by omega)) ?_
 rintro v L' ⟨rfl, rfl⟩
 refine go ?_
 refine Kr.one (.inr rfl) rfl Ent.drop ⟨congrArg (Value.int .i64) ?_, rfl⟩
 unfold cellC
 rw [if_pos ⟨by omega, by simp only [manyC]; omega⟩]
 simp only [startC, Cn.word]
 push_cast; omega
end
end Go.Proofs.YtflalhdofhobmaaGreat


namespace Go.Proofs.YtflalhdofhobmaaGreat
open Go
section
variable {P : Program} {N : Nat} {e : En} {L F : St}
theorem cRs_tc {rs : List ResultVar} {t u n : Nat} {g : Bool} (h : cRs P rs = some [.t t, .c u n g]) : ∃ ty, rs = [.tmp t, .cell u ty] ∧ szT P ty = some n ∧ isAggT P ty = some g := by
 match rs with
 | [] => simp [cRs] at h
 | r :: l =>
   simp only [cRs] at h
   split at h
   ·rename_i r' hr
    split at h
    ·rename_i l' hl
     simp only [Option.some.injEq, List.cons.injEq] at h
     obtain ⟨rfl, rfl⟩ := h
     obtain ⟨ty, rfl, h1, h2⟩ := cRs_cell hl
     cases r with
     | tmp t' => simp [cR] at hr; exact ⟨ty, by rw [hr], h1, h2⟩
     | cell a t' => simp only [cR] at hr; split at hr <;> cases hr
    ·cases h
   ·cases h
theorem Rv_tc {t u n b off : Nat} {x : Value} {vs : List Value} (hx : e.get t = some x) (h : e.get u = some (.pointer (some ⟨b, off, none⟩))) (hh : Has L b off vs) (hn : Nat.beq vs.length n = true) : Rv P N [.t t, .c u n true] e L (.tuple #[x, .agg vs.toArray]) := by
 intro fn a w0 w hr ok s
 obtain ⟨ty, hres, hs, hg⟩ := cRs_tc hr
 have hr2 : fn.results = #[.tmp t, .cell u ty] := by apply Array.ext'; simpa using hres
 have ht := ok.get _ _ h
 have ht2 := ok.get _ _ hx
 have hc := hh w0 w s
 have hn := Nat.eq_of_beq_eq_true hn
 have hl := run_loadCells_list (P := P) w ⟨b, off, none⟩ vs (fun j v hj => by rw [partPlace]; exact hc j v hj)
 rw [hn] at hl
 simp [results, hr2, ht, ht2, loadVar, isAggT_eq hg, szT_eq hs, hl, asAddr]
theorem Kr_tc {R : Value → St → Prop} {t u n b : Nat} {v : Value} {T : TypeId} {cs : List Value} {x : Ex} [i : Take L (some ⟨b, 0, none⟩) (Blk T cs) F] (hx : x = .nm ∨ x = .rt) (hv : e.get t = some v) (h : e.get u = some (.pointer (some ⟨b, 0, none⟩))) (hn : Nat.beq cs.length n = true)
  {L' : St} (hL : Ent L L') (hR : R (.tuple #[v, .agg cs.toArray]) L') : Kr P N [.t t, .c u n true] R x e L := by
 have hn' := Nat.eq_of_beq_eq_true hn
 have e1 : (cs.drop 0).take n = cs := by simp [← hn']
 have hb : Has L b 0 cs := by
  have := Has.blk (T := T) (cs := cs) (n := n) (off := 0) (L := L) (b := b)
  rw [e1] at this; exact this
 exact ⟨hx, _, L', Rv_tc hv h hb hn, hL, hR⟩
end
section
variable {P : Program} {N : Nat} {Kf : En → St → Prop} {r : List It} {ms : List (Nat × (St → Prop))} {e : En} {L F : St} {i ds : Nat} {rs : List Nat} {d : Option Nat} {g : Option (Nat × Bool)}
theorem Ev.stnH {x v : X} {b off n : Nat} {T : TypeId} {cs vs : List Value} (ds' : List Value) {u : Value} [t : Take L (some ⟨b, 0, none⟩) (Blk T cs) F] (hd : lastly i r = true) (hg : gon (e.only rs) g = true)
  (hx : x.get (e.only rs) = some (.pointer (some ⟨b, off, none⟩))) (hv : v.get (e.only rs) = some u) (hu : cellsOf u = some vs) (hn : vs.length = n) (h1 : ones vs = true) (hl : Nat.ble (off + n) cs.length = true) (hds : lay cs off vs = ds')
  (hp : Pres ds (fun v L' => v = undef ∧ L' = pt (some ⟨b, 0, none⟩) (Blk T ds') :: F) ms)
  (k : Ev P N Kf r ms (e.put d undef) (pt (some ⟨b, 0, none⟩) (Blk T ds') :: F)) : Ev P N Kf (⟨i, ds, rs, ⟨d, g, .st x v n⟩⟩ :: r) ms e L := by
 subst hds
 exact .genH hd hp hg (fun e' hs K kk => Sx.st (t := t) (X.get_sub hx hs) (X.get_sub hv hs) hu hn h1 hl (Sx.nil (kk _ _ ⟨rfl, rfl⟩)))
  (fun v L' ⟨e1, e2⟩ => by subst e1; subst e2; exact k)
end
end Go.Proofs.YtflalhdofhobmaaGreat


namespace Go.Proofs.YtflalhdofhobmaaGreat
open Go
attribute [local irreducible] Sx Cx Rx Fx Krg Ksq Kbl Klp Kr
section
variable {L F G : St}
theorem machCount {b : Nat} {T : TypeId} {nx z1 z2 z3 : Value} {cnt : Int} {rest : List Value} [t : Take L (some ⟨b, 0, none⟩) (Blk T (nx :: z1 :: z2 :: z3 :: .int .i64 cnt :: rest)) F] : Fx Tryz.prog 175 [.pointer (some ⟨b, 0, none⟩)] L (fun v L' => v = .int .i64 cnt ∧ L = L') := by
 refine Fx.mk Tryz.func175 k175 (Nat.le_of_ble_eq_true rfl) ?_
 dsimp only [c175, envOf, Nat.reduceAdd]
 refine go ?_
 exact Kr.one (.inr rfl) rfl (Ent.refl _) ⟨rfl, rfl⟩
abbrev RoO (mp sb : Nat) (x : Cn) : Option Addr → As := Blk 167 (.pointer (some ⟨mp, 0, none⟩) :: x.l ++ [.pointer (some ⟨sb, 0, none⟩)])
set_option maxHeartbeats 1000000 in
theorem rootsNew {mp : Nat} {m : Mm} {x : Cn} (hx : x.ok) (hl : x.len ≤ m.ws.length) [t : Take L (some ⟨mp, 0, none⟩) (MemO m) F] :
  Fx Tryz.prog 70 [.pointer (some ⟨mp, 0, none⟩), x.v] L (fun v L' => ∃ g sb, v = .tuple #[.pointer (some ⟨g, 0, none⟩), .int .i64 0] ∧ L' = pt (some ⟨g, 0, none⟩) (RoO mp sb x) :: pt (some ⟨sb, 0, none⟩) (SkO mp x.spare) :: L) := by
 refine Fx.mk Tryz.func70 k70 (Nat.le_of_ble_eq_true rfl) ?_
 dsimp only [c70, envOf, Nat.reduceAdd]
 refine Cx.pure (memKey (b := mp) (m := m)) fun hm => ?_
 refine Cx.sq ?_
 refine Cx.rg ?_
 refine Sx.bx rfl rfl fun g => ?_
 refine go ?_
 refine Cx.ordc rfl (by kernel_rfl) ?_
 refine ge ?_
 refine Ev.cakH (by kernel_rfl) rfl rfl (may_ (x.w : Int) x.c x.wd x.sl x.ca x.ba) ?_
 rw [decide_eq_true (show MayC (x.w : Int) x.c x.wd x.sl x.ca x.ba from hx)]
 refine ge ?_
 refine Ev.cakH (by kernel_rfl) rfl rfl (cellsLen (b := mp) (m := m)) ?_
 refine ge ?_
 refine Ev.cakH (by kernel_rfl) rfl rfl (layLen (x.w : Int) x.c x.wd x.sl x.ca x.ba hx) ?_
 rw [x.lenC]
 refine ge ?_
 refine Cx.cno rfl (decide_eq_false (by omega)) ?_
 refine go ?_
 refine Cx.ordc rfl (by kernel_rfl) ?_
 refine ge ?_
 refine Ev.cakH (by kernel_rfl) rfl rfl (laySlotN hx 0 (by have := hx.2.2.2.2.1; omega)) ?_
 refine ge ?_
 refine Ev.caH (by kernel_rfl) rfl rfl (stackNew (mp := mp) (m := m) (k := x.spare) (hx.spare hl hm.2)) (Pres.deps (by kernel_rfl)) ?_
 rintro v L' ⟨sb, rfl, rfl⟩
 refine ge ?_
 refine go ?_
 refine Sx.bx rfl rfl fun q => ?_
 refine go ?_
 exact Kr.two (.inr rfl) rfl rfl (Ent.cons (Ent.cons Ent.drop)) ⟨q, sb, rfl, rfl⟩
def zeroRt (x : Cn) (m : Mm) : Nat → Mm
 | 0 => m
 | i + 1 => (zeroRt x m i).lay (x.root + i) 0
theorem zeroRt_len (x : Cn) (m : Mm) : ∀ i, (zeroRt x m i).ws.length = m.ws.length
 | 0 => rfl
 | i + 1 => by simp only [zeroRt, Mm.len_lay]; exact zeroRt_len x m i
theorem lay_same {m : Mm} {i v : Nat} (h : i < m.ws.length) (e : m.at_ i = v) : m.lay i v = m := by
 have hg := Mm.get h
 unfold Mm.lay
 rw [← e]
 congr 1
 rw [List.getElem?_eq_getElem h] at hg
 have e2 : m.at_ i = m.ws[i] := by simpa using hg.symm
 rw [e2]
 exact List.set_getElem_self h
theorem zeroRt_same {x : Cn} {m : Mm} (hl : x.root + x.sl ≤ m.ws.length) (h : ∀ i, i < x.sl → m.at_ (x.root + i) = 0) : ∀ i, i ≤ x.sl → zeroRt x m i = m
 | 0, _ => rfl
 | i + 1, hi => by
   simp only [zeroRt]
   rw [zeroRt_same hl h i (by omega)]
   exact lay_same (by omega) (h i (by omega))
set_option maxHeartbeats 1000000 in
theorem rootsFill {g mp sb : Nat} {x : Cn} {m : Mm} {F G H : St} (hx : x.ok) (hl : x.len ≤ m.ws.length) [t : Take L (some ⟨mp, 0, none⟩) (MemO m) F] [s : Take F (some ⟨sb, 0, none⟩) (SkO mp x.spare) G] [c : Take G (some ⟨g, 0, none⟩) (RoO mp sb x) H] :
  Fx Tryz.prog 73 [.pointer (some ⟨g, 0, none⟩)] L (fun v L' => L' = pt (some ⟨mp, 0, none⟩) (MemO (zeroRt x (fillM x.spare m) x.sl)) :: F) := by
 obtain ⟨b1, b2, b3, b4, b5, b6, b7⟩ := show MayC (x.w : Int) x.c x.wd x.sl x.ca x.ba from hx
 have hsz : x.root + x.sl ≤ x.len := by unfold Cn.root Cn.len; omega
 refine Fx.mk Tryz.func73 k73 (Nat.le_of_ble_eq_true rfl) ?_
 dsimp only [c73, envOf, Nat.reduceAdd]
 refine Cx.ent (Ent.trans (Ent.of t.out) (Ent.cons (Ent.trans (Ent.of s.out) (Ent.cons (Ent.of c.out))))) ?_
 refine Cx.pure (memKey (b := mp) (m := m)) fun hm => ?_
 refine go ?_
 refine Sx.ca rfl (stackFill (sb := sb) (mp := mp) (k := x.spare) (m := m) (hx.spare hl hm.2)) ?_
 rintro v L' rfl
 refine go ?_
 refine Cx.lp (α := {i : Nat // i ≤ x.sl}) (fun i => [(0, .pointer (some ⟨g, 0, none⟩)), (12, .int .i64 (x.sl : Nat)), (13, .int .i64 i.1)])
  (fun i => pt (some ⟨mp, 0, none⟩) (MemO (zeroRt x (fillM x.spare m) i.1)) :: pt (some ⟨sb, 0, none⟩) (SkO mp x.spare) :: pt (some ⟨g, 0, none⟩) (RoO mp sb x) :: H) (fun i => x.sl - i.1) ⟨0, by omega⟩ (sub.cons rfl (sub.cons rfl (sub.cons rfl sub.nil))) (Ent.refl _) ?_
 rintro ⟨i, hi⟩
 have hzl := zeroRt_len x (fillM x.spare m) i
 rw [fillM_len] at hzl
 dsimp only
 refine go ?_
 refine Cx.ifp rfl (fun h => ?_) (fun h => ?_)
 ·refine go ?_
  refine Cx.orde rfl (by kernel_rfl) ?_
  refine ge ?_
  refine Ev.cakH (by kernel_rfl) rfl rfl (layRootN hx i (by omega)) ?_
  refine ge ?_
  refine Ev.caH (by kernel_rfl) rfl rfl (cellsLay (b := mp) (m := zeroRt x (fillM x.spare m) i) (x.root + i) 0 (by omega) (by omega)) (Pres.deps (by kernel_rfl)) ?_
  rintro v L' ⟨rfl, rfl⟩
  refine ge ?_
  refine go ?_
  rw [w64 (n := (i : Int) + 1) (by omega) (by omega)]
  exact Klp.nm ⟨i + 1, by omega⟩ (sub.cons rfl (sub.cons rfl (sub.cons rfl sub.nil))) (Ent.refl _) (by dsimp only; omega)
 ·obtain rfl : i = x.sl := by omega
  refine go ?_
  exact Kr.none (.inl rfl) (Ent.cons (Ent.trans (Ent.cons (Ent.of c.back)) (Ent.of s.back))) rfl
abbrev GrO (mp : Nat) (x : Cn) : Option Addr → As := Blk 146 (.pointer (some ⟨mp, 0, none⟩) :: x.l)
theorem grantNew {mp : Nat} {m : Mm} {x : Cn} (hx : x.ok) (hl : x.len ≤ m.ws.length) [t : Take L (some ⟨mp, 0, none⟩) (MemO m) F] :
  Fx Tryz.prog 18 [.pointer (some ⟨mp, 0, none⟩), x.v] L (fun v L' => ∃ g, v = .tuple #[.pointer (some ⟨g, 0, none⟩), .int .i64 0] ∧ L' = pt (some ⟨g, 0, none⟩) (GrO mp x) :: L) := by
 refine Fx.mk Tryz.func18 k18 (Nat.le_of_ble_eq_true rfl) ?_
 dsimp only [c18, envOf, Nat.reduceAdd]
 refine Cx.sq ?_
 refine Cx.rg ?_
 refine Sx.bx rfl rfl fun g => ?_
 refine go ?_
 refine Sx.ca rfl (rootsNew (mp := mp) (m := m) hx hl) ?_
 rintro v L' ⟨r, sb, rfl, rfl⟩
 refine go ?_
 refine Sx.bx rfl rfl fun q => ?_
 refine go ?_
 exact Kr.two (.inr rfl) rfl rfl (Ent.cons (Ent.trans Ent.drop (Ent.trans Ent.drop Ent.drop))) ⟨q, rfl, rfl⟩
end
end Go.Proofs.YtflalhdofhobmaaGreat


namespace Go.Proofs.YtflalhdofhobmaaGreat
open Go
attribute [local irreducible] Sx Cx Rx Fx Krg Ksq Kbl Klp Kr
section
variable {L F G : St}
theorem Sx.re {P : Program} {N : Nat} {l : List Go.Proofs.YtflalhdofhobmaaGreat.G} {e : En} {K : En → St → Prop} {b : Option Addr} {T : TypeId} {vs : List Value} {L : St} (vs' : List Value) (h : vs = vs') (k : Sx P N l e K (pt b (Blk T vs') :: L)) : Sx P N l e K (pt b (Blk T vs) :: L) := h ▸ k
theorem cntW {n : Nat} (h : n ≤ 1000000) : IntKind.i64.wrap ((n : Int) + 1) = ((n + 1 : Nat) : Int) := by rw [w64 (by omega) (by omega)]; push_cast; rfl
theorem rootsLoad {g mp sb : Nat} {x : Cn} {m : Mm} {F1 : St} (n : Nat) (hn : n < x.sl) (hx : x.ok) (hm : m.ok) (hl : x.len ≤ m.ws.length) [t : Take L (some ⟨mp, 0, none⟩) (MemO m) F1] [c : Take F1 (some ⟨g, 0, none⟩) (RoO mp sb x) G] :
  Fx Tryz.prog 174 [.pointer (some ⟨g, 0, none⟩), .int .i64 n] L (fun v L' => v = .tuple #[wd (m.at_ (x.root + n)), rtV (rtOf (m.at_ (x.root + n)))] ∧ L' = pt (some ⟨mp, 0, none⟩) (MemO m.tick) :: F1) := by
 have hsz : x.root + x.sl ≤ x.len := by unfold Cn.root Cn.len; omega
 refine Fx.mk Tryz.func174 k174 (Nat.le_of_ble_eq_true rfl) ?_
 dsimp only [c174, envOf, Nat.reduceAdd]
 refine Cx.ent (Ent.trans (Ent.of t.out) (Ent.cons (Ent.of c.out))) ?_
 refine go ?_
 refine Sx.al fun q => ?_
 refine go ?_
 refine Cx.ordc rfl (by kernel_rfl) ?_
 refine ge ?_
 refine Ev.cakH (by kernel_rfl) rfl rfl (layRootN hx n hn) ?_
 refine ge ?_
 refine Ev.caH (by kernel_rfl) rfl rfl (cellsLoad (b := mp) (m := m) (x.root + n) (by omega)) (Pres.deps (by kernel_rfl)) ?_
 rintro v L' ⟨rfl, rfl⟩
 refine ge ?_
 refine go ?_
 refine Sx.ca rfl (getRoot (m.at_ (x.root + n)) (Mm.at_lt hm _)) ?_
 rintro v L' ⟨rfl, rfl⟩
 refine go ?_
 refine Sx.st (b := q) rfl rfl rfl rfl rfl rfl ?_
 dsimp only [lay]
 refine go ?_
 refine Kr_tc (b := q) (.inr rfl) rfl rfl rfl ?_ ⟨rfl, rfl⟩
 exact Ent.trans Ent.drop (Ent.cons (Ent.of c.back))
def CreS.rt (cl : Nat) (c : CreS) : Rt := if c.at_ = 2 then nextRt cl c.was else ⟨0, 0, 0, 0⟩
abbrev crB (b r : Nat) (nx n1 n2 n3 pp : Value) (cl : Nat) (cnt slot : Int) (point : Nat) (rt : Rt) (code : Nat) : As :=
 pt (some ⟨b, 0, none⟩) (Blk 232 [nx, n1, n2, n3, .int .i64 cnt, .pointer (some ⟨r, 0, none⟩), .int .i64 cl, pp, .int .i64 slot, .int .i64 (point : Nat), .int .i64 (rt.gen : Nat), .int .i64 (rt.mrk : Nat), .int .i64 (rt.cl : Nat), .int .i64 (rt.off : Nat), .int .i64 (code : Nat)])
def crPL (T : TypeId) (r sp : Nat) (k : Sk) (cl : Nat) (c : CreS) (a : Option Addr) (y : Nat) : St :=
 [pt a (Blk T [.func (.func 232) #[.pointer a] #[], mth 163 y, mth 164 y, .func (.func 165) #[.pointer a] #[], .int .i64 (c.cnt : Nat), .pointer (some ⟨r, 0, none⟩), .int .i64 cl, .pointer (some ⟨y, 0, none⟩), .int .i64 c.slot, .int .i64 (c.point : Nat), .int .i64 ((c.rt cl).gen : Nat), .int .i64 ((c.rt cl).mrk : Nat), .int .i64 ((c.rt cl).cl : Nat), .int .i64 ((c.rt cl).off : Nat), .int .i64 (c.code : Nat)]),
  pt (some ⟨y, 0, none⟩) (PopO sp k c.q)]
def crSL (nx : Value) (T : TypeId) (r : Nat) (cl : Nat) (c : CreS) (a : Option Addr) (y : Value × Value × Value × Value) : St :=
 [pt a (Blk T [nx, y.1, y.2.1, y.2.2.1, .int .i64 (c.cnt : Nat), .pointer (some ⟨r, 0, none⟩), .int .i64 cl, y.2.2.2, .int .i64 c.slot, .int .i64 (c.point : Nat), .int .i64 ((c.rt cl).gen : Nat), .int .i64 ((c.rt cl).mrk : Nat), .int .i64 ((c.rt cl).cl : Nat), .int .i64 ((c.rt cl).off : Nat), .int .i64 (c.code : Nat)])]
def CreT (T : TypeId) (r sp : Nat) (k : Sk) (cl : Nat) (c : CreS) (a : Option Addr) : As := bif c.done then exs (crSL .nilFunc T r cl c a) else match c.at_ with
 | 0 => exs (crPL T r sp k cl c a) | 1 => exs (crSL (.func (.func 224) #[.pointer a] #[]) T r cl c a) | _ => exs (crSL (.func (.func 252) #[.pointer a] #[]) T r cl c a)
abbrev CreO := CreT 232
theorem CreO.p {T : TypeId} {r sp : Nat} {k : Sk} {cl : Nat} {c : CreS} {a : Option Addr} (h : c.done = false) (h0 : c.at_ = 0) : CreT T r sp k cl c a = exs (crPL T r sp k cl c a) := by unfold CreT; rw [h, h0]; rfl
theorem CreO.l {T : TypeId} {r sp : Nat} {k : Sk} {cl : Nat} {c : CreS} {a : Option Addr} (h : c.done = false) (h0 : c.at_ = 1) : CreT T r sp k cl c a = exs (crSL (.func (.func 224) #[.pointer a] #[]) T r cl c a) := by unfold CreT; rw [h, h0]; rfl
theorem CreO.s {T : TypeId} {r sp : Nat} {k : Sk} {cl : Nat} {c : CreS} {a : Option Addr} (h : c.done = false) (h0 : c.at_ = 2) : CreT T r sp k cl c a = exs (crSL (.func (.func 252) #[.pointer a] #[]) T r cl c a) := by unfold CreT; rw [h, h0]; rfl
theorem CreO.d {T : TypeId} {r sp : Nat} {k : Sk} {cl : Nat} {c : CreS} {a : Option Addr} (h : c.done = true) : CreT T r sp k cl c a = exs (crSL .nilFunc T r cl c a) := by unfold CreT; rw [h]; rfl
theorem CreO.closeP {b r sp p : Nat} {k : Sk} {cl : Nat} (c : CreS) (h : c.done = false) (h0 : c.at_ = 0) {cnt slot : Int} {point code : Nat} {rt : Rt} {q : PopS} (e1 : cnt = (c.cnt : Nat)) (e2 : slot = c.slot) (e3 : point = c.point) (e4 : rt = c.rt cl) (e5 : code = c.code) (e6 : q = c.q) :
  Ent (crB b r (mth 232 b) (mth 163 p) (mth 164 p) (mth 165 b) (.pointer (some ⟨p, 0, none⟩)) cl cnt slot point rt code :: pt (some ⟨p, 0, none⟩) (PopO sp k q) :: G) (pt (some ⟨b, 0, none⟩) (CreO r sp k cl c) :: G) := by
 subst e1 e2 e3 e4 e5 e6
 exact Ent.close (f := crPL 232 r sp k cl c (some ⟨b, 0, none⟩)) (CreO.p h h0) p
theorem CreO.closeL {b r sp : Nat} {k : Sk} {cl : Nat} {n1 n2 n3 pp : Value} (c : CreS) (h : c.done = false) (h0 : c.at_ = 1) {cnt slot : Int} {point code : Nat} {rt : Rt} (e1 : cnt = (c.cnt : Nat)) (e2 : slot = c.slot) (e3 : point = c.point) (e4 : rt = c.rt cl) (e5 : code = c.code) :
  Ent (crB b r (mth 224 b) n1 n2 n3 pp cl cnt slot point rt code :: G) (pt (some ⟨b, 0, none⟩) (CreO r sp k cl c) :: G) := by
 subst e1 e2 e3 e4 e5
 exact Ent.close (f := crSL (mth 224 b) 232 r cl c (some ⟨b, 0, none⟩)) (CreO.l h h0) (n1, n2, n3, pp)
theorem CreO.closeS {b r sp : Nat} {k : Sk} {cl : Nat} {n1 n2 n3 pp : Value} (c : CreS) (h : c.done = false) (h0 : c.at_ = 2) {cnt slot : Int} {point code : Nat} {rt : Rt} (e1 : cnt = (c.cnt : Nat)) (e2 : slot = c.slot) (e3 : point = c.point) (e4 : rt = c.rt cl) (e5 : code = c.code) :
  Ent (crB b r (mth 252 b) n1 n2 n3 pp cl cnt slot point rt code :: G) (pt (some ⟨b, 0, none⟩) (CreO r sp k cl c) :: G) := by
 subst e1 e2 e3 e4 e5
 exact Ent.close (f := crSL (mth 252 b) 232 r cl c (some ⟨b, 0, none⟩)) (CreO.s h h0) (n1, n2, n3, pp)
theorem CreO.closeD {b r sp : Nat} {k : Sk} {cl : Nat} {n1 n2 n3 pp : Value} (c : CreS) (h : c.done = true) {cnt slot : Int} {point code : Nat} {rt : Rt} (e1 : cnt = (c.cnt : Nat)) (e2 : slot = c.slot) (e3 : point = c.point) (e4 : rt = c.rt cl) (e5 : code = c.code) :
  Ent (crB b r .nilFunc n1 n2 n3 pp cl cnt slot point rt code :: G) (pt (some ⟨b, 0, none⟩) (CreO r sp k cl c) :: G) := by
 subst e1 e2 e3 e4 e5
 exact Ent.close (f := crSL .nilFunc 232 r cl c (some ⟨b, 0, none⟩)) (CreO.d h) (n1, n2, n3, pp)
set_option maxHeartbeats 2000000 in
theorem rootsCreate {g mp sb : Nat} {x : Cn} (cl : Nat) (hcl : cl ≤ 3) (hx : x.ok) [c : Take L (some ⟨g, 0, none⟩) (RoO mp sb x) F] {F2 : St} [s : Take F (some ⟨sb, 0, none⟩) (SkO mp x.spare) F2] :
  Fx Tryz.prog 84 [.pointer (some ⟨g, 0, none⟩), .int .i64 cl] L (fun v L' => ∃ b, v = .pointer (some ⟨b, 0, none⟩) ∧ L' = pt (some ⟨b, 0, none⟩) (CreO g sb x.spare cl CreS.init) :: L) := by
 obtain ⟨b1, b2, b3, b4, b5, b6, b7⟩ := show MayC (x.w : Int) x.c x.wd x.sl x.ca x.ba from hx
 refine Fx.mk Tryz.func84 k84 (Nat.le_of_ble_eq_true rfl) ?_
 dsimp only [c84, envOf, Nat.reduceAdd]
 refine Cx.ent (Ent.trans (Ent.of c.out) (Ent.cons (Ent.of s.out))) ?_
 refine go ?_
 have e1 : (bif true then (if (cl : Int) < 0 then (0 : Int) else (cl : Int)) else (if (0 : Int) < (cl : Int) then (0 : Int) else (cl : Int))) = cl := by
  rw [cond_true, if_neg (by omega)]
 have e2 : (bif false then (if (cl : Int) < 3 then (3 : Int) else (cl : Int)) else (if (3 : Int) < (cl : Int) then (3 : Int) else (cl : Int))) = cl := by
  rw [cond_false, if_neg (by omega)]
 rw [e1, e2]
 refine Sx.ca rfl (stackPop (sb := sb) (k := x.spare) 1 (by show 1 ≤ x.sl; omega)) ?_
 rintro v L' ⟨p, rfl, rfl⟩
 refine go ?_
 refine Sx.bx rfl rfl fun b => ?_
 refine Sx.re [.nilFunc, .nilFunc, .nilFunc, .nilFunc, .int .i64 0, .pointer (some ⟨g, 0, none⟩), .int .i64 cl, .pointer (some ⟨p, 0, none⟩), .int .i64 (-1), .int .i64 0, .int .i64 0, .int .i64 0, .int .i64 0, .int .i64 0, .int .i64 0] rfl ?_
 refine go ?_
 refine Cx.ordc rfl (by kernel_rfl) ?_
 refine ge ?_
 refine Ev.caH (by kernel_rfl) rfl rfl (machThrough (b := b) (machOnNo (b := b) (by kernel_rfl) (popDoneC (b := p) (sb := sb) (k := x.spare) (q := PopS.init 1)))) (Pres.deps (by kernel_rfl)) ?_
 rintro v L' ⟨rfl, w, rfl, rfl⟩
 refine ge ?_
 refine go ?_
 refine Kr.one (.inr rfl) rfl ?_ ⟨b, rfl, rfl⟩
 refine Ent.trans (CreO.closeP (b := b) (r := g) (sp := sb) (p := p) (k := x.spare) (cl := cl) (rt := ⟨0, 0, 0, 0⟩) CreS.init rfl rfl rfl rfl rfl rfl rfl rfl) (Ent.cons ?_)
 exact Ent.trans (Ent.cons (Ent.of s.back)) (Ent.of c.back)
theorem crNext {b r : Nat} {nx n1 n2 n3 pp : Value} {cl : Nat} {cnt slot : Int} {point code : Nat} {rt : Rt} (w : Rt) (hg : w.gen < 4294967296) [tk : Take L (some ⟨b, 0, none⟩) (Blk 232 [nx, n1, n2, n3, .int .i64 cnt, .pointer (some ⟨r, 0, none⟩), .int .i64 cl, pp, .int .i64 slot, .int .i64 (point : Nat), .int .i64 (rt.gen : Nat), .int .i64 (rt.mrk : Nat), .int .i64 (rt.cl : Nat), .int .i64 (rt.off : Nat), .int .i64 (code : Nat)]) F] :
  Fx Tryz.prog 251 [.pointer (some ⟨b, 0, none⟩), rtV w] L (fun v L' => v = rtV ⟨laterT w.gen, 1, cl, 0⟩ ∧ L = L') := by
 obtain ⟨gn, mk_, cw, ow⟩ := w
 dsimp only at hg ⊢
 refine Fx.mk Tryz.func251 k251 (Nat.le_of_ble_eq_true rfl) ?_
 dsimp only [c251, envOf, Nat.reduceAdd]
 refine Cx.sq ?_
 refine Cx.rg ?_
 refine Sx.bx rfl rfl fun q => ?_
 refine go ?_
 refine Sx.al fun o => ?_
 repeat' (first|refine Zo0 rfl ?_|refine Zo1 ?_|refine Zo2 ?_|refine Zo3 ?_|refine Zo4 ?_|refine Zo5 ?_|refine Zo6 ?_|refine Zo7 ?_|refine Zo8 rfl ?_|refine Zo9 rfl ?_|refine Zoa ?_|refine Zob ?_|refine Zoc ?_|refine Zod ?_|refine Zoe ?_|refine Zof ?_|refine Zog ?_|refine Zoh ?_|refine Zom rfl (by rfl) ?_|refine Zon rfl rfl ?_|refine Zoo rfl rfl rfl rfl (by rfl) (by rfl) ?_|refine Zop rfl trivial ?_|refine Zoq rfl rfl rfl ?_)
 refine Cx.ifp rfl (fun h => ?_) (fun h => ?_)
 ·refine go ?_
  rw [w64 (n := (gn : Int) + 1) (by omega) (by omega)]
  refine Sx.st (b := o) rfl rfl rfl rfl rfl rfl ?_
  dsimp only [lay]
  refine go ?_
  refine Kr_cell (b := o) (.inr rfl) rfl rfl (L' := L) (Ent.trans Ent.drop Ent.drop) ⟨?_, rfl⟩
  dsimp only at h
  unfold laterT
  rw [if_pos (show gn < 4294967295 by omega)]
  rfl
 ·refine go ?_
  refine Sx.st (b := o) rfl rfl rfl rfl rfl rfl ?_
  dsimp only [lay]
  refine go ?_
  refine Kr_cell (b := o) (.inr rfl) rfl rfl (L' := L) (Ent.trans Ent.drop Ent.drop) ⟨?_, rfl⟩
  dsimp only at h
  unfold laterT
  rw [if_neg (show ¬ gn < 4294967295 by omega)]
  rfl
end
end Go.Proofs.YtflalhdofhobmaaGreat


namespace Go.Proofs.YtflalhdofhobmaaGreat
open Go
attribute [local irreducible] Sx Cx Rx Fx Krg Ksq Kbl Klp Kr
section
variable {L F G : St}
theorem crPopped_ {b r sp p : Nat} {k : Sk} {cl : Nat} {c : CreS} {n1 n2 n3 : Value} {cnt : Int} (hcnt : cnt = ((c.cnt + 1 : Nat) : Int)) (h0 : c.at_ = 0) (hd : c.done = false) {q : PopS} (hq : q.done = true) (hl : q.got.length ≤ 8) :
  Fx Tryz.prog 165 [.pointer (some ⟨b, 0, none⟩)] (crB b r .nilFunc n1 n2 n3 (.pointer (some ⟨p, 0, none⟩)) cl cnt c.slot c.point (c.rt cl) c.code :: pt (some ⟨p, 0, none⟩) (PopO sp k q) :: G)
   (fun v L' => L' = pt (some ⟨b, 0, none⟩) (CreO r sp k cl (crPopped { c with cnt := c.cnt + 1, q := q })) :: G) := by
 subst hcnt
 refine Fx.mk Tryz.func165 k165 (Nat.le_of_ble_eq_true rfl) ?_
 dsimp only [c165, envOf, Nat.reduceAdd]
 refine go ?_
 refine Sx.ca rfl (machCount (b := b)) ?_
 rintro v L' ⟨rfl, rfl⟩
 refine go ?_
 refine Sx.ca rfl (popGot (b := p) (sb := sp) (k := k) (q := q) hq) ?_
 rintro v L' ⟨ro, co, rfl, rfl⟩
 refine go ?_
 cases hg : q.got with
 | nil =>
   have e : crPopped { c with cnt := c.cnt + 1, q := q } = { c with cnt := c.cnt + 1, q := q, point := c.cnt + 1, code := 7, done := true } := by unfold crPopped; rw [hg]
   rw [e]
   refine go ?_
   refine Kr.none (.inr rfl) ?_ rfl
   refine Ent.trans (Ent.take (a := some ⟨b, 0, none⟩)) ?_
   refine Ent.trans (CreO.closeD (b := b) (r := r) (sp := sp) (k := k) (cl := cl) (rt := c.rt cl) { c with cnt := c.cnt + 1, q := q, point := c.cnt + 1, code := 7, done := true } rfl rfl rfl rfl rfl rfl) (Ent.cons ?_)
   exact ent
 | cons y l =>
   have e : crPopped { c with cnt := c.cnt + 1, q := q } = { c with cnt := c.cnt + 1, q := q, point := c.cnt + 1, slot := y, at_ := 1 } := by unfold crPopped; rw [hg]
   rw [e]
   rw [hg] at hl
   simp only [List.length_cons] at hl ⊢
   refine Cx.cno rfl (decide_eq_false (by omega)) ?_
   refine Cx.rowkey (a := ro) fun hx0 hn0 hc0 hk0 => ?_
   obtain ⟨rg, rfl⟩ : ∃ g, ro = some ⟨g, 0, none⟩ := by
    rcases hk0 with h | h
    ·omega
    ·exact h
   refine go ?_
   refine Sx.pv rfl ⟨by omega, by omega⟩ ?_
   refine Sx.ldr (b := rg) rfl (v := .int .i64 y) rfl ?_
   refine go ?_
   refine Sx.ca rfl (machGo (b := b)) ?_
   rintro v L' ⟨rfl, rfl⟩
   refine go ?_
   refine Kr.none (.inl rfl) ?_ rfl
   refine Ent.trans (Ent.take (a := some ⟨b, 0, none⟩)) ?_
   refine Ent.trans (CreO.closeL (b := b) (r := r) (sp := sp) (k := k) (cl := cl) (rt := c.rt cl) { c with cnt := c.cnt + 1, q := q, point := c.cnt + 1, slot := y, at_ := 1 } hd rfl rfl rfl rfl ?_ rfl) (Ent.cons ?_)
   ·unfold CreS.rt; dsimp only; rw [if_neg (by omega), if_neg (by omega)]
   ·exact ent
theorem crLoad_ {b r mp sp : Nat} {x : Cn} {m : Mm} {cl : Nat} {c : CreS} {n1 n2 n3 pp : Value} {cnt : Int} (hcnt : cnt = ((c.cnt + 1 : Nat) : Int)) (h1 : c.at_ = 1) (hd : c.done = false) (hx : x.ok) (hm : m.ok) (hl : x.len ≤ m.ws.length) (hs : 0 ≤ c.slot ∧ c.slot < x.sl) :
  Fx Tryz.prog 224 [.pointer (some ⟨b, 0, none⟩)] (crB b r .nilFunc n1 n2 n3 pp cl cnt c.slot c.point (c.rt cl) c.code :: pt (some ⟨r, 0, none⟩) (RoO mp sp x) :: pt (some ⟨mp, 0, none⟩) (MemO m) :: G)
   (fun v L' => L' = pt (some ⟨b, 0, none⟩) (CreO r sp x.spare cl { c with cnt := c.cnt + 1, was := m.at_ (x.root + c.slot.toNat), at_ := 2 }) :: pt (some ⟨mp, 0, none⟩) (MemO m.tick) :: pt (some ⟨r, 0, none⟩) (RoO mp sp x) :: G) := by
 subst hcnt
 obtain ⟨s, hs1⟩ : ∃ s : Nat, c.slot = s := ⟨c.slot.toNat, by omega⟩
 rw [hs1, Int.toNat_natCast]
 refine Fx.mk Tryz.func224 k224 (Nat.le_of_ble_eq_true rfl) ?_
 dsimp only [c224, envOf, Nat.reduceAdd]
 refine Cx.sq ?_
 refine Cx.rd ?_
 refine Rx.pvs rfl ?_
 refine Rx.ldbK 0 rfl rfl rfl (by rfl) rfl rfl ?_
 refine Rx.pvs rfl ?_
 refine Rx.ldbK 0 rfl rfl rfl (by rfl) rfl rfl ?_
 refine Rx.pvs rfl ?_
 refine Rx.two rfl rfl rfl ?_ ?_
 ·refine Sx.ca rfl (rootsLoad (g := r) (mp := mp) (sb := sp) (x := x) (m := m) s (by omega) hx hm hl) ?_
  rintro v L' ⟨rfl, rfl⟩
  refine Sx.nil ⟨⟨⟨trivial, Has.cell rfl⟩, Has.cell rfl⟩, ?_⟩
  refine Rx.pvs rfl ?_
  refine Rx.one rfl rfl rfl ?_
  refine Sx.al fun q => ?_
  refine Sx.nil ⟨⟨⟨trivial, Has.cell rfl⟩, Has.cell rfl⟩, ?_⟩
  refine Rx.pvs rfl ?_
  refine Rx.one rfl rfl rfl ?_
  refine Sx.st (b := q) rfl rfl rfl rfl rfl rfl ?_
  refine Sx.re (rtL (rtOf (m.at_ (x.root + s)))) rfl ?_
  refine Sx.nil ⟨⟨⟨trivial, Has.cell rfl⟩, Has.cell rfl⟩, ?_⟩
  refine Rx.nil ?_
  refine go ?_
  refine Sx.ca rfl (crNext (b := b) (r := r) (cl := cl) (rtOf (m.at_ (x.root + s))) (rtOf_gen (Mm.at_lt hm _))) ?_
  rintro v L' ⟨rfl, rfl⟩
  refine go ?_
  refine Sx.st (b := b) rfl rfl rfl rfl rfl rfl ?_
  refine Sx.re [.nilFunc, n1, n2, n3, .int .i64 ((c.cnt + 1 : Nat) : Int), .pointer (some ⟨r, 0, none⟩), .int .i64 cl, pp, .int .i64 (s : Nat), .int .i64 (c.point : Nat), .int .i64 ((nextRt cl (m.at_ (x.root + s))).gen : Nat), .int .i64 ((nextRt cl (m.at_ (x.root + s))).mrk : Nat), .int .i64 ((nextRt cl (m.at_ (x.root + s))).cl : Nat), .int .i64 ((nextRt cl (m.at_ (x.root + s))).off : Nat), .int .i64 (c.code : Nat)] rfl ?_
  refine go ?_
  refine Sx.ca rfl (machGo (b := b)) ?_
  rintro v L' ⟨rfl, rfl⟩
  refine go ?_
  refine Kr.none (.inl rfl) ?_ rfl
  refine Ent.trans (Ent.take (a := some ⟨b, 0, none⟩)) ?_
  refine Ent.trans (CreO.closeS (b := b) (r := r) (sp := sp) (k := x.spare) (cl := cl) (rt := nextRt cl (m.at_ (x.root + s))) { c with cnt := c.cnt + 1, slot := (s : Int), was := m.at_ (x.root + s), at_ := 2 } hd rfl rfl rfl rfl ?_ rfl) (Ent.cons ?_)
  ·unfold CreS.rt; dsimp only; rw [if_pos rfl]
  ·exact ent
 ·refine Sx.al fun q => ?_
  refine Sx.nil ⟨⟨⟨trivial, Has.cell rfl⟩, Has.cell rfl⟩, ?_⟩
  refine Rx.pvs rfl ?_
  refine Rx.one rfl rfl rfl ?_
  refine Sx.ca rfl (rootsLoad (g := r) (mp := mp) (sb := sp) (x := x) (m := m) s (by omega) hx hm hl) ?_
  rintro v L' ⟨rfl, rfl⟩
  refine Sx.nil ⟨⟨⟨trivial, Has.cell rfl⟩, Has.cell rfl⟩, ?_⟩
  refine Rx.pvs rfl ?_
  refine Rx.one rfl rfl rfl ?_
  refine Sx.st (b := q) rfl rfl rfl rfl rfl rfl ?_
  refine Sx.re (rtL (rtOf (m.at_ (x.root + s)))) rfl ?_
  refine Sx.nil ⟨⟨⟨trivial, Has.cell rfl⟩, Has.cell rfl⟩, ?_⟩
  refine Rx.nil ?_
  refine go ?_
  refine Sx.ca rfl (crNext (b := b) (r := r) (cl := cl) (rtOf (m.at_ (x.root + s))) (rtOf_gen (Mm.at_lt hm _))) ?_
  rintro v L' ⟨rfl, rfl⟩
  refine go ?_
  refine Sx.st (b := b) rfl rfl rfl rfl rfl rfl ?_
  refine Sx.re [.nilFunc, n1, n2, n3, .int .i64 ((c.cnt + 1 : Nat) : Int), .pointer (some ⟨r, 0, none⟩), .int .i64 cl, pp, .int .i64 (s : Nat), .int .i64 (c.point : Nat), .int .i64 ((nextRt cl (m.at_ (x.root + s))).gen : Nat), .int .i64 ((nextRt cl (m.at_ (x.root + s))).mrk : Nat), .int .i64 ((nextRt cl (m.at_ (x.root + s))).cl : Nat), .int .i64 ((nextRt cl (m.at_ (x.root + s))).off : Nat), .int .i64 (c.code : Nat)] rfl ?_
  refine go ?_
  refine Sx.ca rfl (machGo (b := b)) ?_
  rintro v L' ⟨rfl, rfl⟩
  refine go ?_
  refine Kr.none (.inl rfl) ?_ rfl
  refine Ent.trans (Ent.take (a := some ⟨b, 0, none⟩)) ?_
  refine Ent.trans (CreO.closeS (b := b) (r := r) (sp := sp) (k := x.spare) (cl := cl) (rt := nextRt cl (m.at_ (x.root + s))) { c with cnt := c.cnt + 1, slot := (s : Int), was := m.at_ (x.root + s), at_ := 2 } hd rfl rfl rfl rfl ?_ rfl) (Ent.cons ?_)
  ·unfold CreS.rt; dsimp only; rw [if_pos rfl]
  ·exact ent
theorem crStore_ {b r mp sp : Nat} {x : Cn} {m : Mm} {cl : Nat} {c : CreS} {n1 n2 n3 pp : Value} {cnt : Int} (hcnt : cnt = ((c.cnt + 1 : Nat) : Int)) (h2 : c.at_ = 2) (hcl : cl ≤ 3) (hx : x.ok) (hw : c.was < 18446744073709551616) (hl : x.len ≤ m.ws.length) (hs : 0 ≤ c.slot ∧ c.slot < x.sl) :
  Fx Tryz.prog 252 [.pointer (some ⟨b, 0, none⟩)] (crB b r .nilFunc n1 n2 n3 pp cl cnt c.slot c.point (c.rt cl) c.code :: pt (some ⟨r, 0, none⟩) (RoO mp sp x) :: pt (some ⟨mp, 0, none⟩) (MemO m) :: G)
   (fun v L' => L' = pt (some ⟨b, 0, none⟩) (CreO r sp x.spare cl { c with cnt := c.cnt + 1, done := true }) :: pt (some ⟨mp, 0, none⟩) (MemO (m.put (x.root + c.slot.toNat) (nextRt cl c.was).w)) :: pt (some ⟨r, 0, none⟩) (RoO mp sp x) :: G) := by
 subst hcnt
 have hsz : x.root + x.sl ≤ x.len := by unfold Cn.root Cn.len; omega
 have hrt : c.rt cl = nextRt cl c.was := by unfold CreS.rt; rw [if_pos h2]
 have hnk := nextRt_ok hw hcl
 obtain ⟨s, hs1⟩ : ∃ s : Nat, c.slot = s := ⟨c.slot.toNat, by omega⟩
 rw [hs1, Int.toNat_natCast, hrt]
 obtain ⟨R, hR⟩ : ∃ R, nextRt cl c.was = R := ⟨_, rfl⟩
 rw [hR] at hnk ⊢
 refine Fx.mk Tryz.func252 k252 (Nat.le_of_ble_eq_true rfl) ?_
 dsimp only [c252, envOf, Nat.reduceAdd]
 refine go ?_
 refine Sx.ca rfl (putRoot R hnk) ?_
 rintro v L' ⟨rfl, rfl⟩
 refine go ?_
 refine Cx.orde rfl (by kernel_rfl) ?_
 refine ge ?_
 refine Ev.cakH (by kernel_rfl) rfl rfl (layRootN hx s (by omega)) ?_
 refine ge ?_
 refine Ev.caH (by kernel_rfl) rfl rfl (cellsStore (b := mp) (m := m) (x.root + s) R.w (by omega) (Rt.w_lt hnk)) (Pres.deps (by kernel_rfl)) ?_
 rintro v L' ⟨rfl, rfl⟩
 refine ge ?_
 refine Kr.none (.inl rfl) ?_ rfl
 refine Ent.trans (Ent.take (a := some ⟨b, 0, none⟩)) ?_
 refine Ent.trans (CreO.closeD (b := b) (r := r) (sp := sp) (k := x.spare) (cl := cl) (rt := R) { c with cnt := c.cnt + 1, slot := (s : Int), done := true } rfl rfl rfl rfl (by rw [← hR, ← hrt]; rfl) rfl) (Ent.cons ?_)
 exact ent
theorem cr_l {k : Sk} {m : Mm} {q : PopS} (h : q.ok k) {len : Nat} (hk : k.ok len) (hm : m.ok) : (popStep k m q).1.got.length ≤ 8 := (popStep_ok hk hm h).len
theorem crStepC {b r mp sp : Nat} {x : Cn} {m : Mm} {cl : Nat} {c : CreS} {F1 F2 F3 : St} (hx : x.ok) (hl : x.len ≤ m.ws.length) (hcl : cl ≤ 3) (hc : c.ok x.spare)
  [t1 : Take L (some ⟨b, 0, none⟩) (CreO r sp x.spare cl c) F1] [t2 : Take F1 (some ⟨mp, 0, none⟩) (MemO m) F2] [t3 : Take F2 (some ⟨r, 0, none⟩) (RoO mp sp x) F3] [t4 : Take F3 (some ⟨sp, 0, none⟩) (SkO mp x.spare) G] :
  Fx Tryz.prog 86 [.pointer (some ⟨b, 0, none⟩)] L
   (fun v L' => v = .bool (!c.done) ∧ L' = pt (some ⟨b, 0, none⟩) (CreO r sp x.spare cl (crStep x.spare x.root cl m c).1) :: pt (some ⟨mp, 0, none⟩) (MemO (crStep x.spare x.root cl m c).2) :: F2) := by
 have hback : Ent (pt (some ⟨r, 0, none⟩) (RoO mp sp x) :: pt (some ⟨sp, 0, none⟩) (SkO mp x.spare) :: G) F2 := Ent.trans (Ent.cons (Ent.of t4.back)) (Ent.of t3.back)
 obtain ⟨ha, hq0, hw, hs, hn⟩ := hc
 refine Fx.mk Tryz.func86 k86 (Nat.le_of_ble_eq_true rfl) ?_
 dsimp only [c86, envOf, Nat.reduceAdd]
 refine Cx.ent (Ent.trans (Ent.of t1.out) (Ent.cons (Ent.trans (Ent.of t2.out) (Ent.cons (Ent.trans (Ent.of t3.out) (Ent.cons (Ent.of t4.out))))))) ?_
 refine Cx.pure (memKey (b := mp) (m := m)) fun hm => ?_
 have hk := hx.spare (n := m.ws.length) hl hm.2
 cases hd : c.done with
 | true =>
   have e1 : crStep x.spare x.root cl m c = (c, m) := by unfold crStep; rw [hd]; rfl
   rw [e1]
   refine Cx.openp (a := some ⟨b, 0, none⟩) (CreO.d hd) ?_
   rintro ⟨n1, n2, n3, pp⟩
   simp only [crSL, List.cons_append, List.nil_append]
   refine go ?_
   refine Sx.ca rfl (machStepDone (b := b)) ?_
   rintro v L' ⟨rfl, rfl⟩
   refine go ?_
   exact Kr.one (.inr rfl) rfl (Ent.trans (CreO.closeD c hd rfl rfl rfl rfl rfl) (Ent.cons (Ent.cons hback))) ⟨rfl, rfl⟩
 | false =>
   rcases (show c.at_ = 0 ∨ c.at_ = 1 ∨ c.at_ = 2 by omega) with h0 | h0 | h0
   ·refine Cx.openp (a := some ⟨b, 0, none⟩) (CreO.p hd h0) ?_
    intro p
    simp only [crPL, List.cons_append, List.nil_append]
    have hlen := cr_l (m := m) hq0 hk hm.1
    cases hq : (popStep x.spare m c.q).1.done with
    | true =>
      have e1 : crStep x.spare x.root cl m c = (crPopped { c with cnt := c.cnt + 1, q := (popStep x.spare m c.q).1 }, (popStep x.spare m c.q).2) := by unfold crStep; rw [hd, h0]; simp only [Bool.false_eq_true, if_false, hq, if_true]
      rw [e1]
      refine go ?_
      refine Sx.ca rfl (machStep (b := b) (by kernel_rfl) (machGoes (b := b) (by kernel_rfl) (popStepC (b := p) (mp := mp) (sb := sp) (k := x.spare) (m := m) (q := c.q) hk)
       (R2 := fun v L' => v = .tuple #[] ∧ ∃ w : Value, L' = pt (some ⟨b, 0, none⟩) (CreO r sp x.spare cl (crPopped { c with cnt := c.cnt + 1, q := (popStep x.spare m c.q).1 })) :: pt (some ⟨mp, 0, none⟩) (MemO (popStep x.spare m c.q).2) :: pt (some ⟨r, 0, none⟩) (RoO mp sp x) :: pt (some ⟨sp, 0, none⟩) (SkO mp x.spare) :: G) ?_)) ?_
      ·rintro v L1 ⟨rfl, rfl⟩
       have hon := machOnYes (b := b) (by kernel_rfl) (fd := 164) (ft := 165) (w := .pointer (some ⟨p, 0, none⟩)) (u := .pointer (some ⟨b, 0, none⟩))
        (L := pt (some ⟨p, 0, none⟩) (PopO sp x.spare (popStep x.spare m c.q).1) :: pt (some ⟨mp, 0, none⟩) (MemO (popStep x.spare m c.q).2) :: crB b r .nilFunc (mth 163 p) (mth 164 p) (mth 165 b) (.pointer (some ⟨p, 0, none⟩)) cl (IntKind.i64.wrap ((c.cnt : Int) + 1)) c.slot c.point (c.rt cl) c.code :: pt (some ⟨r, 0, none⟩) (RoO mp sp x) :: pt (some ⟨sp, 0, none⟩) (SkO mp x.spare) :: G)
        ((popDoneC (b := p) (sb := sp) (k := x.spare) (q := (popStep x.spare m c.q).1)).mono (by rintro v L' ⟨rfl, rfl⟩; exact ⟨by rw [hq], rfl⟩)) (by kernel_rfl)
        (Fx.ent (M := crB b r .nilFunc (mth 163 p) (mth 164 p) (mth 165 b) (.pointer (some ⟨p, 0, none⟩)) cl (IntKind.i64.wrap ((c.cnt : Int) + 1)) c.slot c.point (c.rt cl) c.code :: pt (some ⟨p, 0, none⟩) (PopO sp x.spare (popStep x.spare m c.q).1) :: pt (some ⟨mp, 0, none⟩) (MemO (popStep x.spare m c.q).2) :: pt (some ⟨r, 0, none⟩) (RoO mp sp x) :: pt (some ⟨sp, 0, none⟩) (SkO mp x.spare) :: G) (by exact ent)
         (crPopped_ (b := b) (r := r) (sp := sp) (p := p) (k := x.spare) (cl := cl) (c := c) (cntW hn) h0 hd hq hlen))
       refine hon.mono ?_
       rintro v L' ⟨rfl, w, rfl⟩
       exact ⟨rfl, .tuple #[], rfl⟩
      ·rintro v L' ⟨rfl, w, _, w2, _, w3, rfl⟩
       refine go ?_
       exact Kr.one (.inr rfl) rfl (Ent.cons (Ent.cons hback)) ⟨rfl, rfl⟩
    | false =>
      have e1 : crStep x.spare x.root cl m c = ({ c with cnt := c.cnt + 1, q := (popStep x.spare m c.q).1 }, (popStep x.spare m c.q).2) := by unfold crStep; rw [hd, h0]; simp only [Bool.false_eq_true, if_false, hq]
      rw [e1]
      refine go ?_
      refine Sx.ca rfl (machStep (b := b) (by kernel_rfl) (machGoes (b := b) (by kernel_rfl) (popStepC (b := p) (mp := mp) (sb := sp) (k := x.spare) (m := m) (q := c.q) hk)
       (R2 := fun v L' => v = .tuple #[] ∧ L' = crB b r (mth 232 b) (mth 163 p) (mth 164 p) (mth 165 b) (.pointer (some ⟨p, 0, none⟩)) cl (IntKind.i64.wrap ((c.cnt : Int) + 1)) c.slot c.point (c.rt cl) c.code ::
        pt (some ⟨p, 0, none⟩) (PopO sp x.spare (popStep x.spare m c.q).1) :: pt (some ⟨mp, 0, none⟩) (MemO (popStep x.spare m c.q).2) :: pt (some ⟨r, 0, none⟩) (RoO mp sp x) :: pt (some ⟨sp, 0, none⟩) (SkO mp x.spare) :: G) ?_)) ?_
      ·rintro v L1 ⟨rfl, rfl⟩
       refine (machOnNo (b := b) (by kernel_rfl) ((popDoneC (b := p) (sb := sp) (k := x.spare) (q := (popStep x.spare m c.q).1)).mono (by rintro v L' ⟨rfl, rfl⟩; exact ⟨by rw [hq], rfl⟩))).mono ?_
       rintro v L' ⟨rfl, rfl⟩
       exact ⟨rfl, rfl⟩
      ·rintro v L' ⟨rfl, w, _, w2, _, rfl⟩
       refine go ?_
       refine Kr.one (.inr rfl) rfl ?_ ⟨rfl, rfl⟩
       refine Ent.trans (CreO.closeP (p := p) { c with cnt := c.cnt + 1, q := (popStep x.spare m c.q).1 } hd h0 (cntW hn) rfl rfl rfl rfl rfl) (Ent.cons ?_)
       exact Ent.cons hback
   ·refine Cx.openp (a := some ⟨b, 0, none⟩) (CreO.l hd h0) ?_
    rintro ⟨n1, n2, n3, pp⟩
    simp only [crSL, List.cons_append, List.nil_append]
    have e1 : crStep x.spare x.root cl m c = ({ c with cnt := c.cnt + 1, was := m.at_ (x.root + c.slot.toNat), at_ := 2 }, m.tick) := by unfold crStep; rw [hd, h0]; rfl
    rw [e1]
    refine Cx.ent (M := crB b r (mth 224 b) n1 n2 n3 pp cl c.cnt c.slot c.point (c.rt cl) c.code :: pt (some ⟨r, 0, none⟩) (RoO mp sp x) :: pt (some ⟨mp, 0, none⟩) (MemO m) :: pt (some ⟨sp, 0, none⟩) (SkO mp x.spare) :: G) (by exact ent) ?_
    refine go ?_
    refine Sx.ca rfl (machStep (b := b) (by kernel_rfl) (crLoad_ (b := b) (r := r) (mp := mp) (sp := sp) (x := x) (m := m) (cl := cl) (c := c) (cntW hn) h0 hd hx hm.1 hl (hs (by omega)))) ?_
    rintro v L' ⟨rfl, w, rfl⟩
    refine go ?_
    exact Kr.one (.inr rfl) rfl (Ent.cons (Ent.cons hback)) ⟨rfl, rfl⟩
   ·refine Cx.openp (a := some ⟨b, 0, none⟩) (CreO.s hd h0) ?_
    rintro ⟨n1, n2, n3, pp⟩
    simp only [crSL, List.cons_append, List.nil_append]
    have e1 : crStep x.spare x.root cl m c = ({ c with cnt := c.cnt + 1, done := true }, m.put (x.root + c.slot.toNat) (nextRt cl c.was).w) := by unfold crStep; rw [hd, h0]; rfl
    rw [e1]
    refine Cx.ent (M := crB b r (mth 252 b) n1 n2 n3 pp cl c.cnt c.slot c.point (c.rt cl) c.code :: pt (some ⟨r, 0, none⟩) (RoO mp sp x) :: pt (some ⟨mp, 0, none⟩) (MemO m) :: pt (some ⟨sp, 0, none⟩) (SkO mp x.spare) :: G) (by exact ent) ?_
    refine go ?_
    refine Sx.ca rfl (machStep (b := b) (by kernel_rfl) (crStore_ (b := b) (r := r) (mp := mp) (sp := sp) (x := x) (m := m) (cl := cl) (c := c) (cntW hn) h0 hcl hx hw hl (hs (by omega)))) ?_
    rintro v L' ⟨rfl, w, rfl⟩
    refine go ?_
    exact Kr.one (.inr rfl) rfl (Ent.cons (Ent.cons hback)) ⟨rfl, rfl⟩
theorem crDone {b r sp : Nat} {k : Sk} {cl : Nat} {c : CreS} {F1 : St} (hd : c.done = true) [t1 : Take L (some ⟨b, 0, none⟩) (CreO r sp k cl c) F1] : Fx Tryz.prog 89 [.pointer (some ⟨b, 0, none⟩)] L (fun v L' => v = .bool true ∧ L = L') := by
 refine Fx.kept (t := t1) ?_
 refine Fx.mk Tryz.func89 k89 (Nat.le_of_ble_eq_true rfl) ?_
 dsimp only [c89, envOf, Nat.reduceAdd]
 refine Cx.ent (Ent.of t1.out) ?_
 refine Cx.openp (a := some ⟨b, 0, none⟩) (CreO.d hd) ?_
 rintro ⟨n1, n2, n3, pp⟩
 simp only [crSL, List.cons_append, List.nil_append]
 refine go ?_
 refine Sx.ca rfl (machDoneYes (b := b)) ?_
 rintro v L' ⟨rfl, rfl⟩
 refine go ?_
 exact Kr.one (.inr rfl) rfl (CreO.closeD c hd rfl rfl rfl rfl rfl) ⟨rfl, rfl⟩
theorem crCode {b r sp : Nat} {k : Sk} {cl : Nat} {c : CreS} {F1 : St} (hd : c.done = true) [t1 : Take L (some ⟨b, 0, none⟩) (CreO r sp k cl c) F1] : Fx Tryz.prog 90 [.pointer (some ⟨b, 0, none⟩)] L (fun v L' => v = .int .i64 (c.code : Nat) ∧ L = L') := by
 refine Fx.kept (t := t1) ?_
 refine Fx.mk Tryz.func90 k90 (Nat.le_of_ble_eq_true rfl) ?_
 dsimp only [c90, envOf, Nat.reduceAdd]
 refine Cx.ent (Ent.of t1.out) ?_
 refine Cx.openp (a := some ⟨b, 0, none⟩) (CreO.d hd) ?_
 rintro ⟨n1, n2, n3, pp⟩
 simp only [crSL, List.cons_append, List.nil_append]
 refine go ?_
 exact Kr.one (.inr rfl) rfl (CreO.closeD c hd rfl rfl rfl rfl rfl) ⟨rfl, rfl⟩
theorem crRegion {b r sp : Nat} {k : Sk} {cl : Nat} {c : CreS} {F1 : St} (hd : c.done = true) (h2 : c.at_ = 2) (h0 : c.code = 0) [t1 : Take L (some ⟨b, 0, none⟩) (CreO r sp k cl c) F1] : Fx Tryz.prog 88 [.pointer (some ⟨b, 0, none⟩)] L
  (fun v L' => v = .tuple #[.int .i64 c.slot, .int .i64 (laterT (rtOf c.was).gen : Nat)] ∧ L = L') := by
 refine Fx.kept (t := t1) ?_
 have hrt : c.rt cl = nextRt cl c.was := by unfold CreS.rt; rw [if_pos h2]
 refine Fx.mk Tryz.func88 k88 (Nat.le_of_ble_eq_true rfl) ?_
 dsimp only [c88, envOf, Nat.reduceAdd]
 refine Cx.ent (Ent.of t1.out) ?_
 refine go ?_
 refine Sx.ca rfl (crDone (b := b) (r := r) (sp := sp) (k := k) (cl := cl) (c := c) hd) ?_
 rintro v L' ⟨rfl, rfl⟩
 refine Sx.openp (a := some ⟨b, 0, none⟩) (CreO.d hd) ?_
 rintro ⟨n1, n2, n3, pp⟩
 simp only [crSL, List.cons_append, List.nil_append]
 rw [h0]
 refine go ?_
 refine Cx.ordc rfl (by kernel_rfl) ?_
 refine ge ?_
 refine go ?_
 refine Kr.two (.inr rfl) rfl rfl (CreO.closeD c hd rfl rfl rfl rfl h0.symm) ⟨?_, rfl⟩
 rw [hrt]; rfl
end
end Go.Proofs.YtflalhdofhobmaaGreat


namespace Go.Proofs.YtflalhdofhobmaaGreat
open Go
attribute [local irreducible] Sx Cx Rx Fx Krg Ksq Kbl Klp Kr
section
variable {L F G : St}
theorem refRootAt {x : Cn} (hx : x.ok) (i : Nat) (hi : i < x.sl) : Fx Tryz.prog 97 [x.v, .int .i64 i] L (fun v L' => v = .int .i64 ((x.root + i : Nat) : Int) ∧ L = L') := by
 obtain ⟨b1, b2, b3, b4, b5, b6, b7⟩ := hx.b
 refine Fx.mk Tryz.func97 k97 (Nat.le_of_ble_eq_true rfl) ?_
 dsimp only [c97, envOf, Nat.reduceAdd]
 refine Cx.sq ?_
 refine Cx.rg ?_
 refine Sx.bx rfl rfl fun g => ?_
 refine go ?_
 rw [w64 (n := (3 : Int) + x.w) (by omega) (by omega)]
 refine Sx.ca rfl (refAt hx ((3 : Int) + x.w) x.sl i hi (by omega) (by omega)) ?_
 rintro v L' ⟨rfl, rfl⟩
 refine go ?_
 refine Kr.one (.inr rfl) rfl Ent.drop ⟨congrArg (Value.int .i64) ?_, rfl⟩
 unfold Cn.root; omega
theorem refGetRoot (w : Nat) (hw : w < 18446744073709551616) : Fx Tryz.prog 100 [wd w] L (fun v L' => v = rtV (rtOf w) ∧ L = L') := by
 refine Fx.mk Tryz.func100 k100 (Nat.le_of_ble_eq_true rfl) ?_
 dsimp only [c100, envOf, Nat.reduceAdd]
 refine Cx.sq ?_
 refine Cx.rg ?_
 refine Sx.al fun g => ?_
 refine gg ?_
 have h1 := rtOf_gen hw
 have h2 := rtOf_mrk w
 have h3 := rtOf_cl w
 have h4 := rtOf_off w
 have d1 : (w : Int).tdiv 4294967296 = ((w / 4294967296 : Nat) : Int) := rfl
 have d2 : (w : Int).tdiv 65536 = ((w / 65536 : Nat) : Int) := rfl
 have d3 : (w : Int).tdiv 4096 = ((w / 4096 : Nat) : Int) := rfl
 have d4 : ((w / 65536 : Nat) : Int).tmod 65536 = ((w / 65536 % 65536 : Nat) : Int) := rfl
 have d5 : ((w / 4096 : Nat) : Int).tmod 16 = ((w / 4096 % 16 : Nat) : Int) := rfl
 have d6 : (w : Int).tmod 4096 = ((w % 4096 : Nat) : Int) := rfl
 rw [d1, d2, d3, d6, wrap64 (n := w / 4294967296) (by omega), wrap64 (n := w / 65536) (by omega), wrap64 (n := w / 4096) (by omega), d4, d5]
 rw [show w / 4294967296 = (rtOf w).gen from rfl, show w / 65536 % 65536 = (rtOf w).mrk from rfl, show w / 4096 % 16 = (rtOf w).cl from rfl, show w % 4096 = (rtOf w).off from rfl]
 rw [w64 (n := ((rtOf w).gen : Int)) (by omega) (by omega), w64 (n := ((rtOf w).mrk : Int)) (by omega) (by omega), w64 (n := ((rtOf w).cl : Int)) (by omega) (by omega), w64 (n := ((rtOf w).off : Int)) (by omega) (by omega)]
 refine Sx.st (b := g) rfl rfl rfl rfl rfl rfl ?_
 dsimp only [lay]
 refine go ?_
 exact Kr_cell (b := g) (.inr rfl) rfl rfl (L' := L) Ent.drop ⟨rfl, rfl⟩
theorem refLater (n : Nat) (h : n < 4294967296) : Fx Tryz.prog 169 [.int .i64 n] L (fun v L' => v = .int .i64 (laterT n : Nat) ∧ L = L') := by
 refine Fx.mk Tryz.func169 k169 (Nat.le_of_ble_eq_true rfl) ?_
 dsimp only [c169, envOf, Nat.reduceAdd]
 repeat' (first|refine Zo0 rfl ?_|refine Zo1 ?_|refine Zo2 ?_|refine Zo3 ?_|refine Zo4 ?_|refine Zo5 ?_|refine Zo6 ?_|refine Zo7 ?_|refine Zo8 rfl ?_|refine Zo9 rfl ?_|refine Zoa ?_|refine Zob ?_|refine Zoc ?_|refine Zod ?_|refine Zoe ?_|refine Zof ?_|refine Zog ?_|refine Zoh ?_|refine Zom rfl (by rfl) ?_|refine Zon rfl rfl ?_|refine Zoo rfl rfl rfl rfl (by rfl) (by rfl) ?_|refine Zop rfl trivial ?_|refine Zoq rfl rfl rfl ?_)
 refine Cx.ifp rfl (fun h => ?_) (fun h => ?_)
 ·refine go ?_
  refine Kr.one (.inr rfl) rfl (Ent.refl _) ⟨by unfold laterT; rw [if_neg (by omega)]; rfl, rfl⟩
 ·refine go ?_
  rw [w64 (n := (n : Int) + 1) (by omega) (by omega)]
  refine Kr.one (.inr rfl) rfl (Ent.refl _) ⟨by unfold laterT; rw [if_pos (by omega)]; rfl, rfl⟩
set_option maxHeartbeats 1000000 in
theorem refPutRoot (r : Rt) (h : r.ok) : Fx Tryz.prog 101 [rtV r] L (fun v L' => v = .tuple #[wd r.w, .bool true] ∧ L = L') := by
 obtain ⟨h1, h2, h3, h4⟩ := h
 refine Fx.mk Tryz.func101 k101 (Nat.le_of_ble_eq_true rfl) ?_
 dsimp only [c101, envOf, Nat.reduceAdd]
 refine Cx.sq ?_
 refine Cx.rg ?_
 refine Sx.bx rfl rfl fun g => ?_
 refine go ?_
 refine Sx.ca rfl (in_ (r.gen : Int) 0 4294967295) ?_
 rintro v L' ⟨rfl, rfl⟩
 rw [decide_eq_true (show (0 : Int) ≤ r.gen ∧ (r.gen : Int) ≤ 4294967295 by omega)]
 refine go ?_
 refine Sx.ca rfl (in_ (r.mrk : Int) 0 4097) ?_
 rintro v L' ⟨rfl, rfl⟩
 rw [decide_eq_true (show (0 : Int) ≤ r.mrk ∧ (r.mrk : Int) ≤ 4097 by omega)]
 refine go ?_
 refine Sx.ca rfl (in_ (r.cl : Int) 0 3) ?_
 rintro v L' ⟨rfl, rfl⟩
 rw [decide_eq_true (show (0 : Int) ≤ r.cl ∧ (r.cl : Int) ≤ 3 by omega)]
 refine go ?_
 refine Sx.ca rfl (in_ (r.off : Int) 0 1024) ?_
 rintro v L' ⟨rfl, rfl⟩
 rw [decide_eq_true (show (0 : Int) ≤ r.off ∧ (r.off : Int) ≤ 1024 by omega)]
 refine go ?_
 refine Kr.two (.inr rfl) rfl rfl Ent.drop ⟨?_, rfl⟩
 rw [wrap64 (n := r.gen) (by omega), wrap64 (n := r.mrk) (by omega), wrap64 (n := r.cl) (by omega), wrap64 (n := r.off) (by omega)]
 rw [wu64 (n := (r.gen : Int) * 4294967296) (by omega) (by omega), wu64 (n := (r.mrk : Int) * 65536) (by omega) (by omega), wu64 (n := (r.cl : Int) * 4096) (by omega) (by omega),
  wu64 (n := (r.gen : Int) * 4294967296 + r.mrk * 65536) (by omega) (by omega), wu64 (n := (r.gen : Int) * 4294967296 + r.mrk * 65536 + r.cl * 4096) (by omega) (by omega), wu64 (n := (r.gen : Int) * 4294967296 + r.mrk * 65536 + r.cl * 4096 + r.off) (by omega) (by omega)]
 rw [show (r.gen : Int) * 4294967296 + r.mrk * 65536 + r.cl * 4096 + r.off = ((r.w : Nat) : Int) by unfold Rt.w; omega]
def CreS.rslot (c : CreS) : Int := if c.at_ = 0 then 0 else c.slot
def CreS.rgen (c : CreS) : Nat := if c.done = true ∧ c.at_ = 2 then laterT (rtOf c.was).gen else 0
abbrev rcrV (w cl at_ : Nat) (cnt : Int) (point : Nat) (slot : Int) (gen p : Nat) (rt : Rt) (code : Nat) (d : Bool) : List Value :=
 [.pointer (some ⟨w, 0, none⟩), .int .i64 (cl : Nat), .int .i64 (at_ : Nat), .int .i64 cnt, .int .i64 (point : Nat), .int .i64 slot, .int .i64 (gen : Nat), .pointer (some ⟨p, 0, none⟩), .int .i64 (rt.gen : Nat), .int .i64 (rt.mrk : Nat), .int .i64 (rt.cl : Nat), .int .i64 (rt.off : Nat), .int .i64 (code : Nat), .bool d]
def rcrL (T : TypeId) (w rs cl : Nat) (c : CreS) (a : Option Addr) (p : Nat) : St :=
 [pt a (Blk T [.pointer (some ⟨w, 0, none⟩), .int .i64 (cl : Nat), .int .i64 (c.at_ : Nat), .int .i64 (c.cnt : Nat), .int .i64 (c.point : Nat), .int .i64 c.rslot, .int .i64 (c.rgen : Nat), .pointer (some ⟨p, 0, none⟩), .int .i64 ((rtOf c.was).gen : Nat), .int .i64 ((rtOf c.was).mrk : Nat), .int .i64 ((rtOf c.was).cl : Nat), .int .i64 ((rtOf c.was).off : Nat), .int .i64 (c.code : Nat), .bool c.done]), pt (some ⟨p, 0, none⟩) (RPopO rs c.q)]
def RCreT (T : TypeId) (w rs cl : Nat) (c : CreS) (a : Option Addr) : As := exs (rcrL T w rs cl c a)
abbrev RCreO := RCreT 164
theorem RCreO.close {b w rs cl p at_ point gen code : Nat} {cnt slot : Int} {rt : Rt} {d : Bool} {q : PopS} (c : CreS) (e1 : at_ = c.at_) (e2 : cnt = (c.cnt : Nat)) (e3 : point = c.point) (e4 : slot = c.rslot) (e5 : gen = c.rgen) (e6 : rt = rtOf c.was) (e7 : code = c.code) (e8 : d = c.done) (e9 : q = c.q) :
  Ent (pt (some ⟨b, 0, none⟩) (Blk 164 (rcrV w cl at_ cnt point slot gen p rt code d)) :: pt (some ⟨p, 0, none⟩) (RPopO rs q) :: G) (pt (some ⟨b, 0, none⟩) (RCreO w rs cl c) :: G) := by
 subst e1 e2 e3 e4 e5 e6 e7 e8 e9
 exact Ent.close (f := rcrL 164 w rs cl c (some ⟨b, 0, none⟩)) rfl p
theorem refCreate {w rm rp rs re : Nat} {x : Cn} (cl : Nat) (hcl : cl ≤ 3) [c : Take L (some ⟨w, 0, none⟩) (RWO x rm rp rs re) F] {F2 : St} [s : Take F (some ⟨rs, 0, none⟩) (RSkO rm x.spare) F2] :
  Fx Tryz.prog 85 [.pointer (some ⟨w, 0, none⟩), .int .i64 cl] L (fun v L' => ∃ b, v = .pointer (some ⟨b, 0, none⟩) ∧ L' = pt (some ⟨b, 0, none⟩) (RCreO w rs cl CreS.init) :: L) := by
 refine Fx.mk Tryz.func85 k85 (Nat.le_of_ble_eq_true rfl) ?_
 dsimp only [c85, envOf, Nat.reduceAdd]
 refine Cx.ent (Ent.trans (Ent.of c.out) (Ent.cons (Ent.of s.out))) ?_
 refine go ?_
 have e1 : (bif true then (if (cl : Int) < 0 then (0 : Int) else (cl : Int)) else (if (0 : Int) < (cl : Int) then (0 : Int) else (cl : Int))) = cl := by
  rw [cond_true, if_neg (by omega)]
 have e2 : (bif false then (if (cl : Int) < 3 then (3 : Int) else (cl : Int)) else (if (3 : Int) < (cl : Int) then (3 : Int) else (cl : Int))) = cl := by
  rw [cond_false, if_neg (by omega)]
 rw [e1, e2]
 refine Sx.ca rfl (refPopNew (sb := rs) (rm := rm) (k := x.spare) 1) ?_
 rintro v L' ⟨p, rfl, rfl⟩
 refine go ?_
 refine Sx.bx rfl rfl fun b => ?_
 refine Sx.re (rcrV w cl 0 0 0 0 0 p ⟨0, 0, 0, 0⟩ 0 false) rfl ?_
 refine go ?_
 refine Kr.one (.inr rfl) rfl ?_ ⟨b, rfl, rfl⟩
 refine Ent.trans (RCreO.close (b := b) (w := w) (rs := rs) (cl := cl) (p := p) CreS.init rfl rfl rfl rfl rfl rfl rfl rfl rfl) (Ent.cons ?_)
 exact Ent.trans (Ent.cons (Ent.of s.back)) (Ent.of c.back)
set_option maxHeartbeats 2000000 in
theorem refCrStep {b w rm rp rs re : Nat} {x : Cn} {m : Mm} {cl : Nat} {c : CreS} {F1 F2 F3 : St} (hx : x.ok) (hl : x.len ≤ m.ws.length) (hcl : cl ≤ 3) (hc : c.ok x.spare)
  [t1 : Take L (some ⟨b, 0, none⟩) (RCreO w rs cl c) F1] [t2 : Take F1 (some ⟨rm, 0, none⟩) (RMemO m) F2] [t3 : Take F2 (some ⟨w, 0, none⟩) (RWO x rm rp rs re) F3] [t4 : Take F3 (some ⟨rs, 0, none⟩) (RSkO rm x.spare) G] :
  Fx Tryz.prog 87 [.pointer (some ⟨b, 0, none⟩)] L
   (fun v L' => v = .bool (!c.done) ∧ L' = pt (some ⟨b, 0, none⟩) (RCreO w rs cl (crStep x.spare x.root cl m c).1) :: pt (some ⟨rm, 0, none⟩) (RMemO (crStep x.spare x.root cl m c).2) :: F2) := by
 have hsz : x.root + x.sl ≤ x.len := by unfold Cn.root Cn.len; omega
 have hback : Ent (pt (some ⟨w, 0, none⟩) (RWO x rm rp rs re) :: pt (some ⟨rs, 0, none⟩) (RSkO rm x.spare) :: G) F2 := Ent.trans (Ent.cons (Ent.of t4.back)) (Ent.of t3.back)
 obtain ⟨ha, hq0, hw, hs, hn⟩ := hc
 refine Fx.mk Tryz.func87 k87 (Nat.le_of_ble_eq_true rfl) ?_
 dsimp only [c87, envOf, Nat.reduceAdd]
 refine Cx.ent (Ent.trans (Ent.of t1.out) (Ent.cons (Ent.trans (Ent.of t2.out) (Ent.cons (Ent.trans (Ent.of t3.out) (Ent.cons (Ent.of t4.out))))))) ?_
 refine Cx.pure (rmemKey (rm := rm) (m := m)) fun hm => ?_
 have hk := hx.spare (n := m.ws.length) hl hm.2
 refine Cx.openp (a := some ⟨b, 0, none⟩) rfl ?_
 intro p
 simp only [rcrL, List.cons_append, List.nil_append]
 cases hd : c.done with
 | true =>
   have e1 : crStep x.spare x.root cl m c = (c, m) := by unfold crStep; rw [hd]; rfl
   rw [e1]
   refine go ?_
   refine Kr.one (.inr rfl) rfl (Ent.trans (RCreO.close (w := w) (rs := rs) (rt := rtOf c.was) (d := true) c rfl rfl rfl rfl rfl rfl rfl hd.symm rfl) (Ent.cons (Ent.cons hback))) ⟨rfl, rfl⟩
 | false =>
   refine go ?_
   rw [cntW hn]
   refine go ?_
   rcases (show c.at_ = 0 ∨ c.at_ = 1 ∨ c.at_ = 2 by omega) with h0 | h0 | h0
   ·rw [h0]
    refine go ?_
    have hlen := cr_l (m := m) hq0 hk hm.1
    refine Sx.ca rfl (refPopStep (b := p) (sb := rs) (rm := rm) (k := x.spare) (m := m) (q := c.q) hk hq0) ?_
    rintro v L' ⟨rfl, rfl⟩
    refine go ?_
    obtain ⟨Q, hQ⟩ : ∃ Q, Q = (popStep x.spare m c.q).1 := ⟨_, rfl⟩
    rw [← hQ] at hlen ⊢
    refine Sx.openp (a := some ⟨p, 0, none⟩) rfl ?_
    rintro ⟨ro, co⟩
    simp only [rpopL, List.cons_append, List.nil_append]
    cases hq : Q.done with
    | false =>
      have e1 : crStep x.spare x.root cl m c = ({ c with cnt := c.cnt + 1, q := Q }, (popStep x.spare m c.q).2) := by unfold crStep; rw [hd, h0, hQ]; rw [hQ] at hq; simp only [Bool.false_eq_true, if_false, hq]
      rw [e1]
      refine go ?_
      refine Kr.one (.inr rfl) rfl ?_ ⟨rfl, rfl⟩
      refine Ent.trans (RPopO.close (sb := rs) (a := some ⟨p, 0, none⟩) (r := ro) Q rfl rfl rfl rfl rfl rfl (by rw [hq]) rfl) ?_
      refine Ent.trans (Ent.take (a := some ⟨b, 0, none⟩)) ?_
      refine Ent.trans (RCreO.close (w := w) (rs := rs) (rt := rtOf c.was) (d := false) { c with cnt := c.cnt + 1, q := Q } h0.symm rfl rfl rfl ?_ rfl rfl hd.symm rfl) (Ent.cons (Ent.cons hback))
      rfl
    | true =>
      have e1 : crStep x.spare x.root cl m c = (crPopped { c with cnt := c.cnt + 1, q := Q }, (popStep x.spare m c.q).2) := by unfold crStep; rw [hd, h0, hQ]; rw [hQ] at hq; simp only [Bool.false_eq_true, if_false, hq, if_true]
      rw [e1]
      refine go ?_
      refine Sx.ent (Ent.trans (RPopO.close (sb := rs) (a := some ⟨p, 0, none⟩) (r := ro) Q rfl rfl rfl rfl rfl rfl (by rw [hq]) rfl) (Ent.refl _)) ?_
      refine Sx.ca rfl (refPopGot (b := p) (sb := rs) (rm := rm) (k := x.spare) (q := Q) hq hlen) ?_
      rintro v L' ⟨r1, c1, rfl, rfl⟩
      refine go ?_
      cases hg : Q.got with
      | nil =>
        have e2 : crPopped { c with cnt := c.cnt + 1, q := Q } = { c with cnt := c.cnt + 1, q := Q, point := c.cnt + 1, code := 7, done := true } := by unfold crPopped; rw [hg]
        rw [e2]
        refine go ?_
        refine Kr.one (.inr rfl) rfl ?_ ⟨rfl, rfl⟩
        refine Ent.trans (Ent.take (a := some ⟨b, 0, none⟩)) ?_
        refine Ent.trans (Ent.cons (Ent.take (a := some ⟨p, 0, none⟩))) ?_
        refine Ent.trans (RCreO.close (w := w) (rs := rs) (rt := rtOf c.was) (d := true) { c with cnt := c.cnt + 1, q := Q, point := c.cnt + 1, code := 7, done := true } h0.symm rfl rfl rfl ?_ rfl rfl rfl rfl) (Ent.cons ?_)
        ·unfold CreS.rgen
         dsimp only
         rw [if_neg (by simp [hd]), if_neg (by simp [h0])]
        ·refine Ent.trans (Ent.take (a := some ⟨rm, 0, none⟩)) (Ent.cons ?_)
         refine Ent.trans ?_ hback
         exact ent
      | cons y l =>
        have e2 : crPopped { c with cnt := c.cnt + 1, q := Q } = { c with cnt := c.cnt + 1, q := Q, point := c.cnt + 1, slot := y, at_ := 1 } := by unfold crPopped; rw [hg]
        rw [e2]
        rw [hg] at hlen
        simp only [List.length_cons] at hlen ⊢
        refine Cx.cno rfl (decide_eq_false (by omega)) ?_
        refine Cx.rowkey (a := r1) fun hx0 hn0 hc0 hk0 => ?_
        obtain ⟨rg, rfl⟩ : ∃ g, r1 = some ⟨g, 0, none⟩ := by
         rcases hk0 with h | h
         ·omega
         ·exact h
        refine go ?_
        refine Sx.pv rfl ⟨by omega, by omega⟩ ?_
        refine Sx.ldr (b := rg) rfl (v := .int .i64 y) rfl ?_
        refine go ?_
        refine Kr.one (.inr rfl) rfl ?_ ⟨rfl, rfl⟩
        refine Ent.trans (Ent.take (a := some ⟨b, 0, none⟩)) ?_
        refine Ent.trans (Ent.cons (Ent.take (a := some ⟨p, 0, none⟩))) ?_
        refine Ent.trans (RCreO.close (w := w) (rs := rs) (rt := rtOf c.was) (d := false) { c with cnt := c.cnt + 1, q := Q, point := c.cnt + 1, slot := y, at_ := 1 } rfl rfl rfl rfl ?_ rfl rfl hd.symm rfl) (Ent.cons ?_)
        ·unfold CreS.rgen
         dsimp only
         rw [if_neg (by simp [hd]), if_neg (by simp [hd])]
        ·refine Ent.trans ?_ (Ent.cons hback)
         exact ent
   ·have e1 : crStep x.spare x.root cl m c = ({ c with cnt := c.cnt + 1, was := m.at_ (x.root + c.slot.toNat), at_ := 2 }, m.tick) := by unfold crStep; rw [hd, h0]; rfl
    have hs' := hs (by omega)
    have hs2 : c.slot < x.sl := hs'.2
    obtain ⟨s, hs1⟩ : ∃ s : Nat, c.slot = s := ⟨c.slot.toNat, by omega⟩
    have er : c.rslot = s := by unfold CreS.rslot; rw [if_neg (by omega), hs1]
    rw [e1, h0, er, hs1, Int.toNat_natCast]
    refine go ?_
    refine Cx.ordc rfl (by kernel_rfl) ?_
    refine ge ?_
    refine Ev.cakH (by kernel_rfl) rfl rfl (refRootAt hx s (by omega)) ?_
    refine ge ?_
    refine Ev.caH (by kernel_rfl) rfl rfl (refLoad (rm := rm) (m := m) (x.root + s) (by omega)) (Pres.deps (by kernel_rfl)) ?_
    rintro v L' ⟨rfl, rfl⟩
    refine ge ?_
    have hwl := Mm.at_lt hm.1 (x.root + s)
    refine Ev.cakH (by kernel_rfl) rfl rfl (refGetRoot (m.at_ (x.root + s)) hwl) ?_
    refine ge ?_
    refine Ev.stnH (b := b) (rcrV w cl 1 ((c.cnt + 1 : Nat) : Int) c.point s c.rgen p (rtOf (m.at_ (x.root + s))) c.code false) (by kernel_rfl) rfl rfl rfl rfl rfl rfl rfl rfl (Pres.deps (by kernel_rfl)) ?_
    refine ge ?_
    refine go ?_
    refine Kr.one (.inr rfl) rfl ?_ ⟨rfl, rfl⟩
    refine Ent.trans (Ent.take (a := some ⟨b, 0, none⟩)) ?_
    refine Ent.trans (Ent.cons (Ent.take (a := some ⟨p, 0, none⟩))) ?_
    refine Ent.trans (RCreO.close (w := w) (rs := rs) (rt := rtOf (m.at_ (x.root + s))) (d := false) { c with cnt := c.cnt + 1, slot := (s : Int), was := m.at_ (x.root + s), at_ := 2 } rfl rfl rfl rfl ?_ rfl rfl hd.symm rfl) (Ent.cons ?_)
    ·unfold CreS.rgen
     dsimp only
     rw [if_neg (by simp [hd]), if_neg (by simp [hd])]
    ·refine Ent.trans ?_ (Ent.cons hback)
     exact ent
   ·have e1 : crStep x.spare x.root cl m c = ({ c with cnt := c.cnt + 1, done := true }, m.put (x.root + c.slot.toNat) (nextRt cl c.was).w) := by unfold crStep; rw [hd, h0]; rfl
    have hs' := hs (by omega)
    have hs2 : c.slot < x.sl := hs'.2
    obtain ⟨s, hs1⟩ : ∃ s : Nat, c.slot = s := ⟨c.slot.toNat, by omega⟩
    have er : c.rslot = s := by unfold CreS.rslot; rw [if_neg (by omega), hs1]
    have hnk := nextRt_ok (cl := cl) hw hcl
    rw [e1, h0, er, hs1, Int.toNat_natCast]
    refine go ?_
    refine Sx.ca rfl (refLater (rtOf c.was).gen (rtOf_gen hw)) ?_
    rintro v L' ⟨rfl, rfl⟩
    refine go ?_
    refine Cx.ordc rfl (by kernel_rfl) ?_
    refine ge ?_
    refine Ev.cakH (by kernel_rfl) rfl rfl (refPutRoot (nextRt cl c.was) hnk) ?_
    refine ge ?_
    refine go ?_
    refine Cx.ordc rfl (by kernel_rfl) ?_
    refine ge ?_
    refine Ev.cakH (by kernel_rfl) rfl rfl (refRootAt hx s (by omega)) ?_
    refine ge ?_
    refine Ev.caH (by kernel_rfl) rfl rfl (refStore (rm := rm) (m := m) (x.root + s) (nextRt cl c.was).w (by omega) (Rt.w_lt hnk)) (Pres.deps (by kernel_rfl)) ?_
    rintro v L' ⟨rfl, rfl⟩
    refine ge ?_
    refine go ?_
    refine Kr.one (.inr rfl) rfl ?_ ⟨rfl, rfl⟩
    refine Ent.trans (Ent.take (a := some ⟨b, 0, none⟩)) ?_
    refine Ent.trans (Ent.cons (Ent.take (a := some ⟨p, 0, none⟩))) ?_
    refine Ent.trans (RCreO.close (w := w) (rs := rs) (rt := rtOf c.was) (d := true) { c with at_ := 2, cnt := c.cnt + 1, slot := (s : Int), done := true } rfl rfl rfl rfl ?_ rfl rfl rfl rfl) (Ent.cons ?_)
    ·unfold CreS.rgen
     dsimp only
     rw [if_pos ⟨rfl, rfl⟩]
    ·refine Ent.trans ?_ (Ent.cons hback)
     exact ent
end
end Go.Proofs.YtflalhdofhobmaaGreat


namespace Go.Proofs.YtflalhdofhobmaaGreat
open Go
attribute [local irreducible] Sx Cx Rx Fx Krg Ksq Kbl Klp Kr
theorem itI_some {l : List Int} {i : Nat} (h : i < l.length) : (ints l)[i]? = some (.int .i64 (itI l i)) := by simp [ints, itI, h]
section
variable {L F G : St}
theorem Rd.pre {a : Option Addr} {n m : Nat} {vs : List Value} (h : Rd L 1 a n vs) (hm : m ≤ n) : Rd L 1 a m (vs.take m) := by
 obtain ⟨h1, h2⟩ := h
 refine ⟨by rw [List.length_take]; omega, ?_⟩
 rcases h2 with h0 | ⟨b, o, rfl, hh⟩
 ·left; omega
 ·right
  have := hh.sub (i := 0) (n := m)
  exact ⟨b, o, rfl, by simpa using this⟩
theorem Rd.get1 {a : Option Addr} {n i : Nat} {vs : List Value} {v : Value} (h : Rd L 1 a n vs) (hv : vs[i]? = some v) : ∃ b o, a = some ⟨b, o, none⟩ ∧ Has L b (o + i) [v] := by
 have hlt := (List.getElem?_eq_some_iff.1 hv).1
 obtain ⟨h1, h0 | ⟨b, o, rfl, h2⟩⟩ := h
 ·omega
 ·exact ⟨b, o, rfl, (h2.sub (i := i) (n := 1)).one (take_one hv)⟩
theorem sliceIndex {a : Option Addr} {n c : Nat} {xs : List Int} (x : Int) (hr : Rd L 1 a n (ints xs)) (hn : n ≤ 1000000000) :
  Fx Tryz.prog 269 [.slice a n c, .int .i64 x] L (fun v L' => (∃ i : Int, v = .int .i64 i ∧ (0 ≤ i ↔ x ∈ xs)) ∧ L = L') := by
 have hl : xs.length = n := by have := hr.1; simpa [ints] using this
 refine Fx.mk Tryz.func269 k269 (Nat.le_of_ble_eq_true rfl) ?_
 dsimp only [c269, envOf, Nat.reduceAdd]
 refine go ?_
 refine Cx.lp (α := {i : Nat // i ≤ n ∧ x ∉ xs.take i}) (fun i => [(0, .slice a n c), (1, .int .i64 x), (7, .int .i64 n), (8, .int .i64 i.1)]) (fun _ => L) (fun i => n - i.1) ⟨0, by omega, by simp⟩ (sub.cons rfl (sub.cons rfl (sub.cons rfl (sub.cons rfl sub.nil)))) (Ent.refl _) ?_
 rintro ⟨i, hi, hni⟩
 dsimp only
 refine go ?_
 refine Cx.ifp rfl (fun h => ?_) (fun h => ?_)
 ·have hv := itI_some (l := xs) (i := i) (by omega)
  obtain ⟨b, o, rfl, hh⟩ := hr.get1 hv
  refine go ?_
  refine Sx.pv rfl ⟨by omega, by omega⟩ ?_
  refine Sx.ld rfl (by simpa using hh) rfl ?_
  refine go ?_
  refine Cx.ifp rfl (fun e => ?_) (fun e => ?_)
  ·refine go ?_
   refine Kr.one (.inr rfl) rfl (Ent.refl _) ⟨⟨i, rfl, fun _ => ?_, fun _ => by omega⟩, rfl⟩
   rw [e]
   exact itI_mem (by omega)
  ·refine go ?_
   rw [w64 (by omega) (by omega)]
   refine Klp.nm ⟨i + 1, by omega, ?_⟩ (sub.cons rfl (sub.cons rfl (sub.cons rfl (sub.cons rfl sub.nil)))) (Ent.refl _) (by dsimp only; omega)
   rw [List.take_succ_eq_append_getElem (by omega), List.mem_append]
   rintro (h1 | h1)
   ·exact hni h1
   ·rw [List.mem_singleton] at h1
    exact e (h1.trans (by simp [itI, show i < xs.length by omega]))
 ·obtain rfl : i = n := by omega
  rw [← hl, List.take_length] at hni
  refine go ?_
  exact Kr.one (.inr rfl) rfl (Ent.refl _) ⟨⟨-1, rfl, by simp [hni]⟩, rfl⟩
theorem sliceContains {a : Option Addr} {n c : Nat} {xs : List Int} (x : Int) (hr : Rd L 1 a n (ints xs)) (hn : n ≤ 1000000000) :
  Fx Tryz.prog 265 [.slice a n c, .int .i64 x] L (fun v L' => v = .bool (decide (x ∈ xs)) ∧ L = L') := by
 refine Fx.mk Tryz.func265 k265 (Nat.le_of_ble_eq_true rfl) ?_
 dsimp only [c265, envOf, Nat.reduceAdd]
 refine go ?_
 refine Sx.ca rfl (sliceIndex (a := a) (n := n) (c := c) (xs := xs) x hr hn) ?_
 rintro v L' ⟨⟨i, rfl, hi⟩, rfl⟩
 refine go ?_
 exact Kr.one (.inr rfl) rfl (Ent.refl _) ⟨congrArg Value.bool (decide_eq_decide.2 hi), rfl⟩
def pushI (p : PushS) : Nat := min p.at_ (p.l.length - 1)
def pushFn (p : PushS) : FuncId := if p.at_ + 1 < p.l.length then 267 else if p.at_ + 1 = p.l.length then 266 else if p.at_ = p.l.length then 270 else 272
def pushNx (a : Option Addr) (p : PushS) : Value := bif p.done then .nilFunc else .func (.func (pushFn p)) #[.pointer a] #[]
def pushL (T : TypeId) (sb : Nat) (k : Sk) (p : PushS) (a : Option Addr) (y : (Option Addr × Nat) × Int) : St :=
 [lift (p.ok k), pt a (Blk T [pushNx a p, .nilFunc, .nilFunc, .nilFunc, .int .i64 y.2, .pointer (some ⟨sb, 0, none⟩), .slice y.1.1 p.l.length y.1.2, .int .i64 (pushI p : Nat), wd p.was]), pt y.1.1 (Row 3 1 p.l.length y.1.2 (ints p.l))]
def PushT (T : TypeId) (sb : Nat) (k : Sk) (p : PushS) (a : Option Addr) : As := exs (pushL T sb k p a)
abbrev PushO := PushT 296
theorem PushO.close {T : TypeId} {sb : Nat} {k : Sk} {a r : Option Addr} {c n : Nat} {cnt : Int} {v0 v1 v2 : Value} {w : List Value} {F G : St} (p : PushS) (hp : p.ok k)
  [t : Take L a (Blk T [v0, .nilFunc, .nilFunc, .nilFunc, .int .i64 cnt, .pointer (some ⟨sb, 0, none⟩), .slice r n c, v1, v2]) F] [u : Take F r (Row 3 1 n c w) G]
  (h0 : v0 = pushNx a p) (h1 : v1 = .int .i64 (pushI p : Nat)) (h2 : v2 = wd p.was) (hn : n = p.l.length) (hw : w = ints p.l) : Ent L (pt a (PushT T sb k p) :: G) := by
 subst h0; subst h1; subst h2; subst hn; subst hw
 refine Ent.trans (Ent.take1 (t := t) (Ent.of u.out)) ?_
 refine Ent.trans (Ent.lift hp (Ent.refl _)) ?_
 exact Ent.close (f := pushL T sb k p a) rfl ((r, c), cnt)
set_option maxHeartbeats 2000000 in
theorem stackPush {sb mp : Nat} {k : Sk} {a : Option Addr} {n c : Nat} {l : List Int} (hr : Rd L 1 a n (ints l)) (hc : n ≤ c) (hn : n ≤ 1000000000) [s : Take L (some ⟨sb, 0, none⟩) (SkO mp k) F] :
  Fx Tryz.prog 258 [.pointer (some ⟨sb, 0, none⟩), .slice a n c] L (fun v L' =>
   (¬ (l.Nodup ∧ ∀ x ∈ l, 0 ≤ x ∧ x < k.n) ∧ v = .tuple #[.pointer none, .int .i64 1] ∧ L = L') ∨
   ((l.Nodup ∧ ∀ x ∈ l, 0 ≤ x ∧ x < k.n) ∧ ∃ g, v = .tuple #[.pointer (some ⟨g, 0, none⟩), .int .i64 0] ∧ L' = pt (some ⟨g, 0, none⟩) (PushO sb k (PushS.init l)) :: L)) := by
 have hl : l.length = n := by have := hr.1; simpa [ints] using this
 refine Fx.mk Tryz.func258 k258 (Nat.le_of_ble_eq_true rfl) ?_
 dsimp only [c258, envOf, Nat.reduceAdd]
 refine go ?_
 refine Cx.lp (α := {i : Nat // i ≤ n ∧ (l.take i).Nodup ∧ ∀ x ∈ l.take i, 0 ≤ x ∧ x < k.n}) (fun i => [(0, .pointer (some ⟨sb, 0, none⟩)), (1, .slice a n c), (9, .slice a n c), (10, .int .i64 n), (11, .int .i64 i.1)]) (fun _ => L) (fun i => n - i.1)
  ⟨0, by omega, by simp, by simp⟩ (sub.cons rfl (sub.cons rfl (sub.cons rfl (sub.cons rfl (sub.cons rfl sub.nil))))) (Ent.refl _) ?_
 rintro ⟨i, hi, hnd, hrg⟩
 dsimp only
 refine go ?_
 refine Cx.ifp rfl (fun h => ?_) (fun h => ?_)
 ·have hv := itI_some (l := l) (i := i) (by omega)
  obtain ⟨b, o, rfl, hh⟩ := hr.get1 hv
  have hmem := itI_mem (l := l) (i := i) (by omega)
  have hbad : ∀ (hb : ¬ ((0 ≤ itI l i ∧ itI l i < k.n) ∧ itI l i ∉ l.take i)), ¬ (l.Nodup ∧ ∀ x ∈ l, 0 ≤ x ∧ x < k.n) := by
   rintro hb ⟨g1, g2⟩
   refine hb ⟨g2 _ hmem, fun hin => ?_⟩
   obtain ⟨j, hj, e⟩ := List.getElem_of_mem hin
   have hj' : j < i := by rw [List.length_take] at hj; omega
   rw [List.getElem_take] at e
   have e2 : itI l i = l[i]'(by omega) := by simp [itI, show i < l.length by omega]
   have := (List.getElem_inj g1).1 (e.trans e2)
   omega
  refine go ?_
  refine Sx.pv rfl ⟨by omega, by omega⟩ ?_
  refine Sx.ld rfl (by simpa using hh) rfl ?_
  refine go ?_
  refine Sx.ifp rfl (fun h1 => ?_) (fun h1 => ?_)
  ·refine go ?_
   exact Kr.two (.inr rfl) rfl rfl (Ent.refl _) (.inl ⟨hbad fun hg => by omega, rfl, rfl⟩)
  ·refine go ?_
   refine Sx.ifp rfl (fun h2 => ?_) (fun h2 => ?_)
   ·refine go ?_
    exact Kr.two (.inr rfl) rfl rfl (Ent.refl _) (.inl ⟨hbad fun hg => by omega, rfl, rfl⟩)
   ·refine go ?_
    refine Sx.pv rfl ⟨by omega, by omega⟩ ?_
    refine go ?_
    have hpre : Rd L 1 (some ⟨b, o, none⟩) (i : Int).toNat (ints (l.take i)) := by
     have := hr.pre (m := i) (by omega)
     rw [show (i : Int).toNat = i by omega]
     rwa [show (ints l).take i = ints (l.take i) by simp [ints]] at this
    refine Sx.ca rfl (sliceContains (xs := l.take i) (itI l i) hpre (by omega)) ?_
    rintro v L' ⟨rfl, rfl⟩
    refine go ?_
    refine Cx.ifp rfl (fun h3 => ?_) (fun h3 => ?_)
    ·refine go ?_
     exact Kr.two (.inr rfl) rfl rfl (Ent.refl _) (.inl ⟨hbad fun hg => hg.2 h3, rfl, rfl⟩)
    ·refine go ?_
     rw [w64 (by omega) (by omega)]
     have ht : l.take (i + 1) = l.take i ++ [itI l i] := by
      rw [List.take_succ_eq_append_getElem (by omega)]; simp [itI, show i < l.length by omega]
     refine Klp.nm ⟨i + 1, by omega, ?_, ?_⟩ (sub.cons rfl (sub.cons rfl (sub.cons rfl (sub.cons rfl (sub.cons rfl sub.nil))))) (Ent.refl _) (by dsimp only; omega)
     ·rw [ht, List.nodup_append]
      refine ⟨hnd, by simp, ?_⟩
      intro x hx y hy e
      rw [List.mem_singleton] at hy
      exact h3 (by rw [← hy, ← e]; exact hx)
     ·rw [ht]
      intro x hx
      rcases List.mem_append.1 hx with hx | hx
      ·exact hrg x hx
      ·rw [List.mem_singleton] at hx
       subst hx
       omega
 ·obtain rfl : i = n := by omega
  rw [← hl, List.take_length] at hnd hrg
  refine go ?_
  refine Sx.ca rfl (clone hr (ones_ints _) hn) ?_
  rintro v L' ⟨ra, ca, rfl, rfl⟩
  refine go ?_
  refine Sx.bx rfl rfl fun g => ?_
  refine go ?_
  have hok : (PushS.init l).ok k := PushS.ok_init hrg
  refine Cx.ifp rfl (fun h0 => ?_) (fun h0 => ?_)
  ·refine go ?_
   refine Kr.two (.inr rfl) rfl rfl ?_ (.inr ⟨⟨hnd, hrg⟩, g, rfl, rfl⟩)
   have hl0 : l = [] := List.length_eq_zero_iff.1 (by omega)
   refine Ent.trans (PushO.close (a := some ⟨g, 0, none⟩) (r := ra) (sb := sb) (k := k) (PushS.init l) hok ?_ ?_ rfl hl.symm rfl) ?_
   ·simp [pushNx, PushS.init, hl0]
   ·simp [pushI, PushS.init, hl0]
   ·exact ent
  ·refine go ?_
   refine Cx.ifp rfl (fun h1 => ?_) (fun h1 => ?_)
   ·refine go ?_
    refine Sx.ca rfl (machGo (b := g)) ?_
    rintro v L' ⟨rfl, rfl⟩
    refine go ?_
    refine Kr.two (.inr rfl) rfl rfl ?_ (.inr ⟨⟨hnd, hrg⟩, g, rfl, rfl⟩)
    have hl0 : l ≠ [] := fun e => by subst e; simp at hl; omega
    refine Ent.trans (PushO.close (a := some ⟨g, 0, none⟩) (r := ra) (sb := sb) (k := k) (PushS.init l) hok ?_ ?_ rfl hl.symm rfl) ?_
    ·simp [pushNx, pushFn, PushS.init, hl0, hl, show i = 1 by omega]
    ·simp [pushI, PushS.init]
    ·exact ent
   ·refine go ?_
    refine Sx.ca rfl (machGo (b := g)) ?_
    rintro v L' ⟨rfl, rfl⟩
    refine go ?_
    refine Kr.two (.inr rfl) rfl rfl ?_ (.inr ⟨⟨hnd, hrg⟩, g, rfl, rfl⟩)
    have hl0 : l ≠ [] := fun e => by subst e; simp at hl; omega
    refine Ent.trans (PushO.close (a := some ⟨g, 0, none⟩) (r := ra) (sb := sb) (k := k) (PushS.init l) hok ?_ ?_ rfl hl.symm rfl) ?_
    ·simp [pushNx, pushFn, PushS.init, hl0, hl, show 1 < i by omega]
    ·simp [pushI, PushS.init]
    ·exact ent
end
end Go.Proofs.YtflalhdofhobmaaGreat


namespace Go.Proofs.YtflalhdofhobmaaGreat
open Go
attribute [local irreducible] Sx Cx Rx Fx Krg Ksq Kbl Klp Kr
section
variable {L F G : St}
abbrev pushF (b sb mp : Nat) (k : Sk) (m : Mm) (p : PushS) (r : Option Addr) (c : Nat) (cnt : Int) (G : St) : St :=
 pt (some ⟨b, 0, none⟩) (Blk 296 [.nilFunc, .nilFunc, .nilFunc, .nilFunc, .int .i64 cnt, .pointer (some ⟨sb, 0, none⟩), .slice r p.l.length c, .int .i64 (pushI p : Nat), wd p.was]) ::
 pt r (Row 3 1 p.l.length c (ints p.l)) :: pt (some ⟨mp, 0, none⟩) (MemO m) :: pt (some ⟨sb, 0, none⟩) (SkO mp k) :: G
abbrev pushR (b sb mp : Nat) (k : Sk) (m : Mm) (p : PushS) (G : St) (v : Value) (L' : St) : Prop :=
 L' = pt (some ⟨b, 0, none⟩) (PushO sb k (pushStep k m p).1) :: pt (some ⟨mp, 0, none⟩) (MemO (pushStep k m p).2) :: pt (some ⟨sb, 0, none⟩) (SkO mp k) :: G
theorem wrapS {x : Int} (h1 : 0 ≤ x) (h2 : x ≤ 9223372036854775807) : IntKind.u64.wrap (IntKind.i64.wrap x) = ((x.toNat : Nat) : Int) := by
 rw [w64 (by omega) h2, wu64 h1 (by omega)]; omega
theorem push_link_ {b sb mp : Nat} {k : Sk} {m : Mm} {p : PushS} {r : Option Addr} {c : Nat} {cnt : Int} (hm : m.ok) (hk : k.ok m.ws.length) (hp : p.ok k) (ha : p.at_ + 1 < p.l.length) (hd : p.done = false) :
  Fx Tryz.prog 267 [.pointer (some ⟨b, 0, none⟩)] (pushF b sb mp k m p r c cnt G) (pushR b sb mp k m p G) := by
 have hok := pushStep_ok (k := k) hm hp
 have e : pushStep k m p = ({ p with at_ := p.at_ + 1 }, m.put (k.links + (itI p.l p.at_).toNat) (itI p.l (p.at_ + 1) + 1).toNat) := by
  unfold pushStep; rw [hd]; simp only [Bool.false_eq_true, if_false]; rw [if_pos ha]
 have hI : pushI p = p.at_ := by unfold pushI; omega
 have hv1 := itI_some (l := p.l) (i := p.at_) (by omega)
 have hv2 := itI_some (l := p.l) (i := p.at_ + 1) (by omega)
 have hr1 := hp.g _ (itI_mem (l := p.l) (i := p.at_) (by omega))
 have hr2 := hp.g _ (itI_mem (l := p.l) (i := p.at_ + 1) (by omega))
 obtain ⟨k1, k2, k3, k4, k5, k6⟩ := hk
 obtain ⟨x, hx⟩ : ∃ x : Nat, itI p.l p.at_ = x := ⟨(itI p.l p.at_).toNat, by omega⟩
 obtain ⟨y, hy⟩ : ∃ y : Nat, itI p.l (p.at_ + 1) = y := ⟨(itI p.l (p.at_ + 1)).toNat, by omega⟩
 have e' : pushStep k m p = ({ p with at_ := p.at_ + 1 }, m.put (k.links + x) (y + 1)) := by rw [e, hx, hy]; rfl
 rw [hx] at hr1 hv1
 rw [hy] at hr2 hv2
 refine Fx.mk Tryz.func267 k267 (Nat.le_of_ble_eq_true rfl) ?_
 dsimp only [c267, envOf, Nat.reduceAdd]
 unfold pushF
 rw [hI]
 refine Cx.rowkey (a := r) fun hxl hc1 hc2 hkr => ?_
 have hc3 : c ≤ 18446744073709551616 := by have := hc2; unfold maxLen at this; omega
 obtain ⟨rg, rfl⟩ : ∃ g, r = some ⟨g, 0, none⟩ := by
  rcases hkr with h | h
  ·omega
  ·exact h
 have hlm : p.l.length ≤ 9223372036854775807 := by unfold maxLen at hc2; omega
 refine go ?_
 refine Cx.ordc rfl (by kernel_rfl) ?_
 refine ge ?_
 refine Ev.ldrH (b := rg) (by kernel_rfl) rfl rfl (v := .int .i64 (x : Nat)) (by rw [show 0 + ((p.at_ : Int)).toNat * 1 = p.at_ by omega]; exact hv1) ?_
 refine ge ?_
 rw [w64 (n := (p.at_ : Int) + 1) (by omega) (by omega)]
 refine Ev.pvH (by kernel_rfl) rfl rfl ⟨by omega, by omega⟩ ?_
 refine Ev.ldrH (b := rg) (by kernel_rfl) rfl rfl (v := .int .i64 (y : Nat)) (by rw [show 0 + ((p.at_ : Int) + 1).toNat * 1 = p.at_ + 1 by omega]; exact hv2) ?_
 refine ge ?_
 rw [w64 (n := (k.links : Int) + x) (by omega) (by omega), show (k.links : Int) + x = ((k.links + x : Nat) : Int) by omega, wrapS (x := (y : Int) + 1) (by omega) (by omega), show ((y : Int) + 1).toNat = y + 1 by omega]
 refine Ev.caH (by kernel_rfl) rfl rfl (cellsStore (b := mp) (m := m) (k.links + x) (y + 1) (by omega) (by omega)) (Pres.deps (by kernel_rfl)) ?_
 rintro v L' ⟨rfl, rfl⟩
 refine ge ?_
 refine go ?_
 rw [w64 (n := (p.at_ : Int) + 1) (by omega) (by omega)]
 refine go ?_
 refine Cx.ordc rfl (by kernel_rfl) ?_
 refine ge ?_
 rw [w64 (n := (p.l.length : Int) - 1) (by omega) (by omega)]
 rw [e'] at hok
 have hI2 : pushI { p with at_ := p.at_ + 1 } = p.at_ + 1 := by unfold pushI; dsimp only; omega
 refine Cx.ifp rfl (fun h => ?_) (fun h => ?_)
 ·refine go ?_
  refine Sx.ca rfl (machGo (b := b)) ?_
  rintro v L' ⟨rfl, rfl⟩
  refine go ?_
  refine Kr.none (.inl rfl) ?_ rfl
  rw [e']
  refine Ent.trans (PushO.close (a := some ⟨b, 0, none⟩) (r := some ⟨rg, 0, none⟩) (sb := sb) (k := k) _ hok ?_ ?_ rfl rfl rfl) ?_
  ·simp [pushNx, pushFn, hd, show p.at_ + 1 + 1 < p.l.length by omega]
  ·rw [hI2]; rfl
  ·exact ent
 ·refine go ?_
  refine Sx.ca rfl (machGo (b := b)) ?_
  rintro v L' ⟨rfl, rfl⟩
  refine go ?_
  refine Kr.none (.inl rfl) ?_ rfl
  rw [e']
  refine Ent.trans (PushO.close (a := some ⟨b, 0, none⟩) (r := some ⟨rg, 0, none⟩) (sb := sb) (k := k) _ hok ?_ ?_ rfl rfl rfl) ?_
  ·simp [pushNx, pushFn, hd, show ¬ p.at_ + 1 + 1 < p.l.length by omega, show p.at_ + 1 + 1 = p.l.length by omega]
  ·rw [hI2]; rfl
  ·exact ent
theorem push_load_ {b sb mp : Nat} {k : Sk} {m : Mm} {p : PushS} {r : Option Addr} {c : Nat} {cnt : Int} (hm : m.ok) (hk : k.ok m.ws.length) (hp : p.ok k) (ha : p.at_ + 1 = p.l.length) (hd : p.done = false) :
  Fx Tryz.prog 266 [.pointer (some ⟨b, 0, none⟩)] (pushF b sb mp k m p r c cnt G) (pushR b sb mp k m p G) := by
 have hok := pushStep_ok (k := k) hm hp
 have e : pushStep k m p = ({ p with at_ := p.at_ + 1, was := m.at_ k.head }, m.tick) := by
  unfold pushStep; rw [hd]; simp only [Bool.false_eq_true, if_false]; rw [if_neg (by omega), if_pos ha]
 rw [e] at hok
 have hI : pushI p = p.at_ := by unfold pushI; omega
 obtain ⟨k1, k2, k3, k4, k5, k6⟩ := hk
 refine Fx.mk Tryz.func266 k266 (Nat.le_of_ble_eq_true rfl) ?_
 dsimp only [c266, envOf, Nat.reduceAdd]
 unfold pushF
 rw [hI]
 refine go ?_
 refine Cx.ordc rfl (by kernel_rfl) ?_
 refine ge ?_
 refine Ev.caH (by kernel_rfl) rfl rfl (cellsLoad (b := mp) (m := m) k.head k3) (Pres.deps (by kernel_rfl)) ?_
 rintro v L' ⟨rfl, rfl⟩
 refine ge ?_
 refine Ev.stbH (b := b) (by kernel_rfl) rfl rfl rfl rfl rfl (by rfl) rfl (Pres.deps (by kernel_rfl)) ?_
 refine ge ?_
 refine go ?_
 refine Sx.ca rfl (machGo (b := b)) ?_
 rintro v L' ⟨rfl, rfl⟩
 refine go ?_
 refine Kr.none (.inl rfl) ?_ rfl
 rw [e]
 refine Ent.trans (PushO.close (a := some ⟨b, 0, none⟩) (r := r) (sb := sb) (k := k) _ hok ?_ ?_ rfl rfl rfl) ?_
 ·simp [pushNx, pushFn, hd, ha]
 ·rw [show pushI { p with at_ := p.at_ + 1, was := m.at_ k.head } = p.at_ by unfold pushI; dsimp only; omega]
 ·exact ent
theorem push_last_ {b sb mp : Nat} {k : Sk} {m : Mm} {p : PushS} {r : Option Addr} {c : Nat} {cnt : Int} (hm : m.ok) (hk : k.ok m.ws.length) (hp : p.ok k) (ha : p.at_ = p.l.length) (hd : p.done = false) :
  Fx Tryz.prog 270 [.pointer (some ⟨b, 0, none⟩)] (pushF b sb mp k m p r c cnt G) (pushR b sb mp k m p G) := by
 have hok := pushStep_ok (k := k) hm hp
 have hlp := List.length_pos_iff.2 (hp.ne hd)
 have hv1 := itI_some (l := p.l) (i := p.l.length - 1) (by omega)
 have hr1 := hp.g _ (itI_mem (l := p.l) (i := p.l.length - 1) (by omega))
 have ht1 := k.top_ge p.was
 have ht2 := k.top_lt p.was
 obtain ⟨k1, k2, k3, k4, k5, k6⟩ := hk
 obtain ⟨x, hx⟩ : ∃ x : Nat, itI p.l (p.l.length - 1) = x := ⟨(itI p.l (p.l.length - 1)).toNat, by omega⟩
 have e : pushStep k m p = ({ p with at_ := p.at_ + 1 }, m.put (k.links + x) (k.top p.was + 1).toNat) := by
  unfold pushStep; rw [hd]; simp only [Bool.false_eq_true, if_false]; rw [if_neg (by omega), if_neg (by omega), if_pos ha, hx]; rfl
 rw [e] at hok
 rw [hx] at hr1 hv1
 have hI : pushI p = p.l.length - 1 := by unfold pushI; omega
 refine Fx.mk Tryz.func270 k270 (Nat.le_of_ble_eq_true rfl) ?_
 dsimp only [c270, envOf, Nat.reduceAdd]
 unfold pushF
 rw [hI]
 refine Cx.rowkey (a := r) fun hxl hc1 hc2 hkr => ?_
 obtain ⟨rg, rfl⟩ : ∃ g, r = some ⟨g, 0, none⟩ := by
  rcases hkr with h | h
  ·omega
  ·exact h
 have hlm : p.l.length ≤ 9223372036854775807 := by unfold maxLen at hc2; omega
 refine go ?_
 refine Cx.ordc rfl (by kernel_rfl) ?_
 refine ge ?_
 rw [w64 (n := (p.l.length : Int) - 1) (by omega) (by omega)]
 refine Ev.pvH (by kernel_rfl) rfl rfl ⟨by omega, by omega⟩ ?_
 refine Ev.ldrH (b := rg) (by kernel_rfl) rfl rfl (v := .int .i64 (x : Nat)) (by rw [show 0 + ((p.l.length : Int) - 1).toNat * 1 = p.l.length - 1 by omega]; exact hv1) ?_
 refine ge ?_
 refine Ev.cakH (by kernel_rfl) rfl rfl (stackTop (sb := sb) (mp := mp) (k := k) p.was hp.w) ?_
 refine ge ?_
 rw [w64 (n := (k.links : Int) + x) (by omega) (by omega), show (k.links : Int) + x = ((k.links + x : Nat) : Int) by omega, wrapS (x := k.top p.was + 1) (by omega) (by omega)]
 refine Ev.caH (by kernel_rfl) rfl rfl (cellsStore (b := mp) (m := m) (k.links + x) (k.top p.was + 1).toNat (by omega) (by omega)) (Pres.deps (by kernel_rfl)) ?_
 rintro v L' ⟨rfl, rfl⟩
 refine ge ?_
 refine go ?_
 refine Sx.ca rfl (machGo (b := b)) ?_
 rintro v L' ⟨rfl, rfl⟩
 refine go ?_
 refine Kr.none (.inl rfl) ?_ rfl
 rw [e]
 refine Ent.trans (PushO.close (a := some ⟨b, 0, none⟩) (r := some ⟨rg, 0, none⟩) (sb := sb) (k := k) _ hok ?_ ?_ rfl rfl rfl) ?_
 ·(unfold pushNx pushFn; dsimp only; rw [hd]; (first | rw [if_pos (by omega)] | rw [if_neg (by omega), if_pos (by omega)] | rw [if_neg (by omega), if_neg (by omega), if_pos (by omega)] | rw [if_neg (by omega), if_neg (by omega), if_neg (by omega)]); rfl)
 ·rw [show pushI { p with at_ := p.at_ + 1 } = p.l.length - 1 by unfold pushI; dsimp only; omega]
 ·exact ent
theorem push_cas_ {b sb mp : Nat} {k : Sk} {m : Mm} {p : PushS} {r : Option Addr} {c : Nat} {cnt : Int} (hm : m.ok) (hk : k.ok m.ws.length) (hp : p.ok k) (ha : p.at_ = p.l.length + 1) (hd : p.done = false) :
  Fx Tryz.prog 272 [.pointer (some ⟨b, 0, none⟩)] (pushF b sb mp k m p r c cnt G) (pushR b sb mp k m p G) := by
 have hok := pushStep_ok (k := k) hm hp
 have hlp := List.length_pos_iff.2 (hp.ne hd)
 have hv1 := itI_some (l := p.l) (i := 0) (by omega)
 have hr1 := hp.g _ (itI_mem (l := p.l) (i := 0) (by omega))
 have e : pushStep k m p = ({ p with at_ := p.l.length - 1, done := decide (m.at_ k.head = p.was) }, m.cas k.head p.was (nextW p.was (itI p.l 0))) := by
  unfold pushStep; rw [hd]; simp only [Bool.false_eq_true, if_false]; rw [if_neg (by omega), if_neg (by omega), if_neg (by omega)]
 rw [e] at hok
 have hI : pushI p = p.l.length - 1 := by unfold pushI; omega
 refine Fx.mk Tryz.func272 k272 (Nat.le_of_ble_eq_true rfl) ?_
 dsimp only [c272, envOf, Nat.reduceAdd]
 unfold pushF
 rw [hI]
 refine Cx.rowkey (a := r) fun hxl hc1 hc2 hkr => ?_
 obtain ⟨rg, rfl⟩ : ∃ g, r = some ⟨g, 0, none⟩ := by
  rcases hkr with h | h
  ·omega
  ·exact h
 refine go ?_
 refine Cx.ordc rfl (by kernel_rfl) ?_
 refine ge ?_
 refine Ev.ldrH (b := rg) (by kernel_rfl) rfl rfl (v := .int .i64 (itI p.l 0)) hv1 ?_
 refine ge ?_
 refine Ev.caH (by kernel_rfl) rfl rfl (stackExchange (sb := sb) (mp := mp) (k := k) (m := m) p.was (itI p.l 0) hk hp.w (by omega) hr1.2) (Pres.deps (by kernel_rfl)) ?_
 rintro v L' ⟨rfl, rfl⟩
 refine ge ?_
 have hI2 : ∀ d, pushI { p with at_ := p.l.length - 1, done := d } = p.l.length - 1 := fun d => by unfold pushI; dsimp only; omega
 refine Cx.ifn rfl (fun h => ?_) (fun h => ?_)
 ·rw [decide_eq_false h] at e hok
  refine go ?_
  refine Sx.ca rfl (machGo (b := b)) ?_
  rintro v L' ⟨rfl, rfl⟩
  refine go ?_
  refine Kr.none (.inl rfl) ?_ rfl
  rw [e]
  refine Ent.trans (PushO.close (a := some ⟨b, 0, none⟩) (r := some ⟨rg, 0, none⟩) (sb := sb) (k := k) _ hok ?_ ?_ rfl rfl rfl) ?_
  ·simp [pushNx, pushFn, show ¬ p.l.length - 1 + 1 < p.l.length by omega, show p.l.length - 1 + 1 = p.l.length by omega]
  ·rw [hI2]
  ·exact ent
 ·rw [decide_eq_true h] at e hok
  refine go ?_
  refine Kr.none (.inl rfl) ?_ rfl
  rw [e]
  refine Ent.trans (PushO.close (a := some ⟨b, 0, none⟩) (r := some ⟨rg, 0, none⟩) (sb := sb) (k := k) _ hok ?_ ?_ rfl rfl rfl) ?_
  ·simp [pushNx]
  ·rw [hI2]
  ·exact ent
theorem pushStepC {b sb mp : Nat} {k : Sk} {m : Mm} {p : PushS} {F1 F2 : St} (hk : k.ok m.ws.length) [tp : Take L (some ⟨b, 0, none⟩) (PushO sb k p) F1] [t : Take F1 (some ⟨mp, 0, none⟩) (MemO m) F2] [s : Take F2 (some ⟨sb, 0, none⟩) (SkO mp k) G] :
  Fx Tryz.prog 239 [.pointer (some ⟨b, 0, none⟩)] L (fun v L' => v = .bool (!p.done) ∧ L' = pt (some ⟨b, 0, none⟩) (PushO sb k (pushStep k m p).1) :: pt (some ⟨mp, 0, none⟩) (MemO (pushStep k m p).2) :: F2) := by
 refine Fx.mk Tryz.func239 k239 (Nat.le_of_ble_eq_true rfl) ?_
 dsimp only [c239, envOf, Nat.reduceAdd]
 refine Cx.ent (Ent.trans (Ent.of tp.out) (Ent.cons (Ent.trans (Ent.of t.out) (Ent.cons (Ent.of s.out))))) ?_
 refine Cx.pure (memKey (b := mp) (m := m)) fun hm => ?_
 refine Cx.openp (a := some ⟨b, 0, none⟩) rfl ?_
 rintro ⟨⟨r, c⟩, cnt⟩
 simp only [pushL, List.cons_append, List.nil_append]
 refine Cx.liftp fun hp => ?_
 cases hd : p.done with
 | true =>
   have e : pushStep k m p = (p, m) := by unfold pushStep; rw [hd]; rfl
   rw [e, show pushNx (some ⟨b, 0, none⟩) p = .nilFunc by simp [pushNx, hd]]
   refine go ?_
   refine Sx.ca rfl (machStepDone (b := b)) ?_
   rintro v L' ⟨rfl, rfl⟩
   refine go ?_
   refine Kr.one (.inr rfl) rfl ?_ ⟨rfl, rfl⟩
   refine Ent.trans (PushO.close (a := some ⟨b, 0, none⟩) (r := r) (sb := sb) (k := k) p hp ?_ rfl rfl rfl rfl) (Ent.cons (Ent.cons (Ent.of s.back)))
   simp [pushNx, hd]
 | false =>
   have hcase := hp.a
   rcases (show p.at_ + 1 < p.l.length ∨ p.at_ + 1 = p.l.length ∨ p.at_ = p.l.length ∨ p.at_ = p.l.length + 1 by omega) with ha | ha | ha | ha
   ·rw [show pushNx (some ⟨b, 0, none⟩) p = .func (.func 267) #[.pointer (some ⟨b, 0, none⟩)] #[] by (unfold pushNx pushFn; rw [hd]; (first | rw [if_pos (by omega)] | rw [if_neg (by omega), if_pos (by omega)] | rw [if_neg (by omega), if_neg (by omega), if_pos (by omega)] | rw [if_neg (by omega), if_neg (by omega), if_neg (by omega)]); rfl)]
    refine go ?_
    refine Sx.ca rfl (machStep (b := b) (by kernel_rfl) (push_link_ (G := G) hm.1 hk hp ha hd)) ?_
    rintro v L' ⟨rfl, u, rfl⟩
    refine go ?_
    exact Kr.one (.inr rfl) rfl (Ent.cons (Ent.cons (Ent.of s.back))) ⟨rfl, rfl⟩
   ·rw [show pushNx (some ⟨b, 0, none⟩) p = .func (.func 266) #[.pointer (some ⟨b, 0, none⟩)] #[] by (unfold pushNx pushFn; rw [hd]; (first | rw [if_pos (by omega)] | rw [if_neg (by omega), if_pos (by omega)] | rw [if_neg (by omega), if_neg (by omega), if_pos (by omega)] | rw [if_neg (by omega), if_neg (by omega), if_neg (by omega)]); rfl)]
    refine go ?_
    refine Sx.ca rfl (machStep (b := b) (by kernel_rfl) (push_load_ (G := G) hm.1 hk hp ha hd)) ?_
    rintro v L' ⟨rfl, u, rfl⟩
    refine go ?_
    exact Kr.one (.inr rfl) rfl (Ent.cons (Ent.cons (Ent.of s.back))) ⟨rfl, rfl⟩
   ·rw [show pushNx (some ⟨b, 0, none⟩) p = .func (.func 270) #[.pointer (some ⟨b, 0, none⟩)] #[] by (unfold pushNx pushFn; rw [hd]; (first | rw [if_pos (by omega)] | rw [if_neg (by omega), if_pos (by omega)] | rw [if_neg (by omega), if_neg (by omega), if_pos (by omega)] | rw [if_neg (by omega), if_neg (by omega), if_neg (by omega)]); rfl)]
    refine go ?_
    refine Sx.ca rfl (machStep (b := b) (by kernel_rfl) (push_last_ (G := G) hm.1 hk hp ha hd)) ?_
    rintro v L' ⟨rfl, u, rfl⟩
    refine go ?_
    exact Kr.one (.inr rfl) rfl (Ent.cons (Ent.cons (Ent.of s.back))) ⟨rfl, rfl⟩
   ·rw [show pushNx (some ⟨b, 0, none⟩) p = .func (.func 272) #[.pointer (some ⟨b, 0, none⟩)] #[] by (unfold pushNx pushFn; rw [hd]; (first | rw [if_pos (by omega)] | rw [if_neg (by omega), if_pos (by omega)] | rw [if_neg (by omega), if_neg (by omega), if_pos (by omega)] | rw [if_neg (by omega), if_neg (by omega), if_neg (by omega)]); rfl)]
    refine go ?_
    refine Sx.ca rfl (machStep (b := b) (by kernel_rfl) (push_cas_ (G := G) hm.1 hk hp ha hd)) ?_
    rintro v L' ⟨rfl, u, rfl⟩
    refine go ?_
    exact Kr.one (.inr rfl) rfl (Ent.cons (Ent.cons (Ent.of s.back))) ⟨rfl, rfl⟩
theorem pushDoneC {b sb : Nat} {k : Sk} {p : PushS} {F1 : St} [tp : Take L (some ⟨b, 0, none⟩) (PushO sb k p) F1] : Fx Tryz.prog 240 [.pointer (some ⟨b, 0, none⟩)] L (fun v L' => v = .bool p.done ∧ L = L') := by
 refine Fx.kept (t := tp) ?_
 refine Fx.mk Tryz.func240 k240 (Nat.le_of_ble_eq_true rfl) ?_
 dsimp only [c240, envOf, Nat.reduceAdd]
 refine Cx.openp (t := tp) rfl ?_
 rintro ⟨⟨r, c⟩, cnt⟩
 simp only [pushL, List.cons_append, List.nil_append]
 refine Cx.liftp fun hp => ?_
 cases hd : p.done with
 | true =>
   have e : pushNx (some ⟨b, 0, none⟩) p = .nilFunc := by simp [pushNx, hd]
   rw [e]
   refine go ?_
   refine Sx.ca rfl (machDoneYes (b := b)) ?_
   rintro v L' ⟨rfl, rfl⟩
   refine go ?_
   exact Kr.one (.inr rfl) rfl (PushO.close (a := some ⟨b, 0, none⟩) (r := r) (sb := sb) (k := k) p hp e.symm rfl rfl rfl rfl) ⟨rfl, rfl⟩
 | false =>
   have e : pushNx (some ⟨b, 0, none⟩) p = .func (.func (pushFn p)) #[.pointer (some ⟨b, 0, none⟩)] #[] := by simp [pushNx, hd]
   rw [e]
   refine go ?_
   refine Sx.ca rfl (machDoneNo (b := b)) ?_
   rintro v L' ⟨rfl, rfl⟩
   refine go ?_
   exact Kr.one (.inr rfl) rfl (PushO.close (a := some ⟨b, 0, none⟩) (r := r) (sb := sb) (k := k) p hp e.symm rfl rfl rfl rfl) ⟨rfl, rfl⟩
end
end Go.Proofs.YtflalhdofhobmaaGreat
