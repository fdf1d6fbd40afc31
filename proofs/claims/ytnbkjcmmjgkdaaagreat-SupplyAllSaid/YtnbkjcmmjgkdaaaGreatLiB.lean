/-
  The limbo's contracts: Len, Bucket.
-/
import Derived.Test.YtnbkjcmmjgkdaaaGreatLiA
set_option linter.unusedVariables false
set_option linter.unusedSimpArgs false
namespace Go.Proofs.YtnbkjcmmjgkdaaaGreat
open Go
attribute [local irreducible] Sx Cx Rx Fx Krg Ksq Kbl Klp Kr

section
variable {L F : St}
theorem limboLen {b : Nat} {m : Lm} {F : St} [t : Take L (some ⟨b, 0, none⟩) (LimboO m) F] (hb : m.size ≤ 1000000000) :
    Fx Tryz.prog 122 [.pointer (some ⟨b, 0, none⟩)] L (fun v L' => v = .int .i64 m.size ∧ L' = pt (some ⟨b, 0, none⟩) (LimboO m) :: F) := by
  have hs : m.size = m.x0.length + m.x1.length + m.x2.length := rfl
  refine Fx.mk Tryz.func122 k122 (Nat.le_of_ble_eq_true rfl) ?_
  dsimp only [c122, envOf, Nat.reduceAdd]
  refine Cx.openp (t := t) rfl ?_
  rintro ⟨⟨r0, c0⟩, ⟨r1, c1⟩, ⟨r2, c2⟩⟩
  simp only [List.cons_append, List.nil_append]
  repeat' (first|refine Zo0 rfl ?_|refine Zo1 ?_|refine Zo2 ?_|refine Zo3 ?_|refine Zo4 ?_|refine Zo5 ?_|refine Zo6 ?_|refine Zo7 ?_|refine Zo8 rfl ?_|refine Zo9 rfl ?_|refine Zoa ?_|refine Zob ?_|refine Zoc ?_|refine Zod ?_|refine Zoe ?_|refine Zof ?_|refine Zog ?_|refine Zoh ?_|refine Zoi rfl ?_|refine Zoj rfl ?_|refine Zok rfl ?_|refine Zol rfl ?_|refine Zom rfl (by rfl) ?_|refine Zon rfl rfl ?_|refine Zoo rfl rfl rfl rfl (by rfl) (by rfl) ?_|refine Zop rfl trivial ?_|refine Zoq rfl rfl rfl ?_)
  generalize hM : (pt (some ⟨b, 0, none⟩) (Blk 230 [.int .i64 m.t0, .slice r0 m.x0.length c0, .int .i64 m.t1, .slice r1 m.x1.length c1, .int .i64 m.t2, .slice r2 m.x2.length c2, .int .i64 m.last]) ::
    pt r0 (Row 3 1 m.x0.length c0 (ints m.x0)) :: pt r1 (Row 3 1 m.x1.length c1 (ints m.x1)) :: pt r2 (Row 3 1 m.x2.length c2 (ints m.x2)) :: F) = M
  refine Cx.lp (α := {i : Nat // i ≤ 3}) (fun i => [(3, .int .i64 (((List.range i.1).map fun k => (m.items k).length).sum : Nat)), (9, .agg #[.int .i64 m.t0, .slice r0 m.x0.length c0, .int .i64 m.t1, .slice r1 m.x1.length c1, .int .i64 m.t2, .slice r2 m.x2.length c2]), (10, .int .i64 i.1)])
    (fun _ => M) (fun i => 3 - i.1) ⟨0, by omega⟩ (sub.cons rfl (sub.cons rfl (sub.cons rfl sub.nil))) (Ent.refl _) ?_
  rintro ⟨i, hi⟩
  dsimp only
  rcases (show i = 0 ∨ i = 1 ∨ i = 2 ∨ i = 3 by omega) with rfl | rfl | rfl | rfl
  · repeat' (first|refine Zo0 rfl ?_|refine Zo1 ?_|refine Zo2 ?_|refine Zo3 ?_|refine Zo4 ?_|refine Zo5 ?_|refine Zo6 ?_|refine Zo7 ?_|refine Zo8 rfl ?_|refine Zo9 rfl ?_|refine Zoa ?_|refine Zob ?_|refine Zoc ?_|refine Zod ?_|refine Zoe ?_|refine Zof ?_|refine Zog ?_|refine Zoh ?_|refine Zoi rfl ?_|refine Zoj rfl ?_|refine Zok rfl ?_|refine Zol rfl ?_|refine Zom rfl (by rfl) ?_|refine Zon rfl rfl ?_|refine Zoo rfl rfl rfl rfl (by rfl) (by rfl) ?_|refine Zop rfl trivial ?_|refine Zoq rfl rfl rfl ?_)
    refine Sx.pv rfl ⟨by omega, by omega⟩ ?_
    refine Sx.al fun g => ?_
    refine Sx.st (b := g) rfl rfl rfl rfl rfl rfl ?_
    dsimp only [lay]
    repeat' (first|refine Zo0 rfl ?_|refine Zo1 ?_|refine Zo2 ?_|refine Zo3 ?_|refine Zo4 ?_|refine Zo5 ?_|refine Zo6 ?_|refine Zo7 ?_|refine Zo8 rfl ?_|refine Zo9 rfl ?_|refine Zoa ?_|refine Zob ?_|refine Zoc ?_|refine Zod ?_|refine Zoe ?_|refine Zof ?_|refine Zog ?_|refine Zoh ?_|refine Zoi rfl ?_|refine Zoj rfl ?_|refine Zok rfl ?_|refine Zol rfl ?_|refine Zom rfl (by rfl) ?_|refine Zon rfl rfl ?_|refine Zoo rfl rfl rfl rfl (by rfl) (by rfl) ?_|refine Zop rfl trivial ?_|refine Zoq rfl rfl rfl ?_)
    refine Klp.nm ⟨1, by omega⟩ (sub.cons ?_ (sub.cons rfl (sub.cons rfl sub.nil))) (Ent.drop) (by simp)
    simp only [List.range_succ, List.range_zero, List.nil_append, List.map_append, List.map_cons, List.map_nil, List.sum_append, List.sum_cons, List.sum_nil, Nat.zero_add, Nat.add_zero]
    refine congrArg (fun z => some (Value.int .i64 z)) ?_
    refine Eq.trans (w64 (by simp [Lm.items]) (by simp [Lm.items]; omega)) ?_
    simp [Lm.items]
  · repeat' (first|refine Zo0 rfl ?_|refine Zo1 ?_|refine Zo2 ?_|refine Zo3 ?_|refine Zo4 ?_|refine Zo5 ?_|refine Zo6 ?_|refine Zo7 ?_|refine Zo8 rfl ?_|refine Zo9 rfl ?_|refine Zoa ?_|refine Zob ?_|refine Zoc ?_|refine Zod ?_|refine Zoe ?_|refine Zof ?_|refine Zog ?_|refine Zoh ?_|refine Zoi rfl ?_|refine Zoj rfl ?_|refine Zok rfl ?_|refine Zol rfl ?_|refine Zom rfl (by rfl) ?_|refine Zon rfl rfl ?_|refine Zoo rfl rfl rfl rfl (by rfl) (by rfl) ?_|refine Zop rfl trivial ?_|refine Zoq rfl rfl rfl ?_)
    refine Sx.pv rfl ⟨by omega, by omega⟩ ?_
    refine Sx.al fun g => ?_
    refine Sx.st (b := g) rfl rfl rfl rfl rfl rfl ?_
    dsimp only [lay]
    repeat' (first|refine Zo0 rfl ?_|refine Zo1 ?_|refine Zo2 ?_|refine Zo3 ?_|refine Zo4 ?_|refine Zo5 ?_|refine Zo6 ?_|refine Zo7 ?_|refine Zo8 rfl ?_|refine Zo9 rfl ?_|refine Zoa ?_|refine Zob ?_|refine Zoc ?_|refine Zod ?_|refine Zoe ?_|refine Zof ?_|refine Zog ?_|refine Zoh ?_|refine Zoi rfl ?_|refine Zoj rfl ?_|refine Zok rfl ?_|refine Zol rfl ?_|refine Zom rfl (by rfl) ?_|refine Zon rfl rfl ?_|refine Zoo rfl rfl rfl rfl (by rfl) (by rfl) ?_|refine Zop rfl trivial ?_|refine Zoq rfl rfl rfl ?_)
    refine Klp.nm ⟨2, by omega⟩ (sub.cons ?_ (sub.cons rfl (sub.cons rfl sub.nil))) (Ent.drop) (by simp)
    simp only [List.range_succ, List.range_zero, List.nil_append, List.map_append, List.map_cons, List.map_nil, List.sum_append, List.sum_cons, List.sum_nil, Nat.zero_add, Nat.add_zero]
    refine congrArg (fun z => some (Value.int .i64 z)) ?_
    refine Eq.trans (w64 (by simp [Lm.items]; omega) (by simp [Lm.items]; omega)) ?_
    simp [Lm.items]
  · repeat' (first|refine Zo0 rfl ?_|refine Zo1 ?_|refine Zo2 ?_|refine Zo3 ?_|refine Zo4 ?_|refine Zo5 ?_|refine Zo6 ?_|refine Zo7 ?_|refine Zo8 rfl ?_|refine Zo9 rfl ?_|refine Zoa ?_|refine Zob ?_|refine Zoc ?_|refine Zod ?_|refine Zoe ?_|refine Zof ?_|refine Zog ?_|refine Zoh ?_|refine Zoi rfl ?_|refine Zoj rfl ?_|refine Zok rfl ?_|refine Zol rfl ?_|refine Zom rfl (by rfl) ?_|refine Zon rfl rfl ?_|refine Zoo rfl rfl rfl rfl (by rfl) (by rfl) ?_|refine Zop rfl trivial ?_|refine Zoq rfl rfl rfl ?_)
    refine Sx.pv rfl ⟨by omega, by omega⟩ ?_
    refine Sx.al fun g => ?_
    refine Sx.st (b := g) rfl rfl rfl rfl rfl rfl ?_
    dsimp only [lay]
    repeat' (first|refine Zo0 rfl ?_|refine Zo1 ?_|refine Zo2 ?_|refine Zo3 ?_|refine Zo4 ?_|refine Zo5 ?_|refine Zo6 ?_|refine Zo7 ?_|refine Zo8 rfl ?_|refine Zo9 rfl ?_|refine Zoa ?_|refine Zob ?_|refine Zoc ?_|refine Zod ?_|refine Zoe ?_|refine Zof ?_|refine Zog ?_|refine Zoh ?_|refine Zoi rfl ?_|refine Zoj rfl ?_|refine Zok rfl ?_|refine Zol rfl ?_|refine Zom rfl (by rfl) ?_|refine Zon rfl rfl ?_|refine Zoo rfl rfl rfl rfl (by rfl) (by rfl) ?_|refine Zop rfl trivial ?_|refine Zoq rfl rfl rfl ?_)
    refine Klp.nm ⟨3, by omega⟩ (sub.cons ?_ (sub.cons rfl (sub.cons rfl sub.nil))) (Ent.drop) (by simp)
    simp only [List.range_succ, List.range_zero, List.nil_append, List.map_append, List.map_cons, List.map_nil, List.sum_append, List.sum_cons, List.sum_nil, Nat.zero_add, Nat.add_zero]
    refine congrArg (fun z => some (Value.int .i64 z)) ?_
    refine Eq.trans (w64 (by simp [Lm.items]; omega) (by simp [Lm.items]; omega)) ?_
    simp [Lm.items]
  · repeat' (first|refine Zo0 rfl ?_|refine Zo1 ?_|refine Zo2 ?_|refine Zo3 ?_|refine Zo4 ?_|refine Zo5 ?_|refine Zo6 ?_|refine Zo7 ?_|refine Zo8 rfl ?_|refine Zo9 rfl ?_|refine Zoa ?_|refine Zob ?_|refine Zoc ?_|refine Zod ?_|refine Zoe ?_|refine Zof ?_|refine Zog ?_|refine Zoh ?_|refine Zoi rfl ?_|refine Zoj rfl ?_|refine Zok rfl ?_|refine Zol rfl ?_|refine Zom rfl (by rfl) ?_|refine Zon rfl rfl ?_|refine Zoo rfl rfl rfl rfl (by rfl) (by rfl) ?_|refine Zop rfl trivial ?_|refine Zoq rfl rfl rfl ?_)
    subst hM
    refine Kr.one (.inr rfl) rfl (LimboO.close (a := some ⟨b, 0, none⟩) (r0 := r0) (r1 := r1) (r2 := r2) m rfl rfl rfl rfl rfl rfl rfl rfl rfl rfl) ⟨?_, rfl⟩
    simp [List.range_succ, Lm.items, hs]
    omega
/-- What a bucket tells. -/
theorem limboBucket {b : Nat} {m : Lm} {k : Int} {F : St} [t : Take L (some ⟨b, 0, none⟩) (LimboO m) F] (hb : m.size ≤ 1000000000) :
    Fx Tryz.prog 116 [.pointer (some ⟨b, 0, none⟩), .int .i64 k] L (fun v L' =>
      ((k < 0 ∨ 3 ≤ k ∨ m.items k.toNat = []) ∧ v = .tuple #[.int .i64 0, .slice none 0 0] ∧ L' = pt (some ⟨b, 0, none⟩) (LimboO m) :: F) ∨
      (¬ (k < 0 ∨ 3 ≤ k ∨ m.items k.toNat = []) ∧ ∃ ro co, v = .tuple #[.int .i64 (m.tag k.toNat), .slice ro (m.items k.toNat).length co] ∧ L' = pt ro (Row 3 1 (m.items k.toNat).length co (ints (m.items k.toNat))) :: pt (some ⟨b, 0, none⟩) (LimboO m) :: F)) := by
  have hs : m.size = m.x0.length + m.x1.length + m.x2.length := rfl
  refine Fx.mk Tryz.func116 k116 (Nat.le_of_ble_eq_true rfl) ?_
  dsimp only [c116, envOf, Nat.reduceAdd]
  refine Cx.openp (t := t) rfl ?_
  rintro ⟨⟨r0, c0⟩, ⟨r1, c1⟩, ⟨r2, c2⟩⟩
  simp only [List.cons_append, List.nil_append]
  refine Cx.rowkey (a := r0) fun hx0 hn0 _ hk0 => ?_
  refine Cx.rowkey (a := r1) fun hx1 hn1 _ hk1 => ?_
  refine Cx.rowkey (a := r2) fun hx2 hn2 _ hk2 => ?_
  repeat' (first|refine Zo0 rfl ?_|refine Zo1 ?_|refine Zo2 ?_|refine Zo3 ?_|refine Zo4 ?_|refine Zo5 ?_|refine Zo6 ?_|refine Zo7 ?_|refine Zo8 rfl ?_|refine Zo9 rfl ?_|refine Zoa ?_|refine Zob ?_|refine Zoc ?_|refine Zod ?_|refine Zoe ?_|refine Zof ?_|refine Zog ?_|refine Zoh ?_|refine Zoi rfl ?_|refine Zoj rfl ?_|refine Zok rfl ?_|refine Zol rfl ?_|refine Zom rfl (by rfl) ?_|refine Zon rfl rfl ?_|refine Zoo rfl rfl rfl rfl (by rfl) (by rfl) ?_|refine Zop rfl trivial ?_|refine Zoq rfl rfl rfl ?_)
  refine Sx.ifp rfl (fun h1 => ?_) (fun h1 => ?_)
  · repeat' (first|refine Zo0 rfl ?_|refine Zo1 ?_|refine Zo2 ?_|refine Zo3 ?_|refine Zo4 ?_|refine Zo5 ?_|refine Zo6 ?_|refine Zo7 ?_|refine Zo8 rfl ?_|refine Zo9 rfl ?_|refine Zoa ?_|refine Zob ?_|refine Zoc ?_|refine Zod ?_|refine Zoe ?_|refine Zof ?_|refine Zog ?_|refine Zoh ?_|refine Zoi rfl ?_|refine Zoj rfl ?_|refine Zok rfl ?_|refine Zol rfl ?_|refine Zom rfl (by rfl) ?_|refine Zon rfl rfl ?_|refine Zoo rfl rfl rfl rfl (by rfl) (by rfl) ?_|refine Zop rfl trivial ?_|refine Zoq rfl rfl rfl ?_)
    exact Kr.two (.inr rfl) rfl rfl (LimboO.close (a := some ⟨b, 0, none⟩) (r0 := r0) (r1 := r1) (r2 := r2) m rfl rfl rfl rfl rfl rfl rfl rfl rfl rfl) (.inl ⟨.inl h1, rfl, rfl⟩)
  repeat' (first|refine Zo0 rfl ?_|refine Zo1 ?_|refine Zo2 ?_|refine Zo3 ?_|refine Zo4 ?_|refine Zo5 ?_|refine Zo6 ?_|refine Zo7 ?_|refine Zo8 rfl ?_|refine Zo9 rfl ?_|refine Zoa ?_|refine Zob ?_|refine Zoc ?_|refine Zod ?_|refine Zoe ?_|refine Zof ?_|refine Zog ?_|refine Zoh ?_|refine Zoi rfl ?_|refine Zoj rfl ?_|refine Zok rfl ?_|refine Zol rfl ?_|refine Zom rfl (by rfl) ?_|refine Zon rfl rfl ?_|refine Zoo rfl rfl rfl rfl (by rfl) (by rfl) ?_|refine Zop rfl trivial ?_|refine Zoq rfl rfl rfl ?_)
  refine Sx.ifp rfl (fun h2 => ?_) (fun h2 => ?_)
  · repeat' (first|refine Zo0 rfl ?_|refine Zo1 ?_|refine Zo2 ?_|refine Zo3 ?_|refine Zo4 ?_|refine Zo5 ?_|refine Zo6 ?_|refine Zo7 ?_|refine Zo8 rfl ?_|refine Zo9 rfl ?_|refine Zoa ?_|refine Zob ?_|refine Zoc ?_|refine Zod ?_|refine Zoe ?_|refine Zof ?_|refine Zog ?_|refine Zoh ?_|refine Zoi rfl ?_|refine Zoj rfl ?_|refine Zok rfl ?_|refine Zol rfl ?_|refine Zom rfl (by rfl) ?_|refine Zon rfl rfl ?_|refine Zoo rfl rfl rfl rfl (by rfl) (by rfl) ?_|refine Zop rfl trivial ?_|refine Zoq rfl rfl rfl ?_)
    exact Kr.two (.inr rfl) rfl rfl (LimboO.close (a := some ⟨b, 0, none⟩) (r0 := r0) (r1 := r1) (r2 := r2) m rfl rfl rfl rfl rfl rfl rfl rfl rfl rfl) (.inl ⟨.inr (.inl h2), rfl, rfl⟩)
  rcases (show k = 0 ∨ k = 1 ∨ k = 2 by omega) with rfl | rfl | rfl
  · repeat' (first|refine Zo0 rfl ?_|refine Zo1 ?_|refine Zo2 ?_|refine Zo3 ?_|refine Zo4 ?_|refine Zo5 ?_|refine Zo6 ?_|refine Zo7 ?_|refine Zo8 rfl ?_|refine Zo9 rfl ?_|refine Zoa ?_|refine Zob ?_|refine Zoc ?_|refine Zod ?_|refine Zoe ?_|refine Zof ?_|refine Zog ?_|refine Zoh ?_|refine Zoi rfl ?_|refine Zoj rfl ?_|refine Zok rfl ?_|refine Zol rfl ?_|refine Zom rfl (by rfl) ?_|refine Zon rfl rfl ?_|refine Zoo rfl rfl rfl rfl (by rfl) (by rfl) ?_|refine Zop rfl trivial ?_|refine Zoq rfl rfl rfl ?_)
    refine Sx.pv rfl ⟨by omega, by omega⟩ ?_
    repeat' (first|refine Zo0 rfl ?_|refine Zo1 ?_|refine Zo2 ?_|refine Zo3 ?_|refine Zo4 ?_|refine Zo5 ?_|refine Zo6 ?_|refine Zo7 ?_|refine Zo8 rfl ?_|refine Zo9 rfl ?_|refine Zoa ?_|refine Zob ?_|refine Zoc ?_|refine Zod ?_|refine Zoe ?_|refine Zof ?_|refine Zog ?_|refine Zoh ?_|refine Zoi rfl ?_|refine Zoj rfl ?_|refine Zok rfl ?_|refine Zol rfl ?_|refine Zom rfl (by rfl) ?_|refine Zon rfl rfl ?_|refine Zoo rfl rfl rfl rfl (by rfl) (by rfl) ?_|refine Zop rfl trivial ?_|refine Zoq rfl rfl rfl ?_)
    refine Cx.ifp rfl (fun h3 => ?_) (fun h3 => ?_)
    · repeat' (first|refine Zo0 rfl ?_|refine Zo1 ?_|refine Zo2 ?_|refine Zo3 ?_|refine Zo4 ?_|refine Zo5 ?_|refine Zo6 ?_|refine Zo7 ?_|refine Zo8 rfl ?_|refine Zo9 rfl ?_|refine Zoa ?_|refine Zob ?_|refine Zoc ?_|refine Zod ?_|refine Zoe ?_|refine Zof ?_|refine Zog ?_|refine Zoh ?_|refine Zoi rfl ?_|refine Zoj rfl ?_|refine Zok rfl ?_|refine Zol rfl ?_|refine Zom rfl (by rfl) ?_|refine Zon rfl rfl ?_|refine Zoo rfl rfl rfl rfl (by rfl) (by rfl) ?_|refine Zop rfl trivial ?_|refine Zoq rfl rfl rfl ?_)
      exact Kr.two (.inr rfl) rfl rfl (LimboO.close (a := some ⟨b, 0, none⟩) (r0 := r0) (r1 := r1) (r2 := r2) m rfl rfl rfl rfl rfl rfl rfl rfl rfl rfl) (.inl ⟨.inr (.inr (List.eq_nil_of_length_eq_zero (by simpa [Lm.items] using h3))), rfl, rfl⟩)
    repeat' (first|refine Zo0 rfl ?_|refine Zo1 ?_|refine Zo2 ?_|refine Zo3 ?_|refine Zo4 ?_|refine Zo5 ?_|refine Zo6 ?_|refine Zo7 ?_|refine Zo8 rfl ?_|refine Zo9 rfl ?_|refine Zoa ?_|refine Zob ?_|refine Zoc ?_|refine Zod ?_|refine Zoe ?_|refine Zof ?_|refine Zog ?_|refine Zoh ?_|refine Zoi rfl ?_|refine Zoj rfl ?_|refine Zok rfl ?_|refine Zol rfl ?_|refine Zom rfl (by rfl) ?_|refine Zon rfl rfl ?_|refine Zoo rfl rfl rfl rfl (by rfl) (by rfl) ?_|refine Zop rfl trivial ?_|refine Zoq rfl rfl rfl ?_)
    refine Cx.rd ?_
    refine Rx.pvs rfl ?_
    refine Rx.pv 0 rfl rfl rfl ⟨by omega, by omega⟩ rfl rfl ?_
    refine Rx.pvs rfl ?_
    refine Rx.ldbK 0 rfl rfl rfl (by rfl) rfl rfl ?_
    refine Rx.pv 0 rfl rfl rfl ⟨by omega, by omega⟩ rfl rfl ?_
    refine Rx.pvs rfl ?_
    refine Rx.ldbK 0 rfl rfl rfl (by rfl) rfl rfl ?_
    refine Rx.pvs rfl ?_
    refine Rx.one rfl rfl rfl ?_
    refine Sx.ca rfl (clone (Rd.any (a := r0) hx0 (hk0.imp (fun h => h.2.1) id)) (ones_ints _) (by omega)) ?_
    rintro v L' ⟨ra, ca, rfl, rfl⟩
    refine Sx.nil ⟨⟨⟨trivial, Has.cell rfl⟩, Has.cell rfl⟩, ?_⟩
    refine Rx.pvs rfl ?_
    refine Rx.nil ?_
    repeat' (first|refine Zo0 rfl ?_|refine Zo1 ?_|refine Zo2 ?_|refine Zo3 ?_|refine Zo4 ?_|refine Zo5 ?_|refine Zo6 ?_|refine Zo7 ?_|refine Zo8 rfl ?_|refine Zo9 rfl ?_|refine Zoa ?_|refine Zob ?_|refine Zoc ?_|refine Zod ?_|refine Zoe ?_|refine Zof ?_|refine Zog ?_|refine Zoh ?_|refine Zoi rfl ?_|refine Zoj rfl ?_|refine Zok rfl ?_|refine Zol rfl ?_|refine Zom rfl (by rfl) ?_|refine Zon rfl rfl ?_|refine Zoo rfl rfl rfl rfl (by rfl) (by rfl) ?_|refine Zop rfl trivial ?_|refine Zoq rfl rfl rfl ?_)
    refine Kr.two (.inr rfl) rfl rfl ?_ (.inr ⟨?_, ra, ca, rfl, rfl⟩)
    · exact Ent.cons (LimboO.close (a := some ⟨b, 0, none⟩) (r0 := r0) (r1 := r1) (r2 := r2) m rfl rfl rfl rfl rfl rfl rfl rfl rfl rfl)
    · rintro (h | h | h)
      · omega
      · omega
      · exact h3 (by have := congrArg List.length h; simp [Lm.items] at this; simp [this])
  · repeat' (first|refine Zo0 rfl ?_|refine Zo1 ?_|refine Zo2 ?_|refine Zo3 ?_|refine Zo4 ?_|refine Zo5 ?_|refine Zo6 ?_|refine Zo7 ?_|refine Zo8 rfl ?_|refine Zo9 rfl ?_|refine Zoa ?_|refine Zob ?_|refine Zoc ?_|refine Zod ?_|refine Zoe ?_|refine Zof ?_|refine Zog ?_|refine Zoh ?_|refine Zoi rfl ?_|refine Zoj rfl ?_|refine Zok rfl ?_|refine Zol rfl ?_|refine Zom rfl (by rfl) ?_|refine Zon rfl rfl ?_|refine Zoo rfl rfl rfl rfl (by rfl) (by rfl) ?_|refine Zop rfl trivial ?_|refine Zoq rfl rfl rfl ?_)
    refine Sx.pv rfl ⟨by omega, by omega⟩ ?_
    repeat' (first|refine Zo0 rfl ?_|refine Zo1 ?_|refine Zo2 ?_|refine Zo3 ?_|refine Zo4 ?_|refine Zo5 ?_|refine Zo6 ?_|refine Zo7 ?_|refine Zo8 rfl ?_|refine Zo9 rfl ?_|refine Zoa ?_|refine Zob ?_|refine Zoc ?_|refine Zod ?_|refine Zoe ?_|refine Zof ?_|refine Zog ?_|refine Zoh ?_|refine Zoi rfl ?_|refine Zoj rfl ?_|refine Zok rfl ?_|refine Zol rfl ?_|refine Zom rfl (by rfl) ?_|refine Zon rfl rfl ?_|refine Zoo rfl rfl rfl rfl (by rfl) (by rfl) ?_|refine Zop rfl trivial ?_|refine Zoq rfl rfl rfl ?_)
    refine Cx.ifp rfl (fun h3 => ?_) (fun h3 => ?_)
    · repeat' (first|refine Zo0 rfl ?_|refine Zo1 ?_|refine Zo2 ?_|refine Zo3 ?_|refine Zo4 ?_|refine Zo5 ?_|refine Zo6 ?_|refine Zo7 ?_|refine Zo8 rfl ?_|refine Zo9 rfl ?_|refine Zoa ?_|refine Zob ?_|refine Zoc ?_|refine Zod ?_|refine Zoe ?_|refine Zof ?_|refine Zog ?_|refine Zoh ?_|refine Zoi rfl ?_|refine Zoj rfl ?_|refine Zok rfl ?_|refine Zol rfl ?_|refine Zom rfl (by rfl) ?_|refine Zon rfl rfl ?_|refine Zoo rfl rfl rfl rfl (by rfl) (by rfl) ?_|refine Zop rfl trivial ?_|refine Zoq rfl rfl rfl ?_)
      exact Kr.two (.inr rfl) rfl rfl (LimboO.close (a := some ⟨b, 0, none⟩) (r0 := r0) (r1 := r1) (r2 := r2) m rfl rfl rfl rfl rfl rfl rfl rfl rfl rfl) (.inl ⟨.inr (.inr (List.eq_nil_of_length_eq_zero (by simpa [Lm.items] using h3))), rfl, rfl⟩)
    repeat' (first|refine Zo0 rfl ?_|refine Zo1 ?_|refine Zo2 ?_|refine Zo3 ?_|refine Zo4 ?_|refine Zo5 ?_|refine Zo6 ?_|refine Zo7 ?_|refine Zo8 rfl ?_|refine Zo9 rfl ?_|refine Zoa ?_|refine Zob ?_|refine Zoc ?_|refine Zod ?_|refine Zoe ?_|refine Zof ?_|refine Zog ?_|refine Zoh ?_|refine Zoi rfl ?_|refine Zoj rfl ?_|refine Zok rfl ?_|refine Zol rfl ?_|refine Zom rfl (by rfl) ?_|refine Zon rfl rfl ?_|refine Zoo rfl rfl rfl rfl (by rfl) (by rfl) ?_|refine Zop rfl trivial ?_|refine Zoq rfl rfl rfl ?_)
    refine Cx.rd ?_
    refine Rx.pvs rfl ?_
    refine Rx.pv 0 rfl rfl rfl ⟨by omega, by omega⟩ rfl rfl ?_
    refine Rx.pvs rfl ?_
    refine Rx.ldbK 0 rfl rfl rfl (by rfl) rfl rfl ?_
    refine Rx.pv 0 rfl rfl rfl ⟨by omega, by omega⟩ rfl rfl ?_
    refine Rx.pvs rfl ?_
    refine Rx.ldbK 0 rfl rfl rfl (by rfl) rfl rfl ?_
    refine Rx.pvs rfl ?_
    refine Rx.one rfl rfl rfl ?_
    refine Sx.ca rfl (clone (Rd.any (a := r1) hx1 (hk1.imp (fun h => h.2.1) id)) (ones_ints _) (by omega)) ?_
    rintro v L' ⟨ra, ca, rfl, rfl⟩
    refine Sx.nil ⟨⟨⟨trivial, Has.cell rfl⟩, Has.cell rfl⟩, ?_⟩
    refine Rx.pvs rfl ?_
    refine Rx.nil ?_
    repeat' (first|refine Zo0 rfl ?_|refine Zo1 ?_|refine Zo2 ?_|refine Zo3 ?_|refine Zo4 ?_|refine Zo5 ?_|refine Zo6 ?_|refine Zo7 ?_|refine Zo8 rfl ?_|refine Zo9 rfl ?_|refine Zoa ?_|refine Zob ?_|refine Zoc ?_|refine Zod ?_|refine Zoe ?_|refine Zof ?_|refine Zog ?_|refine Zoh ?_|refine Zoi rfl ?_|refine Zoj rfl ?_|refine Zok rfl ?_|refine Zol rfl ?_|refine Zom rfl (by rfl) ?_|refine Zon rfl rfl ?_|refine Zoo rfl rfl rfl rfl (by rfl) (by rfl) ?_|refine Zop rfl trivial ?_|refine Zoq rfl rfl rfl ?_)
    refine Kr.two (.inr rfl) rfl rfl ?_ (.inr ⟨?_, ra, ca, rfl, rfl⟩)
    · exact Ent.cons (LimboO.close (a := some ⟨b, 0, none⟩) (r0 := r0) (r1 := r1) (r2 := r2) m rfl rfl rfl rfl rfl rfl rfl rfl rfl rfl)
    · rintro (h | h | h)
      · omega
      · omega
      · exact h3 (by have := congrArg List.length h; simp [Lm.items] at this; simp [this])
  · repeat' (first|refine Zo0 rfl ?_|refine Zo1 ?_|refine Zo2 ?_|refine Zo3 ?_|refine Zo4 ?_|refine Zo5 ?_|refine Zo6 ?_|refine Zo7 ?_|refine Zo8 rfl ?_|refine Zo9 rfl ?_|refine Zoa ?_|refine Zob ?_|refine Zoc ?_|refine Zod ?_|refine Zoe ?_|refine Zof ?_|refine Zog ?_|refine Zoh ?_|refine Zoi rfl ?_|refine Zoj rfl ?_|refine Zok rfl ?_|refine Zol rfl ?_|refine Zom rfl (by rfl) ?_|refine Zon rfl rfl ?_|refine Zoo rfl rfl rfl rfl (by rfl) (by rfl) ?_|refine Zop rfl trivial ?_|refine Zoq rfl rfl rfl ?_)
    refine Sx.pv rfl ⟨by omega, by omega⟩ ?_
    repeat' (first|refine Zo0 rfl ?_|refine Zo1 ?_|refine Zo2 ?_|refine Zo3 ?_|refine Zo4 ?_|refine Zo5 ?_|refine Zo6 ?_|refine Zo7 ?_|refine Zo8 rfl ?_|refine Zo9 rfl ?_|refine Zoa ?_|refine Zob ?_|refine Zoc ?_|refine Zod ?_|refine Zoe ?_|refine Zof ?_|refine Zog ?_|refine Zoh ?_|refine Zoi rfl ?_|refine Zoj rfl ?_|refine Zok rfl ?_|refine Zol rfl ?_|refine Zom rfl (by rfl) ?_|refine Zon rfl rfl ?_|refine Zoo rfl rfl rfl rfl (by rfl) (by rfl) ?_|refine Zop rfl trivial ?_|refine Zoq rfl rfl rfl ?_)
    refine Cx.ifp rfl (fun h3 => ?_) (fun h3 => ?_)
    · repeat' (first|refine Zo0 rfl ?_|refine Zo1 ?_|refine Zo2 ?_|refine Zo3 ?_|refine Zo4 ?_|refine Zo5 ?_|refine Zo6 ?_|refine Zo7 ?_|refine Zo8 rfl ?_|refine Zo9 rfl ?_|refine Zoa ?_|refine Zob ?_|refine Zoc ?_|refine Zod ?_|refine Zoe ?_|refine Zof ?_|refine Zog ?_|refine Zoh ?_|refine Zoi rfl ?_|refine Zoj rfl ?_|refine Zok rfl ?_|refine Zol rfl ?_|refine Zom rfl (by rfl) ?_|refine Zon rfl rfl ?_|refine Zoo rfl rfl rfl rfl (by rfl) (by rfl) ?_|refine Zop rfl trivial ?_|refine Zoq rfl rfl rfl ?_)
      exact Kr.two (.inr rfl) rfl rfl (LimboO.close (a := some ⟨b, 0, none⟩) (r0 := r0) (r1 := r1) (r2 := r2) m rfl rfl rfl rfl rfl rfl rfl rfl rfl rfl) (.inl ⟨.inr (.inr (List.eq_nil_of_length_eq_zero (by simpa [Lm.items] using h3))), rfl, rfl⟩)
    repeat' (first|refine Zo0 rfl ?_|refine Zo1 ?_|refine Zo2 ?_|refine Zo3 ?_|refine Zo4 ?_|refine Zo5 ?_|refine Zo6 ?_|refine Zo7 ?_|refine Zo8 rfl ?_|refine Zo9 rfl ?_|refine Zoa ?_|refine Zob ?_|refine Zoc ?_|refine Zod ?_|refine Zoe ?_|refine Zof ?_|refine Zog ?_|refine Zoh ?_|refine Zoi rfl ?_|refine Zoj rfl ?_|refine Zok rfl ?_|refine Zol rfl ?_|refine Zom rfl (by rfl) ?_|refine Zon rfl rfl ?_|refine Zoo rfl rfl rfl rfl (by rfl) (by rfl) ?_|refine Zop rfl trivial ?_|refine Zoq rfl rfl rfl ?_)
    refine Cx.rd ?_
    refine Rx.pvs rfl ?_
    refine Rx.pv 0 rfl rfl rfl ⟨by omega, by omega⟩ rfl rfl ?_
    refine Rx.pvs rfl ?_
    refine Rx.ldbK 0 rfl rfl rfl (by rfl) rfl rfl ?_
    refine Rx.pv 0 rfl rfl rfl ⟨by omega, by omega⟩ rfl rfl ?_
    refine Rx.pvs rfl ?_
    refine Rx.ldbK 0 rfl rfl rfl (by rfl) rfl rfl ?_
    refine Rx.pvs rfl ?_
    refine Rx.one rfl rfl rfl ?_
    refine Sx.ca rfl (clone (Rd.any (a := r2) hx2 (hk2.imp (fun h => h.2.1) id)) (ones_ints _) (by omega)) ?_
    rintro v L' ⟨ra, ca, rfl, rfl⟩
    refine Sx.nil ⟨⟨⟨trivial, Has.cell rfl⟩, Has.cell rfl⟩, ?_⟩
    refine Rx.pvs rfl ?_
    refine Rx.nil ?_
    repeat' (first|refine Zo0 rfl ?_|refine Zo1 ?_|refine Zo2 ?_|refine Zo3 ?_|refine Zo4 ?_|refine Zo5 ?_|refine Zo6 ?_|refine Zo7 ?_|refine Zo8 rfl ?_|refine Zo9 rfl ?_|refine Zoa ?_|refine Zob ?_|refine Zoc ?_|refine Zod ?_|refine Zoe ?_|refine Zof ?_|refine Zog ?_|refine Zoh ?_|refine Zoi rfl ?_|refine Zoj rfl ?_|refine Zok rfl ?_|refine Zol rfl ?_|refine Zom rfl (by rfl) ?_|refine Zon rfl rfl ?_|refine Zoo rfl rfl rfl rfl (by rfl) (by rfl) ?_|refine Zop rfl trivial ?_|refine Zoq rfl rfl rfl ?_)
    refine Kr.two (.inr rfl) rfl rfl ?_ (.inr ⟨?_, ra, ca, rfl, rfl⟩)
    · exact Ent.cons (LimboO.close (a := some ⟨b, 0, none⟩) (r0 := r0) (r1 := r1) (r2 := r2) m rfl rfl rfl rfl rfl rfl rfl rfl rfl rfl)
    · rintro (h | h | h)
      · omega
      · omega
      · exact h3 (by have := congrArg List.length h; simp [Lm.items] at this; simp [this])
end
end Go.Proofs.YtnbkjcmmjgkdaaaGreat
