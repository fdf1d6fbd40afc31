/-
  The limbo's contract: Ready.
-/
import Derived.Test.YtnbkjcmmjgkdaaaGreatLiB
set_option linter.unusedVariables false
set_option linter.unusedSimpArgs false
namespace Go.Proofs.YtnbkjcmmjgkdaaaGreat
open Go
attribute [local irreducible] Sx Cx Rx Fx Krg Ksq Kbl Klp Kr

section
variable {L F : St}
theorem bucketOpen {b o n c : Nat} {now tag : Int} {r : Option Addr} {xs : List Int} (h0 : Has L b o [.int .i64 tag]) (h1 : Has L b (o + 1) [.slice r n c]) (hn : n = xs.length) (h2 : 2 ≤ now) (h3 : now ≤ 9223372036854775807) :
    Fx Tryz.prog 179 [.pointer (some ⟨b, o, none⟩), .int .i64 now] L (fun v L' => v = .bool (openM now tag xs) ∧ L = L') := by
  subst hn
  refine Fx.mk Tryz.func179 k179 (Nat.le_of_ble_eq_true rfl) ?_
  dsimp only [c179, envOf, Nat.reduceAdd]
  repeat' (first|refine Zo0 rfl ?_|refine Zo1 ?_|refine Zo2 ?_|refine Zo3 ?_|refine Zo4 ?_|refine Zo5 ?_|refine Zo6 ?_|refine Zo7 ?_|refine Zo8 rfl ?_|refine Zo9 rfl ?_|refine Zoa ?_|refine Zob ?_|refine Zoc ?_|refine Zod ?_|refine Zoe ?_|refine Zof ?_|refine Zog ?_|refine Zoh ?_|refine Zoi rfl ?_|refine Zoj rfl ?_|refine Zok rfl ?_|refine Zol rfl ?_|refine Zom rfl (by rfl) ?_|refine Zon rfl rfl ?_|refine Zoo rfl rfl rfl rfl (by rfl) (by rfl) ?_|refine Zop rfl trivial ?_|refine Zoq rfl rfl rfl ?_)
  refine Sx.ld rfl h1 rfl ?_
  repeat' (first|refine Zo0 rfl ?_|refine Zo1 ?_|refine Zo2 ?_|refine Zo3 ?_|refine Zo4 ?_|refine Zo5 ?_|refine Zo6 ?_|refine Zo7 ?_|refine Zo8 rfl ?_|refine Zo9 rfl ?_|refine Zoa ?_|refine Zob ?_|refine Zoc ?_|refine Zod ?_|refine Zoe ?_|refine Zof ?_|refine Zog ?_|refine Zoh ?_|refine Zoi rfl ?_|refine Zoj rfl ?_|refine Zok rfl ?_|refine Zol rfl ?_|refine Zom rfl (by rfl) ?_|refine Zon rfl rfl ?_|refine Zoo rfl rfl rfl rfl (by rfl) (by rfl) ?_|refine Zop rfl trivial ?_|refine Zoq rfl rfl rfl ?_)
  refine Sx.ifp rfl (fun h => ?_) (fun h => ?_)
  · repeat' (first|refine Zo0 rfl ?_|refine Zo1 ?_|refine Zo2 ?_|refine Zo3 ?_|refine Zo4 ?_|refine Zo5 ?_|refine Zo6 ?_|refine Zo7 ?_|refine Zo8 rfl ?_|refine Zo9 rfl ?_|refine Zoa ?_|refine Zob ?_|refine Zoc ?_|refine Zod ?_|refine Zoe ?_|refine Zof ?_|refine Zog ?_|refine Zoh ?_|refine Zoi rfl ?_|refine Zoj rfl ?_|refine Zok rfl ?_|refine Zol rfl ?_|refine Zom rfl (by rfl) ?_|refine Zon rfl rfl ?_|refine Zoo rfl rfl rfl rfl (by rfl) (by rfl) ?_|refine Zop rfl trivial ?_|refine Zoq rfl rfl rfl ?_)
    refine Sx.ld rfl (by simpa using h0) rfl ?_
    repeat' (first|refine Zo0 rfl ?_|refine Zo1 ?_|refine Zo2 ?_|refine Zo3 ?_|refine Zo4 ?_|refine Zo5 ?_|refine Zo6 ?_|refine Zo7 ?_|refine Zo8 rfl ?_|refine Zo9 rfl ?_|refine Zoa ?_|refine Zob ?_|refine Zoc ?_|refine Zod ?_|refine Zoe ?_|refine Zof ?_|refine Zog ?_|refine Zoh ?_|refine Zoi rfl ?_|refine Zoj rfl ?_|refine Zok rfl ?_|refine Zol rfl ?_|refine Zom rfl (by rfl) ?_|refine Zon rfl rfl ?_|refine Zoo rfl rfl rfl rfl (by rfl) (by rfl) ?_|refine Zop rfl trivial ?_|refine Zoq rfl rfl rfl ?_)
    rw [w64 (n := now - 2) (by omega) (by omega)]
    refine Kr.one (.inr rfl) rfl (Ent.refl _) ⟨?_, rfl⟩
    have h' : 0 < xs.length := by omega
    simp [pick, openM, h']
  · repeat' (first|refine Zo0 rfl ?_|refine Zo1 ?_|refine Zo2 ?_|refine Zo3 ?_|refine Zo4 ?_|refine Zo5 ?_|refine Zo6 ?_|refine Zo7 ?_|refine Zo8 rfl ?_|refine Zo9 rfl ?_|refine Zoa ?_|refine Zob ?_|refine Zoc ?_|refine Zod ?_|refine Zoe ?_|refine Zof ?_|refine Zog ?_|refine Zoh ?_|refine Zoi rfl ?_|refine Zoj rfl ?_|refine Zok rfl ?_|refine Zol rfl ?_|refine Zom rfl (by rfl) ?_|refine Zon rfl rfl ?_|refine Zoo rfl rfl rfl rfl (by rfl) (by rfl) ?_|refine Zop rfl trivial ?_|refine Zoq rfl rfl rfl ?_)
    refine Kr.one (.inr rfl) rfl (Ent.refl _) ⟨?_, rfl⟩
    have h' : ¬ 0 < xs.length := by omega
    simp [pick, openM, h']
abbrev lptr (b : Nat) (o : Option Nat) : Value := .pointer (o.map fun j => ⟨b, 0 + j * 2, none⟩)
set_option maxHeartbeats 4000000 in
theorem limboReady {b : Nat} {m : Lm} {now : Int} {F : St} [t : Take L (some ⟨b, 0, none⟩) (LimboO m) F] (hb : m.size ≤ 100000000) (hnow : now ≤ 9223372036854775807) :
    Fx Tryz.prog 151 [.pointer (some ⟨b, 0, none⟩), .int .i64 now] L (fun v L' => ∃ ro co, v = .slice ro (readyAll now m).1.length co ∧
      L' = pt ro (Row 3 1 (readyAll now m).1.length co (ints (readyAll now m).1)) :: pt (some ⟨b, 0, none⟩) (LimboO (readyAll now m).2) :: F) := by
  refine Fx.mk Tryz.func151 k151 (Nat.le_of_ble_eq_true rfl) ?_
  dsimp only [c151, envOf, Nat.reduceAdd]
  refine Cx.ent (Ent.trans (Ent.of t.out) (Ent.rownil 3 1)) ?_
  repeat' (first|refine Zo0 rfl ?_|refine Zo1 ?_|refine Zo2 ?_|refine Zo3 ?_|refine Zo4 ?_|refine Zo5 ?_|refine Zo6 ?_|refine Zo7 ?_|refine Zo8 rfl ?_|refine Zo9 rfl ?_|refine Zoa ?_|refine Zob ?_|refine Zoc ?_|refine Zod ?_|refine Zoe ?_|refine Zof ?_|refine Zog ?_|refine Zoh ?_|refine Zoi rfl ?_|refine Zoj rfl ?_|refine Zok rfl ?_|refine Zol rfl ?_|refine Zom rfl (by rfl) ?_|refine Zon rfl rfl ?_|refine Zoo rfl rfl rfl rfl (by rfl) (by rfl) ?_|refine Zop rfl trivial ?_|refine Zoq rfl rfl rfl ?_)
  refine Cx.lp (α := {p : (List Int × Lm) × (Option Addr × Nat) // p.1.1.length + p.1.2.size = m.size ∧ p.1.1 ++ (readyAll now p.1.2).1 = (readyAll now m).1 ∧ (readyAll now p.1.2).2 = (readyAll now m).2})
    (fun p => [(0, .pointer (some ⟨b, 0, none⟩)), (1, .int .i64 now), (5, .slice p.1.2.1 p.1.1.1.length p.1.2.2)])
    (fun p => pt p.1.2.1 (Row 3 1 p.1.1.1.length p.1.2.2 (ints p.1.1.1)) :: pt (some ⟨b, 0, none⟩) (LimboO p.1.1.2) :: F) (fun p => p.1.1.2.cnt) ⟨(([], m), (none, 0)), by simp, by simp, rfl⟩ (sub.cons rfl (sub.cons rfl (sub.cons rfl sub.nil))) (Ent.refl _) ?_
  rintro ⟨⟨⟨out, m'⟩, ⟨ro, co⟩⟩, hsz, he1, he2⟩
  dsimp only at hsz he1 he2 ⊢
  repeat' (first|refine Zo0 rfl ?_|refine Zo1 ?_|refine Zo2 ?_|refine Zo3 ?_|refine Zo4 ?_|refine Zo5 ?_|refine Zo6 ?_|refine Zo7 ?_|refine Zo8 rfl ?_|refine Zo9 rfl ?_|refine Zoa ?_|refine Zob ?_|refine Zoc ?_|refine Zod ?_|refine Zoe ?_|refine Zof ?_|refine Zog ?_|refine Zoh ?_|refine Zoi rfl ?_|refine Zoj rfl ?_|refine Zok rfl ?_|refine Zol rfl ?_|refine Zom rfl (by rfl) ?_|refine Zon rfl rfl ?_|refine Zoo rfl rfl rfl rfl (by rfl) (by rfl) ?_|refine Zop rfl trivial ?_|refine Zoq rfl rfl rfl ?_)
  refine Cx.ifp rfl (fun h2 => ?_) (fun h2 => ?_)
  rotate_left
  · repeat' (first|refine Zo0 rfl ?_|refine Zo1 ?_|refine Zo2 ?_|refine Zo3 ?_|refine Zo4 ?_|refine Zo5 ?_|refine Zo6 ?_|refine Zo7 ?_|refine Zo8 rfl ?_|refine Zo9 rfl ?_|refine Zoa ?_|refine Zob ?_|refine Zoc ?_|refine Zod ?_|refine Zoe ?_|refine Zof ?_|refine Zog ?_|refine Zoh ?_|refine Zoi rfl ?_|refine Zoj rfl ?_|refine Zok rfl ?_|refine Zol rfl ?_|refine Zom rfl (by rfl) ?_|refine Zon rfl rfl ?_|refine Zoo rfl rfl rfl rfl (by rfl) (by rfl) ?_|refine Zop rfl trivial ?_|refine Zoq rfl rfl rfl ?_)
    have hra : readyAll now m' = ([], m') := by unfold readyAll; rw [if_neg (by omega)]
    rw [hra] at he1 he2
    simp only [List.append_nil] at he1
    subst he1; subst he2
    exact Kr.one (.inr rfl) rfl (Ent.refl _) ⟨ro, co, rfl, rfl⟩
  refine Cx.openp (a := some ⟨b, 0, none⟩) rfl ?_
  rintro ⟨⟨r0, c0⟩, ⟨r1, c1⟩, ⟨r2, c2⟩⟩
  simp only [List.cons_append, List.nil_append]
  repeat' (first|refine Zo0 rfl ?_|refine Zo1 ?_|refine Zo2 ?_|refine Zo3 ?_|refine Zo4 ?_|refine Zo5 ?_|refine Zo6 ?_|refine Zo7 ?_|refine Zo8 rfl ?_|refine Zo9 rfl ?_|refine Zoa ?_|refine Zob ?_|refine Zoc ?_|refine Zod ?_|refine Zoe ?_|refine Zof ?_|refine Zog ?_|refine Zoh ?_|refine Zoi rfl ?_|refine Zoj rfl ?_|refine Zok rfl ?_|refine Zol rfl ?_|refine Zom rfl (by rfl) ?_|refine Zon rfl rfl ?_|refine Zoo rfl rfl rfl rfl (by rfl) (by rfl) ?_|refine Zop rfl trivial ?_|refine Zoq rfl rfl rfl ?_)
  refine Cx.lp (α := {k : Nat // k ≤ 3}) (fun k => [(0, .pointer (some ⟨b, 0, none⟩)), (1, .int .i64 now), (5, .slice ro out.length co), (6, lptr b (leastUp now m' k.1)), (11, .int .i64 k.1)]) (fun _ => _) (fun k => 3 - k.1) ⟨0, by omega⟩
    (sub.cons rfl (sub.cons rfl (sub.cons rfl (sub.cons rfl (sub.cons rfl sub.nil))))) (Ent.refl _) ?_
  rintro ⟨k, hk⟩
  dsimp only
  rcases (show k = 0 ∨ k = 1 ∨ k = 2 ∨ k = 3 by omega) with rfl | rfl | rfl | rfl
  · repeat' (first|refine Zo0 rfl ?_|refine Zo1 ?_|refine Zo2 ?_|refine Zo3 ?_|refine Zo4 ?_|refine Zo5 ?_|refine Zo6 ?_|refine Zo7 ?_|refine Zo8 rfl ?_|refine Zo9 rfl ?_|refine Zoa ?_|refine Zob ?_|refine Zoc ?_|refine Zod ?_|refine Zoe ?_|refine Zof ?_|refine Zog ?_|refine Zoh ?_|refine Zoi rfl ?_|refine Zoj rfl ?_|refine Zok rfl ?_|refine Zol rfl ?_|refine Zom rfl (by rfl) ?_|refine Zon rfl rfl ?_|refine Zoo rfl rfl rfl rfl (by rfl) (by rfl) ?_|refine Zop rfl trivial ?_|refine Zoq rfl rfl rfl ?_)
    refine Sx.pv rfl ⟨by omega, by omega⟩ ?_
    rcases hlu : leastUp now m' 0 with _ | j
    · repeat' (first|refine Zo0 rfl ?_|refine Zo1 ?_|refine Zo2 ?_|refine Zo3 ?_|refine Zo4 ?_|refine Zo5 ?_|refine Zo6 ?_|refine Zo7 ?_|refine Zo8 rfl ?_|refine Zo9 rfl ?_|refine Zoa ?_|refine Zob ?_|refine Zoc ?_|refine Zod ?_|refine Zoe ?_|refine Zof ?_|refine Zog ?_|refine Zoh ?_|refine Zoi rfl ?_|refine Zoj rfl ?_|refine Zok rfl ?_|refine Zol rfl ?_|refine Zom rfl (by rfl) ?_|refine Zon rfl rfl ?_|refine Zoo rfl rfl rfl rfl (by rfl) (by rfl) ?_|refine Zop rfl trivial ?_|refine Zoq rfl rfl rfl ?_)
      refine Cx.calm (by kernel_rfl) ?_
      repeat' (first | (refine Cm.pvs rfl ?_) | (refine Cm.step rfl ?_) | (refine Cm.done ?_) | (refine Cm.ldb rfl rfl (by rfl) ?_) | (refine Cm.ldbs rfl rfl rfl ?_))
      refine Cm.ca rfl rfl (bucketOpen (tag := m'.t0) (xs := m'.x0) (Has.cell rfl) (Has.cell rfl) rfl h2 hnow) ?_
      cases hop : openM now m'.t0 m'.x0
      · repeat' (first | (refine Cm.pvs rfl ?_) | (refine Cm.step rfl ?_) | (refine Cm.done ?_) | (refine Cm.ldb rfl rfl (by rfl) ?_) | (refine Cm.ldbs rfl rfl rfl ?_))
        repeat' (first|refine Zo0 rfl ?_|refine Zo1 ?_|refine Zo2 ?_|refine Zo3 ?_|refine Zo4 ?_|refine Zo5 ?_|refine Zo6 ?_|refine Zo7 ?_|refine Zo8 rfl ?_|refine Zo9 rfl ?_|refine Zoa ?_|refine Zob ?_|refine Zoc ?_|refine Zod ?_|refine Zoe ?_|refine Zof ?_|refine Zog ?_|refine Zoh ?_|refine Zoi rfl ?_|refine Zoj rfl ?_|refine Zok rfl ?_|refine Zol rfl ?_|refine Zom rfl (by rfl) ?_|refine Zon rfl rfl ?_|refine Zoo rfl rfl rfl rfl (by rfl) (by rfl) ?_|refine Zop rfl trivial ?_|refine Zoq rfl rfl rfl ?_)
        refine Klp.nm ⟨1, by omega⟩ (sub.cons rfl (sub.cons rfl (sub.cons rfl (sub.cons (Eq.trans ?_ (congrArg (fun o => some (lptr b o)) ((leastUp_no (k := 0) hop).trans hlu : leastUp now m' 1 = _).symm)) (sub.cons rfl sub.nil))))) (Ent.refl _) (by simp)
        rfl
      · repeat' (first | (refine Cm.pvs rfl ?_) | (refine Cm.step rfl ?_) | (refine Cm.done ?_) | (refine Cm.ldb rfl rfl (by rfl) ?_) | (refine Cm.ldbs rfl rfl rfl ?_))
        repeat' (first|refine Zo0 rfl ?_|refine Zo1 ?_|refine Zo2 ?_|refine Zo3 ?_|refine Zo4 ?_|refine Zo5 ?_|refine Zo6 ?_|refine Zo7 ?_|refine Zo8 rfl ?_|refine Zo9 rfl ?_|refine Zoa ?_|refine Zob ?_|refine Zoc ?_|refine Zod ?_|refine Zoe ?_|refine Zof ?_|refine Zog ?_|refine Zoh ?_|refine Zoi rfl ?_|refine Zoj rfl ?_|refine Zok rfl ?_|refine Zol rfl ?_|refine Zom rfl (by rfl) ?_|refine Zon rfl rfl ?_|refine Zoo rfl rfl rfl rfl (by rfl) (by rfl) ?_|refine Zop rfl trivial ?_|refine Zoq rfl rfl rfl ?_)
        refine Klp.nm ⟨1, by omega⟩ (sub.cons rfl (sub.cons rfl (sub.cons rfl (sub.cons (Eq.trans ?_ (congrArg (fun o => some (lptr b o)) (leastUp_first (k := 0) hop hlu : leastUp now m' 1 = _).symm)) (sub.cons rfl sub.nil))))) (Ent.refl _) (by simp)
        rfl
    · exact absurd (leastUp_lt hlu).1 (by omega)
  · repeat' (first|refine Zo0 rfl ?_|refine Zo1 ?_|refine Zo2 ?_|refine Zo3 ?_|refine Zo4 ?_|refine Zo5 ?_|refine Zo6 ?_|refine Zo7 ?_|refine Zo8 rfl ?_|refine Zo9 rfl ?_|refine Zoa ?_|refine Zob ?_|refine Zoc ?_|refine Zod ?_|refine Zoe ?_|refine Zof ?_|refine Zog ?_|refine Zoh ?_|refine Zoi rfl ?_|refine Zoj rfl ?_|refine Zok rfl ?_|refine Zol rfl ?_|refine Zom rfl (by rfl) ?_|refine Zon rfl rfl ?_|refine Zoo rfl rfl rfl rfl (by rfl) (by rfl) ?_|refine Zop rfl trivial ?_|refine Zoq rfl rfl rfl ?_)
    refine Sx.pv rfl ⟨by omega, by omega⟩ ?_
    rcases hlu : leastUp now m' 1 with _ | j
    · repeat' (first|refine Zo0 rfl ?_|refine Zo1 ?_|refine Zo2 ?_|refine Zo3 ?_|refine Zo4 ?_|refine Zo5 ?_|refine Zo6 ?_|refine Zo7 ?_|refine Zo8 rfl ?_|refine Zo9 rfl ?_|refine Zoa ?_|refine Zob ?_|refine Zoc ?_|refine Zod ?_|refine Zoe ?_|refine Zof ?_|refine Zog ?_|refine Zoh ?_|refine Zoi rfl ?_|refine Zoj rfl ?_|refine Zok rfl ?_|refine Zol rfl ?_|refine Zom rfl (by rfl) ?_|refine Zon rfl rfl ?_|refine Zoo rfl rfl rfl rfl (by rfl) (by rfl) ?_|refine Zop rfl trivial ?_|refine Zoq rfl rfl rfl ?_)
      refine Cx.calm (by kernel_rfl) ?_
      repeat' (first | (refine Cm.pvs rfl ?_) | (refine Cm.step rfl ?_) | (refine Cm.done ?_) | (refine Cm.ldb rfl rfl (by rfl) ?_) | (refine Cm.ldbs rfl rfl rfl ?_))
      refine Cm.ca rfl rfl (bucketOpen (tag := m'.t1) (xs := m'.x1) (Has.cell rfl) (Has.cell rfl) rfl h2 hnow) ?_
      cases hop : openM now m'.t1 m'.x1
      · repeat' (first | (refine Cm.pvs rfl ?_) | (refine Cm.step rfl ?_) | (refine Cm.done ?_) | (refine Cm.ldb rfl rfl (by rfl) ?_) | (refine Cm.ldbs rfl rfl rfl ?_))
        repeat' (first|refine Zo0 rfl ?_|refine Zo1 ?_|refine Zo2 ?_|refine Zo3 ?_|refine Zo4 ?_|refine Zo5 ?_|refine Zo6 ?_|refine Zo7 ?_|refine Zo8 rfl ?_|refine Zo9 rfl ?_|refine Zoa ?_|refine Zob ?_|refine Zoc ?_|refine Zod ?_|refine Zoe ?_|refine Zof ?_|refine Zog ?_|refine Zoh ?_|refine Zoi rfl ?_|refine Zoj rfl ?_|refine Zok rfl ?_|refine Zol rfl ?_|refine Zom rfl (by rfl) ?_|refine Zon rfl rfl ?_|refine Zoo rfl rfl rfl rfl (by rfl) (by rfl) ?_|refine Zop rfl trivial ?_|refine Zoq rfl rfl rfl ?_)
        refine Klp.nm ⟨2, by omega⟩ (sub.cons rfl (sub.cons rfl (sub.cons rfl (sub.cons (Eq.trans ?_ (congrArg (fun o => some (lptr b o)) ((leastUp_no (k := 1) hop).trans hlu : leastUp now m' 2 = _).symm)) (sub.cons rfl sub.nil))))) (Ent.refl _) (by simp)
        rfl
      · repeat' (first | (refine Cm.pvs rfl ?_) | (refine Cm.step rfl ?_) | (refine Cm.done ?_) | (refine Cm.ldb rfl rfl (by rfl) ?_) | (refine Cm.ldbs rfl rfl rfl ?_))
        repeat' (first|refine Zo0 rfl ?_|refine Zo1 ?_|refine Zo2 ?_|refine Zo3 ?_|refine Zo4 ?_|refine Zo5 ?_|refine Zo6 ?_|refine Zo7 ?_|refine Zo8 rfl ?_|refine Zo9 rfl ?_|refine Zoa ?_|refine Zob ?_|refine Zoc ?_|refine Zod ?_|refine Zoe ?_|refine Zof ?_|refine Zog ?_|refine Zoh ?_|refine Zoi rfl ?_|refine Zoj rfl ?_|refine Zok rfl ?_|refine Zol rfl ?_|refine Zom rfl (by rfl) ?_|refine Zon rfl rfl ?_|refine Zoo rfl rfl rfl rfl (by rfl) (by rfl) ?_|refine Zop rfl trivial ?_|refine Zoq rfl rfl rfl ?_)
        refine Klp.nm ⟨2, by omega⟩ (sub.cons rfl (sub.cons rfl (sub.cons rfl (sub.cons (Eq.trans ?_ (congrArg (fun o => some (lptr b o)) (leastUp_first (k := 1) hop hlu : leastUp now m' 2 = _).symm)) (sub.cons rfl sub.nil))))) (Ent.refl _) (by simp)
        rfl
    · have hj := (leastUp_lt hlu).1
      rcases (show j = 0 by omega) with rfl
      · repeat' (first|refine Zo0 rfl ?_|refine Zo1 ?_|refine Zo2 ?_|refine Zo3 ?_|refine Zo4 ?_|refine Zo5 ?_|refine Zo6 ?_|refine Zo7 ?_|refine Zo8 rfl ?_|refine Zo9 rfl ?_|refine Zoa ?_|refine Zob ?_|refine Zoc ?_|refine Zod ?_|refine Zoe ?_|refine Zof ?_|refine Zog ?_|refine Zoh ?_|refine Zoi rfl ?_|refine Zoj rfl ?_|refine Zok rfl ?_|refine Zol rfl ?_|refine Zom rfl (by rfl) ?_|refine Zon rfl rfl ?_|refine Zoo rfl rfl rfl rfl (by rfl) (by rfl) ?_|refine Zop rfl trivial ?_|refine Zoq rfl rfl rfl ?_)
        refine Cx.calm (by kernel_rfl) ?_
        repeat' (first | (refine Cm.pvs rfl ?_) | (refine Cm.step rfl ?_) | (refine Cm.done ?_) | (refine Cm.ldb rfl rfl (by rfl) ?_) | (refine Cm.ldbs rfl rfl rfl ?_))
        refine Cm.ca rfl rfl (bucketOpen (tag := m'.t1) (xs := m'.x1) (Has.cell rfl) (Has.cell rfl) rfl h2 hnow) ?_
        cases hop : openM now m'.t1 m'.x1
        · repeat' (first | (refine Cm.pvs rfl ?_) | (refine Cm.step rfl ?_) | (refine Cm.done ?_) | (refine Cm.ldb rfl rfl (by rfl) ?_) | (refine Cm.ldbs rfl rfl rfl ?_))
          repeat' (first|refine Zo0 rfl ?_|refine Zo1 ?_|refine Zo2 ?_|refine Zo3 ?_|refine Zo4 ?_|refine Zo5 ?_|refine Zo6 ?_|refine Zo7 ?_|refine Zo8 rfl ?_|refine Zo9 rfl ?_|refine Zoa ?_|refine Zob ?_|refine Zoc ?_|refine Zod ?_|refine Zoe ?_|refine Zof ?_|refine Zog ?_|refine Zoh ?_|refine Zoi rfl ?_|refine Zoj rfl ?_|refine Zok rfl ?_|refine Zol rfl ?_|refine Zom rfl (by rfl) ?_|refine Zon rfl rfl ?_|refine Zoo rfl rfl rfl rfl (by rfl) (by rfl) ?_|refine Zop rfl trivial ?_|refine Zoq rfl rfl rfl ?_)
          refine Klp.nm ⟨2, by omega⟩ (sub.cons rfl (sub.cons rfl (sub.cons rfl (sub.cons (Eq.trans ?_ (congrArg (fun o => some (lptr b o)) ((leastUp_no (k := 1) hop).trans hlu : leastUp now m' 2 = _).symm)) (sub.cons rfl sub.nil))))) (Ent.refl _) (by simp)
          rfl
        · repeat' (first | (refine Cm.pvs rfl ?_) | (refine Cm.step rfl ?_) | (refine Cm.done ?_) | (refine Cm.ldb rfl rfl (by rfl) ?_) | (refine Cm.ldbs rfl rfl rfl ?_))
          refine Cx.ifp rfl (fun h3 => ?_) (fun h3 => ?_)
          · repeat' (first|refine Zo0 rfl ?_|refine Zo1 ?_|refine Zo2 ?_|refine Zo3 ?_|refine Zo4 ?_|refine Zo5 ?_|refine Zo6 ?_|refine Zo7 ?_|refine Zo8 rfl ?_|refine Zo9 rfl ?_|refine Zoa ?_|refine Zob ?_|refine Zoc ?_|refine Zod ?_|refine Zoe ?_|refine Zof ?_|refine Zog ?_|refine Zoh ?_|refine Zoi rfl ?_|refine Zoj rfl ?_|refine Zok rfl ?_|refine Zol rfl ?_|refine Zom rfl (by rfl) ?_|refine Zon rfl rfl ?_|refine Zoo rfl rfl rfl rfl (by rfl) (by rfl) ?_|refine Zop rfl trivial ?_|refine Zoq rfl rfl rfl ?_)
            refine Klp.nm ⟨2, by omega⟩ (sub.cons rfl (sub.cons rfl (sub.cons rfl (sub.cons (Eq.trans ?_ (congrArg (fun o => some (lptr b o)) (leastUp_less (k := 1) hop hlu h3 : leastUp now m' 2 = _).symm)) (sub.cons rfl sub.nil))))) (Ent.refl _) (by simp)
            rfl
          · repeat' (first|refine Zo0 rfl ?_|refine Zo1 ?_|refine Zo2 ?_|refine Zo3 ?_|refine Zo4 ?_|refine Zo5 ?_|refine Zo6 ?_|refine Zo7 ?_|refine Zo8 rfl ?_|refine Zo9 rfl ?_|refine Zoa ?_|refine Zob ?_|refine Zoc ?_|refine Zod ?_|refine Zoe ?_|refine Zof ?_|refine Zog ?_|refine Zoh ?_|refine Zoi rfl ?_|refine Zoj rfl ?_|refine Zok rfl ?_|refine Zol rfl ?_|refine Zom rfl (by rfl) ?_|refine Zon rfl rfl ?_|refine Zoo rfl rfl rfl rfl (by rfl) (by rfl) ?_|refine Zop rfl trivial ?_|refine Zoq rfl rfl rfl ?_)
            refine Klp.nm ⟨2, by omega⟩ (sub.cons rfl (sub.cons rfl (sub.cons rfl (sub.cons (Eq.trans ?_ (congrArg (fun o => some (lptr b o)) (leastUp_keep (k := 1) hop hlu h3 : leastUp now m' 2 = _).symm)) (sub.cons rfl sub.nil))))) (Ent.refl _) (by simp)
            rfl
  · repeat' (first|refine Zo0 rfl ?_|refine Zo1 ?_|refine Zo2 ?_|refine Zo3 ?_|refine Zo4 ?_|refine Zo5 ?_|refine Zo6 ?_|refine Zo7 ?_|refine Zo8 rfl ?_|refine Zo9 rfl ?_|refine Zoa ?_|refine Zob ?_|refine Zoc ?_|refine Zod ?_|refine Zoe ?_|refine Zof ?_|refine Zog ?_|refine Zoh ?_|refine Zoi rfl ?_|refine Zoj rfl ?_|refine Zok rfl ?_|refine Zol rfl ?_|refine Zom rfl (by rfl) ?_|refine Zon rfl rfl ?_|refine Zoo rfl rfl rfl rfl (by rfl) (by rfl) ?_|refine Zop rfl trivial ?_|refine Zoq rfl rfl rfl ?_)
    refine Sx.pv rfl ⟨by omega, by omega⟩ ?_
    rcases hlu : leastUp now m' 2 with _ | j
    · repeat' (first|refine Zo0 rfl ?_|refine Zo1 ?_|refine Zo2 ?_|refine Zo3 ?_|refine Zo4 ?_|refine Zo5 ?_|refine Zo6 ?_|refine Zo7 ?_|refine Zo8 rfl ?_|refine Zo9 rfl ?_|refine Zoa ?_|refine Zob ?_|refine Zoc ?_|refine Zod ?_|refine Zoe ?_|refine Zof ?_|refine Zog ?_|refine Zoh ?_|refine Zoi rfl ?_|refine Zoj rfl ?_|refine Zok rfl ?_|refine Zol rfl ?_|refine Zom rfl (by rfl) ?_|refine Zon rfl rfl ?_|refine Zoo rfl rfl rfl rfl (by rfl) (by rfl) ?_|refine Zop rfl trivial ?_|refine Zoq rfl rfl rfl ?_)
      refine Cx.calm (by kernel_rfl) ?_
      repeat' (first | (refine Cm.pvs rfl ?_) | (refine Cm.step rfl ?_) | (refine Cm.done ?_) | (refine Cm.ldb rfl rfl (by rfl) ?_) | (refine Cm.ldbs rfl rfl rfl ?_))
      refine Cm.ca rfl rfl (bucketOpen (tag := m'.t2) (xs := m'.x2) (Has.cell rfl) (Has.cell rfl) rfl h2 hnow) ?_
      cases hop : openM now m'.t2 m'.x2
      · repeat' (first | (refine Cm.pvs rfl ?_) | (refine Cm.step rfl ?_) | (refine Cm.done ?_) | (refine Cm.ldb rfl rfl (by rfl) ?_) | (refine Cm.ldbs rfl rfl rfl ?_))
        repeat' (first|refine Zo0 rfl ?_|refine Zo1 ?_|refine Zo2 ?_|refine Zo3 ?_|refine Zo4 ?_|refine Zo5 ?_|refine Zo6 ?_|refine Zo7 ?_|refine Zo8 rfl ?_|refine Zo9 rfl ?_|refine Zoa ?_|refine Zob ?_|refine Zoc ?_|refine Zod ?_|refine Zoe ?_|refine Zof ?_|refine Zog ?_|refine Zoh ?_|refine Zoi rfl ?_|refine Zoj rfl ?_|refine Zok rfl ?_|refine Zol rfl ?_|refine Zom rfl (by rfl) ?_|refine Zon rfl rfl ?_|refine Zoo rfl rfl rfl rfl (by rfl) (by rfl) ?_|refine Zop rfl trivial ?_|refine Zoq rfl rfl rfl ?_)
        refine Klp.nm ⟨3, by omega⟩ (sub.cons rfl (sub.cons rfl (sub.cons rfl (sub.cons (Eq.trans ?_ (congrArg (fun o => some (lptr b o)) ((leastUp_no (k := 2) hop).trans hlu : leastUp now m' 3 = _).symm)) (sub.cons rfl sub.nil))))) (Ent.refl _) (by simp)
        rfl
      · repeat' (first | (refine Cm.pvs rfl ?_) | (refine Cm.step rfl ?_) | (refine Cm.done ?_) | (refine Cm.ldb rfl rfl (by rfl) ?_) | (refine Cm.ldbs rfl rfl rfl ?_))
        repeat' (first|refine Zo0 rfl ?_|refine Zo1 ?_|refine Zo2 ?_|refine Zo3 ?_|refine Zo4 ?_|refine Zo5 ?_|refine Zo6 ?_|refine Zo7 ?_|refine Zo8 rfl ?_|refine Zo9 rfl ?_|refine Zoa ?_|refine Zob ?_|refine Zoc ?_|refine Zod ?_|refine Zoe ?_|refine Zof ?_|refine Zog ?_|refine Zoh ?_|refine Zoi rfl ?_|refine Zoj rfl ?_|refine Zok rfl ?_|refine Zol rfl ?_|refine Zom rfl (by rfl) ?_|refine Zon rfl rfl ?_|refine Zoo rfl rfl rfl rfl (by rfl) (by rfl) ?_|refine Zop rfl trivial ?_|refine Zoq rfl rfl rfl ?_)
        refine Klp.nm ⟨3, by omega⟩ (sub.cons rfl (sub.cons rfl (sub.cons rfl (sub.cons (Eq.trans ?_ (congrArg (fun o => some (lptr b o)) (leastUp_first (k := 2) hop hlu : leastUp now m' 3 = _).symm)) (sub.cons rfl sub.nil))))) (Ent.refl _) (by simp)
        rfl
    · have hj := (leastUp_lt hlu).1
      rcases (show j = 0 ∨ j = 1 by omega) with rfl | rfl
      · repeat' (first|refine Zo0 rfl ?_|refine Zo1 ?_|refine Zo2 ?_|refine Zo3 ?_|refine Zo4 ?_|refine Zo5 ?_|refine Zo6 ?_|refine Zo7 ?_|refine Zo8 rfl ?_|refine Zo9 rfl ?_|refine Zoa ?_|refine Zob ?_|refine Zoc ?_|refine Zod ?_|refine Zoe ?_|refine Zof ?_|refine Zog ?_|refine Zoh ?_|refine Zoi rfl ?_|refine Zoj rfl ?_|refine Zok rfl ?_|refine Zol rfl ?_|refine Zom rfl (by rfl) ?_|refine Zon rfl rfl ?_|refine Zoo rfl rfl rfl rfl (by rfl) (by rfl) ?_|refine Zop rfl trivial ?_|refine Zoq rfl rfl rfl ?_)
        refine Cx.calm (by kernel_rfl) ?_
        repeat' (first | (refine Cm.pvs rfl ?_) | (refine Cm.step rfl ?_) | (refine Cm.done ?_) | (refine Cm.ldb rfl rfl (by rfl) ?_) | (refine Cm.ldbs rfl rfl rfl ?_))
        refine Cm.ca rfl rfl (bucketOpen (tag := m'.t2) (xs := m'.x2) (Has.cell rfl) (Has.cell rfl) rfl h2 hnow) ?_
        cases hop : openM now m'.t2 m'.x2
        · repeat' (first | (refine Cm.pvs rfl ?_) | (refine Cm.step rfl ?_) | (refine Cm.done ?_) | (refine Cm.ldb rfl rfl (by rfl) ?_) | (refine Cm.ldbs rfl rfl rfl ?_))
          repeat' (first|refine Zo0 rfl ?_|refine Zo1 ?_|refine Zo2 ?_|refine Zo3 ?_|refine Zo4 ?_|refine Zo5 ?_|refine Zo6 ?_|refine Zo7 ?_|refine Zo8 rfl ?_|refine Zo9 rfl ?_|refine Zoa ?_|refine Zob ?_|refine Zoc ?_|refine Zod ?_|refine Zoe ?_|refine Zof ?_|refine Zog ?_|refine Zoh ?_|refine Zoi rfl ?_|refine Zoj rfl ?_|refine Zok rfl ?_|refine Zol rfl ?_|refine Zom rfl (by rfl) ?_|refine Zon rfl rfl ?_|refine Zoo rfl rfl rfl rfl (by rfl) (by rfl) ?_|refine Zop rfl trivial ?_|refine Zoq rfl rfl rfl ?_)
          refine Klp.nm ⟨3, by omega⟩ (sub.cons rfl (sub.cons rfl (sub.cons rfl (sub.cons (Eq.trans ?_ (congrArg (fun o => some (lptr b o)) ((leastUp_no (k := 2) hop).trans hlu : leastUp now m' 3 = _).symm)) (sub.cons rfl sub.nil))))) (Ent.refl _) (by simp)
          rfl
        · repeat' (first | (refine Cm.pvs rfl ?_) | (refine Cm.step rfl ?_) | (refine Cm.done ?_) | (refine Cm.ldb rfl rfl (by rfl) ?_) | (refine Cm.ldbs rfl rfl rfl ?_))
          refine Cx.ifp rfl (fun h3 => ?_) (fun h3 => ?_)
          · repeat' (first|refine Zo0 rfl ?_|refine Zo1 ?_|refine Zo2 ?_|refine Zo3 ?_|refine Zo4 ?_|refine Zo5 ?_|refine Zo6 ?_|refine Zo7 ?_|refine Zo8 rfl ?_|refine Zo9 rfl ?_|refine Zoa ?_|refine Zob ?_|refine Zoc ?_|refine Zod ?_|refine Zoe ?_|refine Zof ?_|refine Zog ?_|refine Zoh ?_|refine Zoi rfl ?_|refine Zoj rfl ?_|refine Zok rfl ?_|refine Zol rfl ?_|refine Zom rfl (by rfl) ?_|refine Zon rfl rfl ?_|refine Zoo rfl rfl rfl rfl (by rfl) (by rfl) ?_|refine Zop rfl trivial ?_|refine Zoq rfl rfl rfl ?_)
            refine Klp.nm ⟨3, by omega⟩ (sub.cons rfl (sub.cons rfl (sub.cons rfl (sub.cons (Eq.trans ?_ (congrArg (fun o => some (lptr b o)) (leastUp_less (k := 2) hop hlu h3 : leastUp now m' 3 = _).symm)) (sub.cons rfl sub.nil))))) (Ent.refl _) (by simp)
            rfl
          · repeat' (first|refine Zo0 rfl ?_|refine Zo1 ?_|refine Zo2 ?_|refine Zo3 ?_|refine Zo4 ?_|refine Zo5 ?_|refine Zo6 ?_|refine Zo7 ?_|refine Zo8 rfl ?_|refine Zo9 rfl ?_|refine Zoa ?_|refine Zob ?_|refine Zoc ?_|refine Zod ?_|refine Zoe ?_|refine Zof ?_|refine Zog ?_|refine Zoh ?_|refine Zoi rfl ?_|refine Zoj rfl ?_|refine Zok rfl ?_|refine Zol rfl ?_|refine Zom rfl (by rfl) ?_|refine Zon rfl rfl ?_|refine Zoo rfl rfl rfl rfl (by rfl) (by rfl) ?_|refine Zop rfl trivial ?_|refine Zoq rfl rfl rfl ?_)
            refine Klp.nm ⟨3, by omega⟩ (sub.cons rfl (sub.cons rfl (sub.cons rfl (sub.cons (Eq.trans ?_ (congrArg (fun o => some (lptr b o)) (leastUp_keep (k := 2) hop hlu h3 : leastUp now m' 3 = _).symm)) (sub.cons rfl sub.nil))))) (Ent.refl _) (by simp)
            rfl
      · repeat' (first|refine Zo0 rfl ?_|refine Zo1 ?_|refine Zo2 ?_|refine Zo3 ?_|refine Zo4 ?_|refine Zo5 ?_|refine Zo6 ?_|refine Zo7 ?_|refine Zo8 rfl ?_|refine Zo9 rfl ?_|refine Zoa ?_|refine Zob ?_|refine Zoc ?_|refine Zod ?_|refine Zoe ?_|refine Zof ?_|refine Zog ?_|refine Zoh ?_|refine Zoi rfl ?_|refine Zoj rfl ?_|refine Zok rfl ?_|refine Zol rfl ?_|refine Zom rfl (by rfl) ?_|refine Zon rfl rfl ?_|refine Zoo rfl rfl rfl rfl (by rfl) (by rfl) ?_|refine Zop rfl trivial ?_|refine Zoq rfl rfl rfl ?_)
        refine Cx.calm (by kernel_rfl) ?_
        repeat' (first | (refine Cm.pvs rfl ?_) | (refine Cm.step rfl ?_) | (refine Cm.done ?_) | (refine Cm.ldb rfl rfl (by rfl) ?_) | (refine Cm.ldbs rfl rfl rfl ?_))
        refine Cm.ca rfl rfl (bucketOpen (tag := m'.t2) (xs := m'.x2) (Has.cell rfl) (Has.cell rfl) rfl h2 hnow) ?_
        cases hop : openM now m'.t2 m'.x2
        · repeat' (first | (refine Cm.pvs rfl ?_) | (refine Cm.step rfl ?_) | (refine Cm.done ?_) | (refine Cm.ldb rfl rfl (by rfl) ?_) | (refine Cm.ldbs rfl rfl rfl ?_))
          repeat' (first|refine Zo0 rfl ?_|refine Zo1 ?_|refine Zo2 ?_|refine Zo3 ?_|refine Zo4 ?_|refine Zo5 ?_|refine Zo6 ?_|refine Zo7 ?_|refine Zo8 rfl ?_|refine Zo9 rfl ?_|refine Zoa ?_|refine Zob ?_|refine Zoc ?_|refine Zod ?_|refine Zoe ?_|refine Zof ?_|refine Zog ?_|refine Zoh ?_|refine Zoi rfl ?_|refine Zoj rfl ?_|refine Zok rfl ?_|refine Zol rfl ?_|refine Zom rfl (by rfl) ?_|refine Zon rfl rfl ?_|refine Zoo rfl rfl rfl rfl (by rfl) (by rfl) ?_|refine Zop rfl trivial ?_|refine Zoq rfl rfl rfl ?_)
          refine Klp.nm ⟨3, by omega⟩ (sub.cons rfl (sub.cons rfl (sub.cons rfl (sub.cons (Eq.trans ?_ (congrArg (fun o => some (lptr b o)) ((leastUp_no (k := 2) hop).trans hlu : leastUp now m' 3 = _).symm)) (sub.cons rfl sub.nil))))) (Ent.refl _) (by simp)
          rfl
        · repeat' (first | (refine Cm.pvs rfl ?_) | (refine Cm.step rfl ?_) | (refine Cm.done ?_) | (refine Cm.ldb rfl rfl (by rfl) ?_) | (refine Cm.ldbs rfl rfl rfl ?_))
          refine Cx.ifp rfl (fun h3 => ?_) (fun h3 => ?_)
          · repeat' (first|refine Zo0 rfl ?_|refine Zo1 ?_|refine Zo2 ?_|refine Zo3 ?_|refine Zo4 ?_|refine Zo5 ?_|refine Zo6 ?_|refine Zo7 ?_|refine Zo8 rfl ?_|refine Zo9 rfl ?_|refine Zoa ?_|refine Zob ?_|refine Zoc ?_|refine Zod ?_|refine Zoe ?_|refine Zof ?_|refine Zog ?_|refine Zoh ?_|refine Zoi rfl ?_|refine Zoj rfl ?_|refine Zok rfl ?_|refine Zol rfl ?_|refine Zom rfl (by rfl) ?_|refine Zon rfl rfl ?_|refine Zoo rfl rfl rfl rfl (by rfl) (by rfl) ?_|refine Zop rfl trivial ?_|refine Zoq rfl rfl rfl ?_)
            refine Klp.nm ⟨3, by omega⟩ (sub.cons rfl (sub.cons rfl (sub.cons rfl (sub.cons (Eq.trans ?_ (congrArg (fun o => some (lptr b o)) (leastUp_less (k := 2) hop hlu h3 : leastUp now m' 3 = _).symm)) (sub.cons rfl sub.nil))))) (Ent.refl _) (by simp)
            rfl
          · repeat' (first|refine Zo0 rfl ?_|refine Zo1 ?_|refine Zo2 ?_|refine Zo3 ?_|refine Zo4 ?_|refine Zo5 ?_|refine Zo6 ?_|refine Zo7 ?_|refine Zo8 rfl ?_|refine Zo9 rfl ?_|refine Zoa ?_|refine Zob ?_|refine Zoc ?_|refine Zod ?_|refine Zoe ?_|refine Zof ?_|refine Zog ?_|refine Zoh ?_|refine Zoi rfl ?_|refine Zoj rfl ?_|refine Zok rfl ?_|refine Zol rfl ?_|refine Zom rfl (by rfl) ?_|refine Zon rfl rfl ?_|refine Zoo rfl rfl rfl rfl (by rfl) (by rfl) ?_|refine Zop rfl trivial ?_|refine Zoq rfl rfl rfl ?_)
            refine Klp.nm ⟨3, by omega⟩ (sub.cons rfl (sub.cons rfl (sub.cons rfl (sub.cons (Eq.trans ?_ (congrArg (fun o => some (lptr b o)) (leastUp_keep (k := 2) hop hlu h3 : leastUp now m' 3 = _).symm)) (sub.cons rfl sub.nil))))) (Ent.refl _) (by simp)
            rfl
  · repeat' (first|refine Zo0 rfl ?_|refine Zo1 ?_|refine Zo2 ?_|refine Zo3 ?_|refine Zo4 ?_|refine Zo5 ?_|refine Zo6 ?_|refine Zo7 ?_|refine Zo8 rfl ?_|refine Zo9 rfl ?_|refine Zoa ?_|refine Zob ?_|refine Zoc ?_|refine Zod ?_|refine Zoe ?_|refine Zof ?_|refine Zog ?_|refine Zoh ?_|refine Zoi rfl ?_|refine Zoj rfl ?_|refine Zok rfl ?_|refine Zol rfl ?_|refine Zom rfl (by rfl) ?_|refine Zon rfl rfl ?_|refine Zoo rfl rfl rfl rfl (by rfl) (by rfl) ?_|refine Zop rfl trivial ?_|refine Zoq rfl rfl rfl ?_)
    have hall : ∀ o, leastUp now m' 3 = o → readyAll now m' = match o with
        | none => ([], m')
        | some j => (m'.items j ++ (readyAll now (m'.put j 0 [])).1, (readyAll now (m'.put j 0 [])).2) := by
      intro o ho
      unfold readyAll
      simp only [if_pos h2]
      cases o with
      | none =>
        cases hc : m'.cnt with
        | zero => rfl
        | succ c => simp [readyM, ho]
      | some j =>
        rw [cnt_put (leastUp_lt ho).1 (open_ne (leastUp_lt ho).2)]
        simp [readyM, ho]
    rcases hlu : leastUp now m' 3 with _ | j
    · have hra := hall _ hlu
      dsimp only at hra
      rw [hra] at he1 he2
      simp only [List.append_nil] at he1
      subst he1; subst he2
      repeat' (first|refine Zo0 rfl ?_|refine Zo1 ?_|refine Zo2 ?_|refine Zo3 ?_|refine Zo4 ?_|refine Zo5 ?_|refine Zo6 ?_|refine Zo7 ?_|refine Zo8 rfl ?_|refine Zo9 rfl ?_|refine Zoa ?_|refine Zob ?_|refine Zoc ?_|refine Zod ?_|refine Zoe ?_|refine Zof ?_|refine Zog ?_|refine Zoh ?_|refine Zoi rfl ?_|refine Zoj rfl ?_|refine Zok rfl ?_|refine Zol rfl ?_|refine Zom rfl (by rfl) ?_|refine Zon rfl rfl ?_|refine Zoo rfl rfl rfl rfl (by rfl) (by rfl) ?_|refine Zop rfl trivial ?_|refine Zoq rfl rfl rfl ?_)
      refine Kr.one (.inr rfl) rfl ?_ ⟨ro, co, rfl, rfl⟩
      refine Ent.trans (LimboO.close (a := some ⟨b, 0, none⟩) (r0 := r0) (r1 := r1) (r2 := r2) _ rfl rfl rfl rfl rfl rfl rfl rfl rfl rfl) ?_
      repeat (first | exact Ent.refl _ | (refine Ent.take1 ?_) | (refine Ent.trans Ent.drop ?_))
    · have hra := hall _ hlu
      have hj := (leastUp_lt hlu).1
      have hne := open_ne (leastUp_lt hlu).2
      have hsp := size_put (m := m') hj
      have hcp := cnt_put hj hne
      dsimp only at hra
      rw [hra, ← List.append_assoc] at he1
      rw [hra] at he2
      have hm1 : out.length + (m'.x0.length + m'.x1.length + m'.x2.length) = m.size := hsz
      rcases (show j = 0 ∨ j = 1 ∨ j = 2 by omega) with rfl | rfl | rfl
      · repeat' (first|refine Zo0 rfl ?_|refine Zo1 ?_|refine Zo2 ?_|refine Zo3 ?_|refine Zo4 ?_|refine Zo5 ?_|refine Zo6 ?_|refine Zo7 ?_|refine Zo8 rfl ?_|refine Zo9 rfl ?_|refine Zoa ?_|refine Zob ?_|refine Zoc ?_|refine Zod ?_|refine Zoe ?_|refine Zof ?_|refine Zog ?_|refine Zoh ?_|refine Zoi rfl ?_|refine Zoj rfl ?_|refine Zok rfl ?_|refine Zol rfl ?_|refine Zom rfl (by rfl) ?_|refine Zon rfl rfl ?_|refine Zoo rfl rfl rfl rfl (by rfl) (by rfl) ?_|refine Zop rfl trivial ?_|refine Zoq rfl rfl rfl ?_)
        refine Sx.rowkey (a := r0) fun hxj hnj _ hkj => ?_
        refine Sx.ap (ra := ro) rfl rfl (Rd.any (a := r0) hxj (hkj.imp (fun h => h.2.1) id)) (ones_ints _) (by simp [maxLen]; omega) (by omega) fun ra ca hc => ?_
        repeat' (first|refine Zo0 rfl ?_|refine Zo1 ?_|refine Zo2 ?_|refine Zo3 ?_|refine Zo4 ?_|refine Zo5 ?_|refine Zo6 ?_|refine Zo7 ?_|refine Zo8 rfl ?_|refine Zo9 rfl ?_|refine Zoa ?_|refine Zob ?_|refine Zoc ?_|refine Zod ?_|refine Zoe ?_|refine Zof ?_|refine Zog ?_|refine Zoh ?_|refine Zoi rfl ?_|refine Zoj rfl ?_|refine Zok rfl ?_|refine Zol rfl ?_|refine Zom rfl (by rfl) ?_|refine Zon rfl rfl ?_|refine Zoo rfl rfl rfl rfl (by rfl) (by rfl) ?_|refine Zop rfl trivial ?_|refine Zoq rfl rfl rfl ?_)
        refine Sx.st (b := b) rfl rfl rfl rfl rfl rfl ?_
        dsimp only [lay]
        repeat' (first|refine Zo0 rfl ?_|refine Zo1 ?_|refine Zo2 ?_|refine Zo3 ?_|refine Zo4 ?_|refine Zo5 ?_|refine Zo6 ?_|refine Zo7 ?_|refine Zo8 rfl ?_|refine Zo9 rfl ?_|refine Zoa ?_|refine Zob ?_|refine Zoc ?_|refine Zod ?_|refine Zoe ?_|refine Zof ?_|refine Zog ?_|refine Zoh ?_|refine Zoi rfl ?_|refine Zoj rfl ?_|refine Zok rfl ?_|refine Zol rfl ?_|refine Zom rfl (by rfl) ?_|refine Zon rfl rfl ?_|refine Zoo rfl rfl rfl rfl (by rfl) (by rfl) ?_|refine Zop rfl trivial ?_|refine Zoq rfl rfl rfl ?_)
        refine Klp.nm ⟨((out ++ m'.items 0, m'.put 0 0 []), (ra, ca)), by dsimp only; rw [List.length_append]; omega, he1, he2⟩ (sub.cons rfl (sub.cons rfl (sub.cons ?_ sub.nil))) ?_ (by dsimp only; omega)
        · show _ = some (Value.slice ra (out ++ m'.items 0).length ca)
          rw [show (out ++ m'.items 0).length = out.length + m'.x0.length by simp [Lm.items]]
          rfl
        · dsimp only
          refine Ent.trans (Ent.rownil 3 1) ?_
          refine Ent.trans (LimboO.close (a := some ⟨b, 0, none⟩) (r0 := none) (r1 := r1) (r2 := r2) (m'.put 0 0 []) rfl rfl rfl rfl rfl rfl rfl rfl rfl rfl) ?_
          rw [show (out ++ m'.items 0).length = out.length + m'.x0.length by simp [Lm.items], show ints (out ++ m'.items 0) = ints out ++ ints m'.x0 by rw [ints_append]; rfl]
          repeat (first | exact Ent.refl _ | (refine Ent.take1 ?_) | (refine Ent.trans Ent.drop ?_))
      · repeat' (first|refine Zo0 rfl ?_|refine Zo1 ?_|refine Zo2 ?_|refine Zo3 ?_|refine Zo4 ?_|refine Zo5 ?_|refine Zo6 ?_|refine Zo7 ?_|refine Zo8 rfl ?_|refine Zo9 rfl ?_|refine Zoa ?_|refine Zob ?_|refine Zoc ?_|refine Zod ?_|refine Zoe ?_|refine Zof ?_|refine Zog ?_|refine Zoh ?_|refine Zoi rfl ?_|refine Zoj rfl ?_|refine Zok rfl ?_|refine Zol rfl ?_|refine Zom rfl (by rfl) ?_|refine Zon rfl rfl ?_|refine Zoo rfl rfl rfl rfl (by rfl) (by rfl) ?_|refine Zop rfl trivial ?_|refine Zoq rfl rfl rfl ?_)
        refine Sx.rowkey (a := r1) fun hxj hnj _ hkj => ?_
        refine Sx.ap (ra := ro) rfl rfl (Rd.any (a := r1) hxj (hkj.imp (fun h => h.2.1) id)) (ones_ints _) (by simp [maxLen]; omega) (by omega) fun ra ca hc => ?_
        repeat' (first|refine Zo0 rfl ?_|refine Zo1 ?_|refine Zo2 ?_|refine Zo3 ?_|refine Zo4 ?_|refine Zo5 ?_|refine Zo6 ?_|refine Zo7 ?_|refine Zo8 rfl ?_|refine Zo9 rfl ?_|refine Zoa ?_|refine Zob ?_|refine Zoc ?_|refine Zod ?_|refine Zoe ?_|refine Zof ?_|refine Zog ?_|refine Zoh ?_|refine Zoi rfl ?_|refine Zoj rfl ?_|refine Zok rfl ?_|refine Zol rfl ?_|refine Zom rfl (by rfl) ?_|refine Zon rfl rfl ?_|refine Zoo rfl rfl rfl rfl (by rfl) (by rfl) ?_|refine Zop rfl trivial ?_|refine Zoq rfl rfl rfl ?_)
        refine Sx.st (b := b) rfl rfl rfl rfl rfl rfl ?_
        dsimp only [lay]
        repeat' (first|refine Zo0 rfl ?_|refine Zo1 ?_|refine Zo2 ?_|refine Zo3 ?_|refine Zo4 ?_|refine Zo5 ?_|refine Zo6 ?_|refine Zo7 ?_|refine Zo8 rfl ?_|refine Zo9 rfl ?_|refine Zoa ?_|refine Zob ?_|refine Zoc ?_|refine Zod ?_|refine Zoe ?_|refine Zof ?_|refine Zog ?_|refine Zoh ?_|refine Zoi rfl ?_|refine Zoj rfl ?_|refine Zok rfl ?_|refine Zol rfl ?_|refine Zom rfl (by rfl) ?_|refine Zon rfl rfl ?_|refine Zoo rfl rfl rfl rfl (by rfl) (by rfl) ?_|refine Zop rfl trivial ?_|refine Zoq rfl rfl rfl ?_)
        refine Klp.nm ⟨((out ++ m'.items 1, m'.put 1 0 []), (ra, ca)), by dsimp only; rw [List.length_append]; omega, he1, he2⟩ (sub.cons rfl (sub.cons rfl (sub.cons ?_ sub.nil))) ?_ (by dsimp only; omega)
        · show _ = some (Value.slice ra (out ++ m'.items 1).length ca)
          rw [show (out ++ m'.items 1).length = out.length + m'.x1.length by simp [Lm.items]]
          rfl
        · dsimp only
          refine Ent.trans (Ent.rownil 3 1) ?_
          refine Ent.trans (LimboO.close (a := some ⟨b, 0, none⟩) (r0 := r0) (r1 := none) (r2 := r2) (m'.put 1 0 []) rfl rfl rfl rfl rfl rfl rfl rfl rfl rfl) ?_
          rw [show (out ++ m'.items 1).length = out.length + m'.x1.length by simp [Lm.items], show ints (out ++ m'.items 1) = ints out ++ ints m'.x1 by rw [ints_append]; rfl]
          repeat (first | exact Ent.refl _ | (refine Ent.take1 ?_) | (refine Ent.trans Ent.drop ?_))
      · repeat' (first|refine Zo0 rfl ?_|refine Zo1 ?_|refine Zo2 ?_|refine Zo3 ?_|refine Zo4 ?_|refine Zo5 ?_|refine Zo6 ?_|refine Zo7 ?_|refine Zo8 rfl ?_|refine Zo9 rfl ?_|refine Zoa ?_|refine Zob ?_|refine Zoc ?_|refine Zod ?_|refine Zoe ?_|refine Zof ?_|refine Zog ?_|refine Zoh ?_|refine Zoi rfl ?_|refine Zoj rfl ?_|refine Zok rfl ?_|refine Zol rfl ?_|refine Zom rfl (by rfl) ?_|refine Zon rfl rfl ?_|refine Zoo rfl rfl rfl rfl (by rfl) (by rfl) ?_|refine Zop rfl trivial ?_|refine Zoq rfl rfl rfl ?_)
        refine Sx.rowkey (a := r2) fun hxj hnj _ hkj => ?_
        refine Sx.ap (ra := ro) rfl rfl (Rd.any (a := r2) hxj (hkj.imp (fun h => h.2.1) id)) (ones_ints _) (by simp [maxLen]; omega) (by omega) fun ra ca hc => ?_
        repeat' (first|refine Zo0 rfl ?_|refine Zo1 ?_|refine Zo2 ?_|refine Zo3 ?_|refine Zo4 ?_|refine Zo5 ?_|refine Zo6 ?_|refine Zo7 ?_|refine Zo8 rfl ?_|refine Zo9 rfl ?_|refine Zoa ?_|refine Zob ?_|refine Zoc ?_|refine Zod ?_|refine Zoe ?_|refine Zof ?_|refine Zog ?_|refine Zoh ?_|refine Zoi rfl ?_|refine Zoj rfl ?_|refine Zok rfl ?_|refine Zol rfl ?_|refine Zom rfl (by rfl) ?_|refine Zon rfl rfl ?_|refine Zoo rfl rfl rfl rfl (by rfl) (by rfl) ?_|refine Zop rfl trivial ?_|refine Zoq rfl rfl rfl ?_)
        refine Sx.st (b := b) rfl rfl rfl rfl rfl rfl ?_
        dsimp only [lay]
        repeat' (first|refine Zo0 rfl ?_|refine Zo1 ?_|refine Zo2 ?_|refine Zo3 ?_|refine Zo4 ?_|refine Zo5 ?_|refine Zo6 ?_|refine Zo7 ?_|refine Zo8 rfl ?_|refine Zo9 rfl ?_|refine Zoa ?_|refine Zob ?_|refine Zoc ?_|refine Zod ?_|refine Zoe ?_|refine Zof ?_|refine Zog ?_|refine Zoh ?_|refine Zoi rfl ?_|refine Zoj rfl ?_|refine Zok rfl ?_|refine Zol rfl ?_|refine Zom rfl (by rfl) ?_|refine Zon rfl rfl ?_|refine Zoo rfl rfl rfl rfl (by rfl) (by rfl) ?_|refine Zop rfl trivial ?_|refine Zoq rfl rfl rfl ?_)
        refine Klp.nm ⟨((out ++ m'.items 2, m'.put 2 0 []), (ra, ca)), by dsimp only; rw [List.length_append]; omega, he1, he2⟩ (sub.cons rfl (sub.cons rfl (sub.cons ?_ sub.nil))) ?_ (by dsimp only; omega)
        · show _ = some (Value.slice ra (out ++ m'.items 2).length ca)
          rw [show (out ++ m'.items 2).length = out.length + m'.x2.length by simp [Lm.items]]
          rfl
        · dsimp only
          refine Ent.trans (Ent.rownil 3 1) ?_
          refine Ent.trans (LimboO.close (a := some ⟨b, 0, none⟩) (r0 := r0) (r1 := r1) (r2 := none) (m'.put 2 0 []) rfl rfl rfl rfl rfl rfl rfl rfl rfl rfl) ?_
          rw [show (out ++ m'.items 2).length = out.length + m'.x2.length by simp [Lm.items], show ints (out ++ m'.items 2) = ints out ++ ints m'.x2 by rw [ints_append]; rfl]
          repeat (first | exact Ent.refl _ | (refine Ent.take1 ?_) | (refine Ent.trans Ent.drop ?_))
end
end Go.Proofs.YtnbkjcmmjgkdaaaGreat
