/-
  Cells: Load, Store, Cas, Add.
-/
import Derived.Test.YtnbkjcmmjgkdaaaGreatMaD
set_option linter.unusedVariables false
set_option linter.unusedSimpArgs false
namespace Go.Proofs.YtnbkjcmmjgkdaaaGreat
open Go
attribute [local irreducible] Sx Cx Rx Fx Krg Ksq Kbl Klp Kr

section
variable {L F : St}
theorem cellsLoad {b : Nat} {m : Mm} {F : St} (i : Nat) (hi : i < m.ws.length) [t : Take L (some ⟨b, 0, none⟩) (MemO m) F] :
    Fx Tryz.prog 160 [.pointer (some ⟨b, 0, none⟩), .int .i64 i] L (fun v L' => v = .tuple #[wd (m.at_ i), .int .i64 0] ∧ L' = pt (some ⟨b, 0, none⟩) (MemO m.tick) :: F) := by
  refine Fx.mk Tryz.func160 k160 (Nat.le_of_ble_eq_true rfl) ?_
  dsimp only [c160, envOf, Nat.reduceAdd]
  repeat' (first|refine Zo0 rfl ?_|refine Zo1 ?_|refine Zo2 ?_|refine Zo3 ?_|refine Zo4 ?_|refine Zo5 ?_|refine Zo6 ?_|refine Zo7 ?_|refine Zo8 rfl ?_|refine Zo9 rfl ?_|refine Zoa ?_|refine Zob ?_|refine Zoc ?_|refine Zod ?_|refine Zoe ?_|refine Zof ?_|refine Zog ?_|refine Zoh ?_|refine Zoi rfl ?_|refine Zoj rfl ?_|refine Zok rfl ?_|refine Zol rfl ?_|refine Zom rfl (by rfl) ?_|refine Zon rfl rfl ?_|refine Zoo rfl rfl rfl rfl (by rfl) (by rfl) ?_|refine Zop rfl trivial ?_|refine Zoq rfl rfl rfl ?_)
  refine Sx.ca rfl (cellsIs (b := b) (m := m) (i : Int)) ?_
  rintro v L' ⟨rfl, rfl⟩
  rw [decide_eq_true (show (0 : Int) ≤ i ∧ (i : Int) < m.ws.length by omega)]
  repeat' (first|refine Zo0 rfl ?_|refine Zo1 ?_|refine Zo2 ?_|refine Zo3 ?_|refine Zo4 ?_|refine Zo5 ?_|refine Zo6 ?_|refine Zo7 ?_|refine Zo8 rfl ?_|refine Zo9 rfl ?_|refine Zoa ?_|refine Zob ?_|refine Zoc ?_|refine Zod ?_|refine Zoe ?_|refine Zof ?_|refine Zog ?_|refine Zoh ?_|refine Zoi rfl ?_|refine Zoj rfl ?_|refine Zok rfl ?_|refine Zol rfl ?_|refine Zom rfl (by rfl) ?_|refine Zon rfl rfl ?_|refine Zoo rfl rfl rfl rfl (by rfl) (by rfl) ?_|refine Zop rfl trivial ?_|refine Zoq rfl rfl rfl ?_)
  refine Sx.openp (t := t) rfl ?_
  rintro ⟨⟨r, c⟩, ⟨x0, x1, x2, x3, x4⟩⟩
  simp only [memL, List.cons_append, List.nil_append]
  refine Sx.liftp fun hm => ?_
  refine Sx.rowkey (a := r) fun hx0 hn0 _ hk0 => ?_
  obtain ⟨g, rfl⟩ : ∃ g, r = some ⟨g, 0, none⟩ := by
    rcases hk0 with h | h
    · omega
    · exact h
  have hlt := Mm.at_lt hm.1 i
  repeat' (first|refine Zo0 rfl ?_|refine Zo1 ?_|refine Zo2 ?_|refine Zo3 ?_|refine Zo4 ?_|refine Zo5 ?_|refine Zo6 ?_|refine Zo7 ?_|refine Zo8 rfl ?_|refine Zo9 rfl ?_|refine Zoa ?_|refine Zob ?_|refine Zoc ?_|refine Zod ?_|refine Zoe ?_|refine Zof ?_|refine Zog ?_|refine Zoh ?_|refine Zoi rfl ?_|refine Zoj rfl ?_|refine Zok rfl ?_|refine Zol rfl ?_|refine Zom rfl (by rfl) ?_|refine Zon rfl rfl ?_|refine Zoo rfl rfl rfl rfl (by rfl) (by rfl) ?_|refine Zop rfl trivial ?_|refine Zoq rfl rfl rfl ?_)
  refine Sx.pv rfl ⟨by omega, by omega⟩ ?_
  refine Sx.ldr rfl (v := wd (m.at_ i)) (by simpa using us_get (Mm.get hi)) ?_
  refine Sx.ent (MemO.close (a := some ⟨b, 0, none⟩) (r := some ⟨g, 0, none⟩) m hm rfl rfl rfl) ?_
  refine Sx.ca rfl (cellsStroke (b := b) (m := m) 1 i (m.at_ i) true hi hlt) ?_
  rintro v L' ⟨rfl, rfl⟩
  rw [putSame m i hi]
  repeat' (first|refine Zo0 rfl ?_|refine Zo1 ?_|refine Zo2 ?_|refine Zo3 ?_|refine Zo4 ?_|refine Zo5 ?_|refine Zo6 ?_|refine Zo7 ?_|refine Zo8 rfl ?_|refine Zo9 rfl ?_|refine Zoa ?_|refine Zob ?_|refine Zoc ?_|refine Zod ?_|refine Zoe ?_|refine Zof ?_|refine Zog ?_|refine Zoh ?_|refine Zoi rfl ?_|refine Zoj rfl ?_|refine Zok rfl ?_|refine Zol rfl ?_|refine Zom rfl (by rfl) ?_|refine Zon rfl rfl ?_|refine Zoo rfl rfl rfl rfl (by rfl) (by rfl) ?_|refine Zop rfl trivial ?_|refine Zoq rfl rfl rfl ?_)
  exact Kr.two (.inr rfl) rfl rfl (Ent.refl _) ⟨rfl, rfl⟩
theorem cellsStore {b : Nat} {m : Mm} {F : St} (i w : Nat) (hi : i < m.ws.length) (hw : w < 18446744073709551616) [t : Take L (some ⟨b, 0, none⟩) (MemO m) F] :
    Fx Tryz.prog 187 [.pointer (some ⟨b, 0, none⟩), .int .i64 i, wd w] L (fun v L' => v = .int .i64 0 ∧ L' = pt (some ⟨b, 0, none⟩) (MemO (m.put i w)) :: F) := by
  refine Fx.mk Tryz.func187 k187 (Nat.le_of_ble_eq_true rfl) ?_
  dsimp only [c187, envOf, Nat.reduceAdd]
  repeat' (first|refine Zo0 rfl ?_|refine Zo1 ?_|refine Zo2 ?_|refine Zo3 ?_|refine Zo4 ?_|refine Zo5 ?_|refine Zo6 ?_|refine Zo7 ?_|refine Zo8 rfl ?_|refine Zo9 rfl ?_|refine Zoa ?_|refine Zob ?_|refine Zoc ?_|refine Zod ?_|refine Zoe ?_|refine Zof ?_|refine Zog ?_|refine Zoh ?_|refine Zoi rfl ?_|refine Zoj rfl ?_|refine Zok rfl ?_|refine Zol rfl ?_|refine Zom rfl (by rfl) ?_|refine Zon rfl rfl ?_|refine Zoo rfl rfl rfl rfl (by rfl) (by rfl) ?_|refine Zop rfl trivial ?_|refine Zoq rfl rfl rfl ?_)
  refine Sx.ca rfl (cellsIs (b := b) (m := m) (i : Int)) ?_
  rintro v L' ⟨rfl, rfl⟩
  rw [decide_eq_true (show (0 : Int) ≤ i ∧ (i : Int) < m.ws.length by omega)]
  repeat' (first|refine Zo0 rfl ?_|refine Zo1 ?_|refine Zo2 ?_|refine Zo3 ?_|refine Zo4 ?_|refine Zo5 ?_|refine Zo6 ?_|refine Zo7 ?_|refine Zo8 rfl ?_|refine Zo9 rfl ?_|refine Zoa ?_|refine Zob ?_|refine Zoc ?_|refine Zod ?_|refine Zoe ?_|refine Zof ?_|refine Zog ?_|refine Zoh ?_|refine Zoi rfl ?_|refine Zoj rfl ?_|refine Zok rfl ?_|refine Zol rfl ?_|refine Zom rfl (by rfl) ?_|refine Zon rfl rfl ?_|refine Zoo rfl rfl rfl rfl (by rfl) (by rfl) ?_|refine Zop rfl trivial ?_|refine Zoq rfl rfl rfl ?_)
  refine Sx.ca rfl (cellsStroke (b := b) (m := m) 2 i w true hi hw) ?_
  rintro v L' ⟨rfl, rfl⟩
  repeat' (first|refine Zo0 rfl ?_|refine Zo1 ?_|refine Zo2 ?_|refine Zo3 ?_|refine Zo4 ?_|refine Zo5 ?_|refine Zo6 ?_|refine Zo7 ?_|refine Zo8 rfl ?_|refine Zo9 rfl ?_|refine Zoa ?_|refine Zob ?_|refine Zoc ?_|refine Zod ?_|refine Zoe ?_|refine Zof ?_|refine Zog ?_|refine Zoh ?_|refine Zoi rfl ?_|refine Zoj rfl ?_|refine Zok rfl ?_|refine Zol rfl ?_|refine Zom rfl (by rfl) ?_|refine Zon rfl rfl ?_|refine Zoo rfl rfl rfl rfl (by rfl) (by rfl) ?_|refine Zop rfl trivial ?_|refine Zoq rfl rfl rfl ?_)
  exact Kr.one (.inr rfl) rfl (Ent.refl _) ⟨rfl, rfl⟩
theorem cellsCas {b : Nat} {m : Mm} {F : St} (i o w : Nat) (hi : i < m.ws.length) (hw : w < 18446744073709551616) [t : Take L (some ⟨b, 0, none⟩) (MemO m) F] :
    Fx Tryz.prog 202 [.pointer (some ⟨b, 0, none⟩), .int .i64 i, wd o, wd w] L (fun v L' => v = .tuple #[.bool (decide (m.at_ i = o)), .int .i64 0] ∧ L' = pt (some ⟨b, 0, none⟩) (MemO (m.cas i o w)) :: F) := by
  refine Fx.mk Tryz.func202 k202 (Nat.le_of_ble_eq_true rfl) ?_
  dsimp only [c202, envOf, Nat.reduceAdd]
  repeat' (first|refine Zo0 rfl ?_|refine Zo1 ?_|refine Zo2 ?_|refine Zo3 ?_|refine Zo4 ?_|refine Zo5 ?_|refine Zo6 ?_|refine Zo7 ?_|refine Zo8 rfl ?_|refine Zo9 rfl ?_|refine Zoa ?_|refine Zob ?_|refine Zoc ?_|refine Zod ?_|refine Zoe ?_|refine Zof ?_|refine Zog ?_|refine Zoh ?_|refine Zoi rfl ?_|refine Zoj rfl ?_|refine Zok rfl ?_|refine Zol rfl ?_|refine Zom rfl (by rfl) ?_|refine Zon rfl rfl ?_|refine Zoo rfl rfl rfl rfl (by rfl) (by rfl) ?_|refine Zop rfl trivial ?_|refine Zoq rfl rfl rfl ?_)
  refine Sx.ca rfl (cellsIs (b := b) (m := m) (i : Int)) ?_
  rintro v L' ⟨rfl, rfl⟩
  rw [decide_eq_true (show (0 : Int) ≤ i ∧ (i : Int) < m.ws.length by omega)]
  repeat' (first|refine Zo0 rfl ?_|refine Zo1 ?_|refine Zo2 ?_|refine Zo3 ?_|refine Zo4 ?_|refine Zo5 ?_|refine Zo6 ?_|refine Zo7 ?_|refine Zo8 rfl ?_|refine Zo9 rfl ?_|refine Zoa ?_|refine Zob ?_|refine Zoc ?_|refine Zod ?_|refine Zoe ?_|refine Zof ?_|refine Zog ?_|refine Zoh ?_|refine Zoi rfl ?_|refine Zoj rfl ?_|refine Zok rfl ?_|refine Zol rfl ?_|refine Zom rfl (by rfl) ?_|refine Zon rfl rfl ?_|refine Zoo rfl rfl rfl rfl (by rfl) (by rfl) ?_|refine Zop rfl trivial ?_|refine Zoq rfl rfl rfl ?_)
  refine Sx.openp (t := t) rfl ?_
  rintro ⟨⟨r, c⟩, ⟨x0, x1, x2, x3, x4⟩⟩
  simp only [memL, List.cons_append, List.nil_append]
  refine Sx.liftp fun hm => ?_
  refine Sx.rowkey (a := r) fun hx0 hn0 _ hk0 => ?_
  obtain ⟨g, rfl⟩ : ∃ g, r = some ⟨g, 0, none⟩ := by
    rcases hk0 with h | h
    · omega
    · exact h
  have hlt := Mm.at_lt hm.1 i
  repeat' (first|refine Zo0 rfl ?_|refine Zo1 ?_|refine Zo2 ?_|refine Zo3 ?_|refine Zo4 ?_|refine Zo5 ?_|refine Zo6 ?_|refine Zo7 ?_|refine Zo8 rfl ?_|refine Zo9 rfl ?_|refine Zoa ?_|refine Zob ?_|refine Zoc ?_|refine Zod ?_|refine Zoe ?_|refine Zof ?_|refine Zog ?_|refine Zoh ?_|refine Zoi rfl ?_|refine Zoj rfl ?_|refine Zok rfl ?_|refine Zol rfl ?_|refine Zom rfl (by rfl) ?_|refine Zon rfl rfl ?_|refine Zoo rfl rfl rfl rfl (by rfl) (by rfl) ?_|refine Zop rfl trivial ?_|refine Zoq rfl rfl rfl ?_)
  refine Sx.pv rfl ⟨by omega, by omega⟩ ?_
  refine Sx.ldr rfl (v := wd (m.at_ i)) (by simpa using us_get (Mm.get hi)) ?_
  repeat' (first|refine Zo0 rfl ?_|refine Zo1 ?_|refine Zo2 ?_|refine Zo3 ?_|refine Zo4 ?_|refine Zo5 ?_|refine Zo6 ?_|refine Zo7 ?_|refine Zo8 rfl ?_|refine Zo9 rfl ?_|refine Zoa ?_|refine Zob ?_|refine Zoc ?_|refine Zod ?_|refine Zoe ?_|refine Zof ?_|refine Zog ?_|refine Zoh ?_|refine Zoi rfl ?_|refine Zoj rfl ?_|refine Zok rfl ?_|refine Zol rfl ?_|refine Zom rfl (by rfl) ?_|refine Zon rfl rfl ?_|refine Zoo rfl rfl rfl rfl (by rfl) (by rfl) ?_|refine Zop rfl trivial ?_|refine Zoq rfl rfl rfl ?_)
  refine Cx.ifn rfl (fun h => ?_) (fun h => ?_)
  · have h' : m.at_ i ≠ o := fun e => h (by rw [e])
    repeat' (first|refine Zo0 rfl ?_|refine Zo1 ?_|refine Zo2 ?_|refine Zo3 ?_|refine Zo4 ?_|refine Zo5 ?_|refine Zo6 ?_|refine Zo7 ?_|refine Zo8 rfl ?_|refine Zo9 rfl ?_|refine Zoa ?_|refine Zob ?_|refine Zoc ?_|refine Zod ?_|refine Zoe ?_|refine Zof ?_|refine Zog ?_|refine Zoh ?_|refine Zoi rfl ?_|refine Zoj rfl ?_|refine Zok rfl ?_|refine Zol rfl ?_|refine Zom rfl (by rfl) ?_|refine Zon rfl rfl ?_|refine Zoo rfl rfl rfl rfl (by rfl) (by rfl) ?_|refine Zop rfl trivial ?_|refine Zoq rfl rfl rfl ?_)
    refine Sx.pv rfl ⟨by omega, by omega⟩ ?_
    refine Sx.ldr rfl (v := wd (m.at_ i)) (by simpa using us_get (Mm.get hi)) ?_
    refine Sx.ent (MemO.close (a := some ⟨b, 0, none⟩) (r := some ⟨g, 0, none⟩) m hm rfl rfl rfl) ?_
    refine Sx.ca rfl (cellsStroke (b := b) (m := m) 3 i (m.at_ i) false hi hlt) ?_
    rintro v L' ⟨rfl, rfl⟩
    rw [putSame m i hi]
    repeat' (first|refine Zo0 rfl ?_|refine Zo1 ?_|refine Zo2 ?_|refine Zo3 ?_|refine Zo4 ?_|refine Zo5 ?_|refine Zo6 ?_|refine Zo7 ?_|refine Zo8 rfl ?_|refine Zo9 rfl ?_|refine Zoa ?_|refine Zob ?_|refine Zoc ?_|refine Zod ?_|refine Zoe ?_|refine Zof ?_|refine Zog ?_|refine Zoh ?_|refine Zoi rfl ?_|refine Zoj rfl ?_|refine Zok rfl ?_|refine Zol rfl ?_|refine Zom rfl (by rfl) ?_|refine Zon rfl rfl ?_|refine Zoo rfl rfl rfl rfl (by rfl) (by rfl) ?_|refine Zop rfl trivial ?_|refine Zoq rfl rfl rfl ?_)
    refine Kr.two (.inr rfl) rfl rfl (Ent.refl _) ⟨?_, ?_⟩
    · rw [decide_eq_false h']
    · unfold Mm.cas; rw [if_neg h']
  · have h' : m.at_ i = o := by omega
    refine Cx.ent (MemO.close (a := some ⟨b, 0, none⟩) (r := some ⟨g, 0, none⟩) m hm rfl rfl rfl) ?_
    repeat' (first|refine Zo0 rfl ?_|refine Zo1 ?_|refine Zo2 ?_|refine Zo3 ?_|refine Zo4 ?_|refine Zo5 ?_|refine Zo6 ?_|refine Zo7 ?_|refine Zo8 rfl ?_|refine Zo9 rfl ?_|refine Zoa ?_|refine Zob ?_|refine Zoc ?_|refine Zod ?_|refine Zoe ?_|refine Zof ?_|refine Zog ?_|refine Zoh ?_|refine Zoi rfl ?_|refine Zoj rfl ?_|refine Zok rfl ?_|refine Zol rfl ?_|refine Zom rfl (by rfl) ?_|refine Zon rfl rfl ?_|refine Zoo rfl rfl rfl rfl (by rfl) (by rfl) ?_|refine Zop rfl trivial ?_|refine Zoq rfl rfl rfl ?_)
    refine Sx.ca rfl (cellsStroke (b := b) (m := m) 3 i w true hi hw) ?_
    rintro v L' ⟨rfl, rfl⟩
    repeat' (first|refine Zo0 rfl ?_|refine Zo1 ?_|refine Zo2 ?_|refine Zo3 ?_|refine Zo4 ?_|refine Zo5 ?_|refine Zo6 ?_|refine Zo7 ?_|refine Zo8 rfl ?_|refine Zo9 rfl ?_|refine Zoa ?_|refine Zob ?_|refine Zoc ?_|refine Zod ?_|refine Zoe ?_|refine Zof ?_|refine Zog ?_|refine Zoh ?_|refine Zoi rfl ?_|refine Zoj rfl ?_|refine Zok rfl ?_|refine Zol rfl ?_|refine Zom rfl (by rfl) ?_|refine Zon rfl rfl ?_|refine Zoo rfl rfl rfl rfl (by rfl) (by rfl) ?_|refine Zop rfl trivial ?_|refine Zoq rfl rfl rfl ?_)
    refine Kr.two (.inr rfl) rfl rfl (Ent.refl _) ⟨?_, ?_⟩
    · rw [decide_eq_true h']
    · unfold Mm.cas; rw [if_pos h']
end
end Go.Proofs.YtnbkjcmmjgkdaaaGreat
