/-
  Cells: Load, Store, Cas, Add.
-/
import Derived.Test.YtnbkjcmmjgkdaaaMaD
set_option linter.unusedVariables false
set_option linter.unusedSimpArgs false
namespace Go.Proofs.Ytnbkjcmmjgkdaaa
open Go
attribute [local irreducible] Sx Cx Rx Fx Krg Ksq Kbl Klp Kr

section
variable {L F : St}
theorem cellsLoad {b : Nat} {m : Mm} {F : St} (i : Nat) (hi : i < m.ws.length) [t : Take L (some ⟨b, 0, none⟩) (MemO m) F] :
    Fx Try.prog 69 [.pointer (some ⟨b, 0, none⟩), .int .i64 i] L (fun v L' => v = .tuple #[wd (m.at_ i), .int .i64 0] ∧ L' = pt (some ⟨b, 0, none⟩) (MemO m.tick) :: F) := by
  refine Fx.mk Try.func69 k69 (Nat.le_of_ble_eq_true rfl) ?_
  dsimp only [c69, envOf, Nat.reduceAdd]
  repeat' (first | (refine Sx.pvs rfl ?_) | (refine Sx.nil ?_) | (refine Krg.i ?_) | (refine Ksq.nm ?_) | (refine Ksq.rt ?_) | (refine Ksq.ex ?_) | (refine Kbl.nm ?_) | (refine Kbl.rt ?_) | (refine Kbl.hit rfl ?_) | (refine Kbl.miss rfl ?_) | (refine Klp.rt ?_) | (refine Klp.ex ?_) | (refine Cx.sq ?_) | (refine Cx.rg ?_) | (refine Cx.bl ?_) | (refine Cx.sk ?_) | (refine Cx.rt ?_) | (refine Cx.ex ?_) | (refine Cx.yes rfl ?_) | (refine Cx.no rfl ?_) | (refine Sx.on rfl ?_) | (refine Sx.off rfl ?_) | (refine Sx.ldb rfl (by rfl) ?_) | (refine Sx.ldbs rfl rfl ?_) | (refine Sx.stb rfl rfl rfl rfl (by rfl) (by rfl) ?_) | (refine Sx.pv rfl trivial ?_) | (refine Sx.pk rfl rfl rfl ?_))
  refine Sx.ca rfl (cellsIs (b := b) (m := m) (i : Int)) ?_
  rintro v L' ⟨rfl, rfl⟩
  rw [decide_eq_true (show (0 : Int) ≤ i ∧ (i : Int) < m.ws.length by omega)]
  repeat' (first | (refine Sx.pvs rfl ?_) | (refine Sx.nil ?_) | (refine Krg.i ?_) | (refine Ksq.nm ?_) | (refine Ksq.rt ?_) | (refine Ksq.ex ?_) | (refine Kbl.nm ?_) | (refine Kbl.rt ?_) | (refine Kbl.hit rfl ?_) | (refine Kbl.miss rfl ?_) | (refine Klp.rt ?_) | (refine Klp.ex ?_) | (refine Cx.sq ?_) | (refine Cx.rg ?_) | (refine Cx.bl ?_) | (refine Cx.sk ?_) | (refine Cx.rt ?_) | (refine Cx.ex ?_) | (refine Cx.yes rfl ?_) | (refine Cx.no rfl ?_) | (refine Sx.on rfl ?_) | (refine Sx.off rfl ?_) | (refine Sx.ldb rfl (by rfl) ?_) | (refine Sx.ldbs rfl rfl ?_) | (refine Sx.stb rfl rfl rfl rfl (by rfl) (by rfl) ?_) | (refine Sx.pv rfl trivial ?_) | (refine Sx.pk rfl rfl rfl ?_))
  refine Sx.openp (t := t) rfl ?_
  rintro ⟨⟨r, c⟩, ⟨x0, x1, x2, x3, x4⟩⟩
  simp only [memL, List.cons_append, List.nil_append]
  refine Sx.liftp fun hm => ?_
  refine Sx.rowkey (a := r) fun hx0 hn0 _ hk0 => ?_
  obtain ⟨g, rfl⟩ : ∃ g, r = some ⟨g, 0, none⟩ := by
    rcases hk0 with h | h
    · omega
    · exact h
  have hlt := Mm.at_lt hm.1 i
  repeat' (first | (refine Sx.pvs rfl ?_) | (refine Sx.nil ?_) | (refine Krg.i ?_) | (refine Ksq.nm ?_) | (refine Ksq.rt ?_) | (refine Ksq.ex ?_) | (refine Kbl.nm ?_) | (refine Kbl.rt ?_) | (refine Kbl.hit rfl ?_) | (refine Kbl.miss rfl ?_) | (refine Klp.rt ?_) | (refine Klp.ex ?_) | (refine Cx.sq ?_) | (refine Cx.rg ?_) | (refine Cx.bl ?_) | (refine Cx.sk ?_) | (refine Cx.rt ?_) | (refine Cx.ex ?_) | (refine Cx.yes rfl ?_) | (refine Cx.no rfl ?_) | (refine Sx.on rfl ?_) | (refine Sx.off rfl ?_) | (refine Sx.ldb rfl (by rfl) ?_) | (refine Sx.ldbs rfl rfl ?_) | (refine Sx.stb rfl rfl rfl rfl (by rfl) (by rfl) ?_) | (refine Sx.pv rfl trivial ?_) | (refine Sx.pk rfl rfl rfl ?_))
  refine Sx.pv rfl ⟨by omega, by omega⟩ ?_
  refine Sx.ldr rfl (v := wd (m.at_ i)) (by simpa using us_get (Mm.get hi)) ?_
  refine Sx.ent (MemO.close (a := some ⟨b, 0, none⟩) (r := some ⟨g, 0, none⟩) m hm rfl rfl rfl) ?_
  refine Sx.ca rfl (cellsStroke (b := b) (m := m) 1 i (m.at_ i) true hi hlt) ?_
  rintro v L' ⟨rfl, rfl⟩
  rw [putSame m i hi]
  repeat' (first | (refine Sx.pvs rfl ?_) | (refine Sx.nil ?_) | (refine Krg.i ?_) | (refine Ksq.nm ?_) | (refine Ksq.rt ?_) | (refine Ksq.ex ?_) | (refine Kbl.nm ?_) | (refine Kbl.rt ?_) | (refine Kbl.hit rfl ?_) | (refine Kbl.miss rfl ?_) | (refine Klp.rt ?_) | (refine Klp.ex ?_) | (refine Cx.sq ?_) | (refine Cx.rg ?_) | (refine Cx.bl ?_) | (refine Cx.sk ?_) | (refine Cx.rt ?_) | (refine Cx.ex ?_) | (refine Cx.yes rfl ?_) | (refine Cx.no rfl ?_) | (refine Sx.on rfl ?_) | (refine Sx.off rfl ?_) | (refine Sx.ldb rfl (by rfl) ?_) | (refine Sx.ldbs rfl rfl ?_) | (refine Sx.stb rfl rfl rfl rfl (by rfl) (by rfl) ?_) | (refine Sx.pv rfl trivial ?_) | (refine Sx.pk rfl rfl rfl ?_))
  exact Kr.two (.inr rfl) rfl rfl (Ent.refl _) ⟨rfl, rfl⟩
theorem cellsCas {b : Nat} {m : Mm} {F : St} (i o w : Nat) (hi : i < m.ws.length) (hw : w < 18446744073709551616) [t : Take L (some ⟨b, 0, none⟩) (MemO m) F] :
    Fx Try.prog 98 [.pointer (some ⟨b, 0, none⟩), .int .i64 i, wd o, wd w] L (fun v L' => v = .tuple #[.bool (decide (m.at_ i = o)), .int .i64 0] ∧ L' = pt (some ⟨b, 0, none⟩) (MemO (m.cas i o w)) :: F) := by
  refine Fx.mk Try.func98 k98 (Nat.le_of_ble_eq_true rfl) ?_
  dsimp only [c98, envOf, Nat.reduceAdd]
  repeat' (first | (refine Sx.pvs rfl ?_) | (refine Sx.nil ?_) | (refine Krg.i ?_) | (refine Ksq.nm ?_) | (refine Ksq.rt ?_) | (refine Ksq.ex ?_) | (refine Kbl.nm ?_) | (refine Kbl.rt ?_) | (refine Kbl.hit rfl ?_) | (refine Kbl.miss rfl ?_) | (refine Klp.rt ?_) | (refine Klp.ex ?_) | (refine Cx.sq ?_) | (refine Cx.rg ?_) | (refine Cx.bl ?_) | (refine Cx.sk ?_) | (refine Cx.rt ?_) | (refine Cx.ex ?_) | (refine Cx.yes rfl ?_) | (refine Cx.no rfl ?_) | (refine Sx.on rfl ?_) | (refine Sx.off rfl ?_) | (refine Sx.ldb rfl (by rfl) ?_) | (refine Sx.ldbs rfl rfl ?_) | (refine Sx.stb rfl rfl rfl rfl (by rfl) (by rfl) ?_) | (refine Sx.pv rfl trivial ?_) | (refine Sx.pk rfl rfl rfl ?_))
  refine Sx.ca rfl (cellsIs (b := b) (m := m) (i : Int)) ?_
  rintro v L' ⟨rfl, rfl⟩
  rw [decide_eq_true (show (0 : Int) ≤ i ∧ (i : Int) < m.ws.length by omega)]
  repeat' (first | (refine Sx.pvs rfl ?_) | (refine Sx.nil ?_) | (refine Krg.i ?_) | (refine Ksq.nm ?_) | (refine Ksq.rt ?_) | (refine Ksq.ex ?_) | (refine Kbl.nm ?_) | (refine Kbl.rt ?_) | (refine Kbl.hit rfl ?_) | (refine Kbl.miss rfl ?_) | (refine Klp.rt ?_) | (refine Klp.ex ?_) | (refine Cx.sq ?_) | (refine Cx.rg ?_) | (refine Cx.bl ?_) | (refine Cx.sk ?_) | (refine Cx.rt ?_) | (refine Cx.ex ?_) | (refine Cx.yes rfl ?_) | (refine Cx.no rfl ?_) | (refine Sx.on rfl ?_) | (refine Sx.off rfl ?_) | (refine Sx.ldb rfl (by rfl) ?_) | (refine Sx.ldbs rfl rfl ?_) | (refine Sx.stb rfl rfl rfl rfl (by rfl) (by rfl) ?_) | (refine Sx.pv rfl trivial ?_) | (refine Sx.pk rfl rfl rfl ?_))
  refine Sx.openp (t := t) rfl ?_
  rintro ⟨⟨r, c⟩, ⟨x0, x1, x2, x3, x4⟩⟩
  simp only [memL, List.cons_append, List.nil_append]
  refine Sx.liftp fun hm => ?_
  refine Sx.rowkey (a := r) fun hx0 hn0 _ hk0 => ?_
  obtain ⟨g, rfl⟩ : ∃ g, r = some ⟨g, 0, none⟩ := by
    rcases hk0 with h | h
    · omega
    · exact h
  have hlt := Mm.at_lt hm.1 i
  repeat' (first | (refine Sx.pvs rfl ?_) | (refine Sx.nil ?_) | (refine Krg.i ?_) | (refine Ksq.nm ?_) | (refine Ksq.rt ?_) | (refine Ksq.ex ?_) | (refine Kbl.nm ?_) | (refine Kbl.rt ?_) | (refine Kbl.hit rfl ?_) | (refine Kbl.miss rfl ?_) | (refine Klp.rt ?_) | (refine Klp.ex ?_) | (refine Cx.sq ?_) | (refine Cx.rg ?_) | (refine Cx.bl ?_) | (refine Cx.sk ?_) | (refine Cx.rt ?_) | (refine Cx.ex ?_) | (refine Cx.yes rfl ?_) | (refine Cx.no rfl ?_) | (refine Sx.on rfl ?_) | (refine Sx.off rfl ?_) | (refine Sx.ldb rfl (by rfl) ?_) | (refine Sx.ldbs rfl rfl ?_) | (refine Sx.stb rfl rfl rfl rfl (by rfl) (by rfl) ?_) | (refine Sx.pv rfl trivial ?_) | (refine Sx.pk rfl rfl rfl ?_))
  refine Sx.pv rfl ⟨by omega, by omega⟩ ?_
  refine Sx.ldr rfl (v := wd (m.at_ i)) (by simpa using us_get (Mm.get hi)) ?_
  repeat' (first | (refine Sx.pvs rfl ?_) | (refine Sx.nil ?_) | (refine Krg.i ?_) | (refine Ksq.nm ?_) | (refine Ksq.rt ?_) | (refine Ksq.ex ?_) | (refine Kbl.nm ?_) | (refine Kbl.rt ?_) | (refine Kbl.hit rfl ?_) | (refine Kbl.miss rfl ?_) | (refine Klp.rt ?_) | (refine Klp.ex ?_) | (refine Cx.sq ?_) | (refine Cx.rg ?_) | (refine Cx.bl ?_) | (refine Cx.sk ?_) | (refine Cx.rt ?_) | (refine Cx.ex ?_) | (refine Cx.yes rfl ?_) | (refine Cx.no rfl ?_) | (refine Sx.on rfl ?_) | (refine Sx.off rfl ?_) | (refine Sx.ldb rfl (by rfl) ?_) | (refine Sx.ldbs rfl rfl ?_) | (refine Sx.stb rfl rfl rfl rfl (by rfl) (by rfl) ?_) | (refine Sx.pv rfl trivial ?_) | (refine Sx.pk rfl rfl rfl ?_))
  refine Cx.ifn rfl (fun h => ?_) (fun h => ?_)
  · have h' : m.at_ i ≠ o := fun e => h (by rw [e])
    repeat' (first | (refine Sx.pvs rfl ?_) | (refine Sx.nil ?_) | (refine Krg.i ?_) | (refine Ksq.nm ?_) | (refine Ksq.rt ?_) | (refine Ksq.ex ?_) | (refine Kbl.nm ?_) | (refine Kbl.rt ?_) | (refine Kbl.hit rfl ?_) | (refine Kbl.miss rfl ?_) | (refine Klp.rt ?_) | (refine Klp.ex ?_) | (refine Cx.sq ?_) | (refine Cx.rg ?_) | (refine Cx.bl ?_) | (refine Cx.sk ?_) | (refine Cx.rt ?_) | (refine Cx.ex ?_) | (refine Cx.yes rfl ?_) | (refine Cx.no rfl ?_) | (refine Sx.on rfl ?_) | (refine Sx.off rfl ?_) | (refine Sx.ldb rfl (by rfl) ?_) | (refine Sx.ldbs rfl rfl ?_) | (refine Sx.stb rfl rfl rfl rfl (by rfl) (by rfl) ?_) | (refine Sx.pv rfl trivial ?_) | (refine Sx.pk rfl rfl rfl ?_))
    refine Sx.pv rfl ⟨by omega, by omega⟩ ?_
    refine Sx.ldr rfl (v := wd (m.at_ i)) (by simpa using us_get (Mm.get hi)) ?_
    refine Sx.ent (MemO.close (a := some ⟨b, 0, none⟩) (r := some ⟨g, 0, none⟩) m hm rfl rfl rfl) ?_
    refine Sx.ca rfl (cellsStroke (b := b) (m := m) 3 i (m.at_ i) false hi hlt) ?_
    rintro v L' ⟨rfl, rfl⟩
    rw [putSame m i hi]
    repeat' (first | (refine Sx.pvs rfl ?_) | (refine Sx.nil ?_) | (refine Krg.i ?_) | (refine Ksq.nm ?_) | (refine Ksq.rt ?_) | (refine Ksq.ex ?_) | (refine Kbl.nm ?_) | (refine Kbl.rt ?_) | (refine Kbl.hit rfl ?_) | (refine Kbl.miss rfl ?_) | (refine Klp.rt ?_) | (refine Klp.ex ?_) | (refine Cx.sq ?_) | (refine Cx.rg ?_) | (refine Cx.bl ?_) | (refine Cx.sk ?_) | (refine Cx.rt ?_) | (refine Cx.ex ?_) | (refine Cx.yes rfl ?_) | (refine Cx.no rfl ?_) | (refine Sx.on rfl ?_) | (refine Sx.off rfl ?_) | (refine Sx.ldb rfl (by rfl) ?_) | (refine Sx.ldbs rfl rfl ?_) | (refine Sx.stb rfl rfl rfl rfl (by rfl) (by rfl) ?_) | (refine Sx.pv rfl trivial ?_) | (refine Sx.pk rfl rfl rfl ?_))
    refine Kr.two (.inr rfl) rfl rfl (Ent.refl _) ⟨?_, ?_⟩
    · rw [decide_eq_false h']
    · unfold Mm.cas; rw [if_neg h']
  · have h' : m.at_ i = o := by omega
    refine Cx.ent (MemO.close (a := some ⟨b, 0, none⟩) (r := some ⟨g, 0, none⟩) m hm rfl rfl rfl) ?_
    repeat' (first | (refine Sx.pvs rfl ?_) | (refine Sx.nil ?_) | (refine Krg.i ?_) | (refine Ksq.nm ?_) | (refine Ksq.rt ?_) | (refine Ksq.ex ?_) | (refine Kbl.nm ?_) | (refine Kbl.rt ?_) | (refine Kbl.hit rfl ?_) | (refine Kbl.miss rfl ?_) | (refine Klp.rt ?_) | (refine Klp.ex ?_) | (refine Cx.sq ?_) | (refine Cx.rg ?_) | (refine Cx.bl ?_) | (refine Cx.sk ?_) | (refine Cx.rt ?_) | (refine Cx.ex ?_) | (refine Cx.yes rfl ?_) | (refine Cx.no rfl ?_) | (refine Sx.on rfl ?_) | (refine Sx.off rfl ?_) | (refine Sx.ldb rfl (by rfl) ?_) | (refine Sx.ldbs rfl rfl ?_) | (refine Sx.stb rfl rfl rfl rfl (by rfl) (by rfl) ?_) | (refine Sx.pv rfl trivial ?_) | (refine Sx.pk rfl rfl rfl ?_))
    refine Sx.ca rfl (cellsStroke (b := b) (m := m) 3 i w true hi hw) ?_
    rintro v L' ⟨rfl, rfl⟩
    repeat' (first | (refine Sx.pvs rfl ?_) | (refine Sx.nil ?_) | (refine Krg.i ?_) | (refine Ksq.nm ?_) | (refine Ksq.rt ?_) | (refine Ksq.ex ?_) | (refine Kbl.nm ?_) | (refine Kbl.rt ?_) | (refine Kbl.hit rfl ?_) | (refine Kbl.miss rfl ?_) | (refine Klp.rt ?_) | (refine Klp.ex ?_) | (refine Cx.sq ?_) | (refine Cx.rg ?_) | (refine Cx.bl ?_) | (refine Cx.sk ?_) | (refine Cx.rt ?_) | (refine Cx.ex ?_) | (refine Cx.yes rfl ?_) | (refine Cx.no rfl ?_) | (refine Sx.on rfl ?_) | (refine Sx.off rfl ?_) | (refine Sx.ldb rfl (by rfl) ?_) | (refine Sx.ldbs rfl rfl ?_) | (refine Sx.stb rfl rfl rfl rfl (by rfl) (by rfl) ?_) | (refine Sx.pv rfl trivial ?_) | (refine Sx.pk rfl rfl rfl ?_))
    refine Kr.two (.inr rfl) rfl rfl (Ent.refl _) ⟨?_, ?_⟩
    · rw [decide_eq_true h']
    · unfold Mm.cas; rw [if_pos h']
end
end Go.Proofs.Ytnbkjcmmjgkdaaa
