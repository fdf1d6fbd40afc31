/-
  Parts of the proof, merged: what the statement leans on.
-/
import Derived.Test.YtggnbdeokmdjbaaGreatZIbB
set_option linter.unusedVariables false
set_option linter.unusedSimpArgs false

namespace Go.Proofs.YtggnbdeokmdjbaaGreat
open Go
attribute [local irreducible] Sx Cx Rx Fx Krg Ksq Kbl Klp Kr
section
variable {L F : St}
theorem wordWithin (n a b : Int) (h1 : a ≤ n) (h2 : n ≤ b) : Fx Tryz.prog 266 [.int .i64 n, .int .i64 a, .int .i64 b] L (fun v L' => v = .bool true ∧ L = L') := by
 refine Fx.mk Tryz.func266 k266 nb_ ?_
 dsimp only [c266, kG, kS, kH, kM, kN, kF, kL, envOf, Nat.reduceAdd]
 refine go ?_
 refine Sx.gyes rfl (decide_eq_true (by omega)) ?_
 refine go ?_
 rw [decide_eq_true h2]
 exact Kr.one (.inr rfl) rfl (Ent.refl _) ⟨rfl, rfl⟩
theorem wordWithout (n a b : Int) (h1 : a ≤ n) (h2 : ¬ n ≤ b) : Fx Tryz.prog 266 [.int .i64 n, .int .i64 a, .int .i64 b] L (fun v L' => v = .bool false ∧ L = L') := by
 refine Fx.mk Tryz.func266 k266 nb_ ?_
 dsimp only [c266, kG, kS, kH, kM, kN, kF, kL, envOf, Nat.reduceAdd]
 refine go ?_
 refine Sx.gyes rfl (decide_eq_true (by omega)) ?_
 refine go ?_
 rw [decide_eq_false h2]
 exact Kr.one (.inr rfl) rfl (Ent.refl _) ⟨rfl, rfl⟩
abbrev hdV (i : Int) (t : Nat) : Value := .agg #[.int .i64 i, .int .i64 (t : Int)]
theorem getHead (w : Nat) (hw : w < 18446744073709551616) : Fx Tryz.prog 178 [wd w] L (fun v L' => v = hdV (hdI w) (hdT w) ∧ L = L') := by
 refine Fx.mk Tryz.func178 k178 nb_ ?_
 dsimp only [c178, kG, kS, kH, kM, kN, kF, kL, envOf, Nat.reduceAdd]
 refine Cx.sq ?_
 refine Cx.rg ?_
 refine Sx.al fun g => ?_
 refine go ?_
 refine Sx.ca rfl (bitsGet w 0 32 hw (by omega) (by omega)) ?_
 rintro v L' ⟨rfl, rfl⟩
 rw [Nat.pow_zero, Nat.div_one]
 refine go ?_
 refine Sx.ca rfl (bitsGet w 32 32 hw (by omega) (by omega)) ?_
 rintro v L' ⟨rfl, rfl⟩
 refine go ?_
 have h1 : w % 2 ^ 32 < 4294967296 := Nat.mod_lt _ (by omega)
 have h2 : w / 2 ^ 32 % 2 ^ 32 = hdT w := by unfold hdT; omega
 have h3 := hdT_lt hw
 rw [h2, w64 (n := ((w % 2 ^ 32 : Nat) : Int)) (by omega) (by omega), w64 (n := ((w % 2 ^ 32 : Nat) : Int) - 1) (by omega) (by omega), w64 (n := (hdT w : Int)) (by omega) (by omega)]
 refine Sx.st (b := g) rfl rfl rfl rfl rfl rfl ?_
 dsimp only [lay]
 refine go ?_
 exact Kr_cell (b := g) (.inr rfl) rfl rfl (L' := L) Ent.drop ⟨rfl, rfl⟩
theorem putHead (i : Int) (t : Nat) (h1 : -1 ≤ i) (h2 : i < 4294967295) (ht : t < 4294967296) : Fx Tryz.prog 225 [hdV i t] L (fun v L' => v = .tuple #[wd (t * 4294967296 + (i + 1).toNat), .bool true] ∧ L = L') := by
 refine Fx.mk Tryz.func225 k225 nb_ ?_
 dsimp only [c225, kG, kS, kH, kM, kN, kF, kL, envOf, Nat.reduceAdd]
 refine Cx.sq ?_
 refine Cx.rg ?_
 refine Sx.bx rfl rfl fun g => ?_
 refine go ?_
 refine Sx.ca rfl (wordWithin _ _ _ (by omega) (by omega)) ?_
 rintro v L' ⟨rfl, rfl⟩
 refine go ?_
 refine Sx.ca rfl (wordWithin _ _ _ (by omega) (by omega)) ?_
 rintro v L' ⟨rfl, rfl⟩
 refine go ?_
 rw [w64 (n := i + 1) (by omega) (by omega), show i + 1 = (((i + 1).toNat : Nat) : Int) by omega, wrap64 (by omega)]
 refine Sx.ca rfl (bitsPut 0 0 32 (i + 1).toNat (by omega) (by omega) (by omega) (by omega)) ?_
 rintro v L' ⟨rfl, rfl⟩
 rw [Nat.pow_zero, Nat.mul_one, Nat.add_zero]
 refine go ?_
 rw [wrap64 (by omega)]
 refine Sx.ca rfl (bitsPut (i + 1).toNat 32 32 t (by omega) (by omega) (by omega) (by omega)) ?_
 rintro v L' ⟨rfl, rfl⟩
 refine go ?_
 exact Kr.two (.inr rfl) rfl rfl Ent.drop ⟨rfl, rfl⟩
theorem wordNext (i j : Int) (t : Nat) (ht : t < 4294967296) : Fx Tryz.prog 299 [hdV i t, .int .i64 j] L (fun v L' => v = hdV j (laterT t) ∧ L = L') := by
 refine Fx.mk Tryz.func299 k299 nb_ ?_
 dsimp only [c299, kG, kS, kH, kM, kN, kF, kL, envOf, Nat.reduceAdd]
 refine Cx.sq ?_
 refine Cx.rg ?_
 refine Sx.bx rfl rfl fun g => ?_
 refine go ?_
 refine Sx.al fun q => ?_
 refine go ?_
 by_cases h : t < 4294967295
 ·refine Sx.ca rfl (wordWithin _ _ _ (by omega) (by omega)) ?_
  rintro v L' ⟨rfl, rfl⟩
  refine go ?_
  rw [w64 (n := (t : Int) + 1) (by omega) (by omega)]
  refine Sx.st (b := q) rfl rfl rfl rfl rfl rfl ?_
  dsimp only [lay]
  refine go ?_
  refine Kr_cell (b := q) (.inr rfl) rfl rfl (L' := L) (Ent.trans Ent.drop Ent.drop) ⟨?_, rfl⟩
  unfold laterT
  rw [if_pos h]; rfl
 ·refine Sx.ca rfl (wordWithout _ _ _ (by omega) (by omega)) ?_
  rintro v L' ⟨rfl, rfl⟩
  refine go ?_
  refine Sx.st (b := q) rfl rfl rfl rfl rfl rfl ?_
  dsimp only [lay]
  refine go ?_
  refine Kr_cell (b := q) (.inr rfl) rfl rfl (L' := L) (Ent.trans Ent.drop Ent.drop) ⟨?_, rfl⟩
  unfold laterT
  rw [if_neg h]; rfl
end
end Go.Proofs.YtggnbdeokmdjbaaGreat


namespace Go.Proofs.YtggnbdeokmdjbaaGreat
open Go
attribute [local irreducible] Sx Cx Rx Fx Krg Ksq Kbl Klp Kr
def us (l : List Nat) : List Value := l.map wd
theorem length_us (l : List Nat) : (us l).length = l.length := by simp [us]
theorem us_get {l : List Nat} {i w : Nat} (h : l[i]? = some w) : (us l)[i]? = some (wd w) := by simp [us, h]
theorem us_set (l : List Nat) (i w : Nat) : (us l).set i (wd w) = us (l.set i w) := by simp [us, List.map_set]
theorem lay_one {cs : List Value} {off : Nat} {u : Value} (h : off < cs.length) : lay cs off [u] = cs.set off u := by
 have := lay_cons cs off u [] (by simp; omega)
 rw [← this, lay_nil]
theorem wrap_succ (n : Nat) : IntKind.i64.wrap (IntKind.i64.wrap (n : Int) + 1) = IntKind.i64.wrap ((n + 1 : Nat) : Int) := by
 have hw : ∀ x : Int, IntKind.i64.wrap x = if x % 18446744073709551616 ≥ 9223372036854775808 then x % 18446744073709551616 - 18446744073709551616 else x % 18446744073709551616 := fun x => by
  unfold IntKind.wrap
  simp only [IntKind.bits, IntKind.signed]
  simp
 rw [hw, hw, hw]
 push_cast
 (repeat' split) <;> omega
section
variable {L F : St}
def memL (T : TypeId) (m : Mm) (a : Option Addr) (y : (Option Addr × Nat) × (Value × Value × Value × Value × Value)) : St :=
 [lift (m.ok ∧ m.ws.length ≤ 8388608 ∧ ones [y.2.1, y.2.2.1, y.2.2.2.1, y.2.2.2.2.1, y.2.2.2.2.2] = true), pt a (Blk T [.slice y.1.1 m.ws.length y.1.2, .int .i64 (IntKind.i64.wrap (m.n : Int)), y.2.1, y.2.2.1, y.2.2.2.1, y.2.2.2.2.1, y.2.2.2.2.2]), pt y.1.1 (Row 89 1 m.ws.length y.1.2 (us m.ws))]
def MemT (T : TypeId) (m : Mm) (a : Option Addr) : As := exs (memL T m a)
abbrev MemO := MemT 187
theorem MemO.close {T : TypeId} {a r : Option Addr} {c n : Nat} {v x0 x1 x2 x3 x4 : Value} {w : List Value} {F G : St} (m : Mm) (hm : m.ok ∧ m.ws.length ≤ 8388608 ∧ ones [x0, x1, x2, x3, x4] = true) [t : Take L a (Blk T [.slice r n c, v, x0, x1, x2, x3, x4]) F] [u : Take F r (Row 89 1 n c w) G]
  (hv : v = .int .i64 (IntKind.i64.wrap (m.n : Int))) (hn : n = m.ws.length) (hw : w = us m.ws) : Ent L (pt a (MemT T m) :: G) := by
 subst hv; subst hn; subst hw
 refine Ent.trans (Ent.take1 (t := t) (Ent.of u.out)) ?_
 refine Ent.trans (Ent.lift hm (Ent.refl _)) ?_
 exact Ent.close (f := memL T m a) rfl ((r, c), (x0, x1, x2, x3, x4))
theorem cellsNew (n : Nat) (h1 : 1 ≤ n) (h2 : n ≤ 8388608) : Fx Tryz.prog 53 [.int .i64 n] L (fun v L' => ∃ g, v = .tuple #[.pointer (some ⟨g, 0, none⟩), .int .i64 0] ∧ L' = pt (some ⟨g, 0, none⟩) (MemO ⟨List.replicate n 0, 0⟩) :: L) := by
 refine Fx.mk Tryz.func53 k53 nb_ ?_
 dsimp only [c53, kG, kS, kH, kM, kN, kF, kL, envOf, Nat.reduceAdd]
 refine go ?_
 refine Sx.gyes rfl (decide_eq_false (by omega)) ?_
 refine go ?_
 refine Cx.cno rfl (decide_eq_false (by omega)) ?_
 refine go ?_
 refine Sx.mk rfl rfl (by omega) (by omega) (by omega) (by omega) fun g => ?_
 refine go ?_
 refine Sx.bx rfl rfl fun q => ?_
 refine go ?_
 refine Kr.two (.inr rfl) rfl rfl ?_ ⟨q, rfl, rfl⟩
 have hu : us (List.replicate n 0) = List.replicate n (.int .u64 0) := by simp [us, wd]
 refine MemO.close (a := some ⟨q, 0, none⟩) (r := some ⟨g, 0, none⟩) ⟨List.replicate n 0, 0⟩ ⟨fun w hw => ?_, ?_, rfl⟩ rfl (by simp) ?_
 ·rw [List.eq_of_mem_replicate hw]; omega
 ·simpa using h2
 ·rw [hu, made_one]; simp
theorem cellsLen {b : Nat} {m : Mm} {F : St} [t : Take L (some ⟨b, 0, none⟩) (MemO m) F] : Fx Tryz.prog 152 [.pointer (some ⟨b, 0, none⟩)] L (fun v L' => v = .int .i64 m.ws.length ∧ L = L') := by
 refine Fx.kept (t := t) ?_
 refine Fx.mk Tryz.func152 k152 nb_ ?_
 dsimp only [c152, kG, kS, kH, kM, kN, kF, kL, envOf, Nat.reduceAdd]
 refine Cx.openp (t := t) rfl ?_
 rintro ⟨⟨r, c⟩, ⟨x0, x1, x2, x3, x4⟩⟩
 simp only [memL, List.cons_append, List.nil_append]
 refine Cx.liftp fun hm => ?_
 refine go ?_
 exact Kr.one (.inr rfl) rfl (MemO.close (a := some ⟨b, 0, none⟩) (r := r) m hm rfl rfl rfl) ⟨rfl, rfl⟩
theorem cellsCount {b : Nat} {m : Mm} {F : St} [t : Take L (some ⟨b, 0, none⟩) (MemO m) F] (hn : m.n ≤ 1000000000000) : Fx Tryz.prog 60 [.pointer (some ⟨b, 0, none⟩)] L (fun v L' => v = .int .i64 m.n ∧ L = L') := by
 refine Fx.kept (t := t) ?_
 refine Fx.mk Tryz.func60 k60 nb_ ?_
 dsimp only [c60, kG, kS, kH, kM, kN, kF, kL, envOf, Nat.reduceAdd]
 refine Cx.openp (t := t) rfl ?_
 rintro ⟨⟨r, c⟩, ⟨x0, x1, x2, x3, x4⟩⟩
 simp only [memL, List.cons_append, List.nil_append]
 refine Cx.liftp fun hm => ?_
 refine go ?_
 exact Kr.one (.inr rfl) rfl (MemO.close (a := some ⟨b, 0, none⟩) (r := r) m hm rfl rfl rfl) ⟨congrArg (Value.int .i64) (w64 (by omega) (by omega)), rfl⟩
theorem cellsIs {b : Nat} {m : Mm} {F : St} (i : Int) [t : Take L (some ⟨b, 0, none⟩) (MemO m) F] : Fx Tryz.prog 110 [.pointer (some ⟨b, 0, none⟩), .int .i64 i] L (fun v L' => v = .bool (decide (0 ≤ i ∧ i < m.ws.length)) ∧ L = L') := by
 refine Fx.kept (t := t) ?_
 refine Fx.mk Tryz.func110 k110 nb_ ?_
 dsimp only [c110, kG, kS, kH, kM, kN, kF, kL, envOf, Nat.reduceAdd]
 refine Cx.openp (t := t) rfl ?_
 rintro ⟨⟨r, c⟩, ⟨x0, x1, x2, x3, x4⟩⟩
 simp only [memL, List.cons_append, List.nil_append]
 refine Cx.liftp fun hm => ?_
 refine go ?_
 refine Sx.ifp rfl (fun h => ?_) (fun h => ?_)
 ·refine go ?_
  exact Kr.one (.inr rfl) rfl (MemO.close (a := some ⟨b, 0, none⟩) (r := r) m hm rfl rfl rfl) ⟨congrArg Value.bool (decide_eq_decide.2 (by omega)), rfl⟩
 ·refine go ?_
  exact Kr.one (.inr rfl) rfl (MemO.close (a := some ⟨b, 0, none⟩) (r := r) m hm rfl rfl rfl) ⟨congrArg Value.bool (decide_eq_false (fun hh => h hh.1)).symm, rfl⟩
theorem cellsPeek {b : Nat} {m : Mm} {F : St} (i : Nat) (hi : i < m.ws.length) [t : Take L (some ⟨b, 0, none⟩) (MemO m) F] : Fx Tryz.prog 81 [.pointer (some ⟨b, 0, none⟩), .int .i64 i] L (fun v L' => v = wd (m.at_ i) ∧ L = L') := by
 refine Fx.kept (t := t) ?_
 refine Fx.mk Tryz.func81 k81 nb_ ?_
 dsimp only [c81, kG, kS, kH, kM, kN, kF, kL, envOf, Nat.reduceAdd]
 refine go ?_
 refine Sx.ca rfl (cellsIs (b := b) (m := m) (i : Int)) ?_
 rintro v L' ⟨rfl, rfl⟩
 rw [decide_eq_true (show (0 : Int) ≤ i ∧ (i : Int) < m.ws.length by omega)]
 refine go ?_
 refine Sx.openp (t := t) rfl ?_
 rintro ⟨⟨r, c⟩, ⟨x0, x1, x2, x3, x4⟩⟩
 simp only [memL, List.cons_append, List.nil_append]
 refine Sx.liftp fun hm => ?_
 refine go ?_
 refine Sx.rowsome (a := r) (by omega) fun g hr => ?_
 subst hr
 refine Sx.pv rfl ⟨by omega, by omega⟩ ?_
 refine Sx.ldr rfl (v := wd (m.at_ i)) (by simpa using us_get (Mm.get hi)) ?_
 refine go ?_
 exact Kr.one (.inr rfl) rfl (MemO.close (a := some ⟨b, 0, none⟩) (r := some ⟨g, 0, none⟩) m hm rfl rfl rfl) ⟨rfl, rfl⟩
theorem cellsLay {b : Nat} {m : Mm} {F : St} (i w : Nat) (hi : i < m.ws.length) (hw : w < 18446744073709551616) [t : Take L (some ⟨b, 0, none⟩) (MemO m) F] : Fx Tryz.prog 34 [.pointer (some ⟨b, 0, none⟩), .int .i64 i, wd w] L (fun v L' => v = .int .i64 0 ∧ L' = pt (some ⟨b, 0, none⟩) (MemO (m.lay i w)) :: F) := by
 refine Fx.mk Tryz.func34 k34 nb_ ?_
 dsimp only [c34, kG, kS, kH, kM, kN, kF, kL, envOf, Nat.reduceAdd]
 refine go ?_
 refine Sx.ca rfl (cellsIs (b := b) (m := m) (i : Int)) ?_
 rintro v L' ⟨rfl, rfl⟩
 rw [decide_eq_true (show (0 : Int) ≤ i ∧ (i : Int) < m.ws.length by omega)]
 refine go ?_
 refine Sx.openp (t := t) rfl ?_
 rintro ⟨⟨r, c⟩, ⟨x0, x1, x2, x3, x4⟩⟩
 simp only [memL, List.cons_append, List.nil_append]
 refine Sx.liftp fun hm => ?_
 refine go ?_
 refine Sx.rowsome (a := r) (by omega) fun g hr => ?_
 subst hr
 refine Sx.pv rfl ⟨by omega, by omega⟩ ?_
 refine Sx.str (b := g) rfl rfl rfl rfl rfl (by rw [length_us]; simp; omega) (lay_one (by rw [length_us]; simpa using hi)) ?_
 refine go ?_
 refine Kr.one (.inr rfl) rfl (MemO.close (a := some ⟨b, 0, none⟩) (r := some ⟨g, 0, none⟩) (m.lay i w) ⟨Mm.ok_lay hm.1 hw, by rw [Mm.len_lay]; exact hm.2.1, hm.2.2⟩ rfl Mm.len_lay.symm ?_) ⟨rfl, rfl⟩
 simp only [Nat.zero_add, Nat.mul_one, Int.toNat_natCast]
 exact us_set m.ws i w
set_option maxHeartbeats 1000000 in
theorem cellsStroke {b : Nat} {m : Mm} {F : St} (kd : Int) (i w : Nat) (ok : Bool) (hi : i < m.ws.length) (hw : w < 18446744073709551616) [t : Take L (some ⟨b, 0, none⟩) (MemO m) F] :
  Fx Tryz.prog 265 [.pointer (some ⟨b, 0, none⟩), .int .i64 kd, .int .i64 i, wd w, .bool ok] L (fun v L' => v = wd (m.at_ i) ∧ L' = pt (some ⟨b, 0, none⟩) (MemO (m.put i w)) :: F) := by
 refine Fx.mk Tryz.func265 k265 nb_ ?_
 dsimp only [c265, kG, kS, kH, kM, kN, kF, kL, envOf, Nat.reduceAdd]
 refine Cx.openp (t := t) rfl ?_
 rintro ⟨⟨r, c⟩, ⟨x0, x1, x2, x3, x4⟩⟩
 simp only [memL, List.cons_append, List.nil_append]
 refine Cx.liftp fun hm => ?_
 refine Cx.rowkey (a := r) fun hx0 hn0 _ hk0 => ?_
 obtain ⟨g, rfl⟩ : ∃ g, r = some ⟨g, 0, none⟩ := by
  rcases hk0 with h | h
  ·omega
  ·exact h
 refine go ?_
 refine Sx.pv rfl ⟨by omega, by omega⟩ ?_
 refine Sx.ldr rfl (v := wd (m.at_ i)) (by simpa using us_get (Mm.get hi)) ?_
 refine go ?_
 refine Sx.pv rfl ⟨by omega, by omega⟩ ?_
 refine Sx.str (b := g) rfl rfl rfl rfl rfl (by rw [length_us]; simp; omega) (lay_one (by rw [length_us]; simpa using hi)) ?_
 refine go ?_
 rw [wrap_succ]
 refine Sx.st (b := b) rfl rfl rfl rfl rfl rfl ?_
 dsimp only [lay]
 refine go ?_
 refine Kr.one (.inr rfl) rfl (MemO.close (a := some ⟨b, 0, none⟩) (r := some ⟨g, 0, none⟩) (m.put i w) ⟨Mm.ok_put hm.1 hw, by rw [Mm.len_put]; exact hm.2.1, rfl⟩ rfl Mm.len_put.symm ?_) ⟨rfl, rfl⟩
 simp only [Nat.zero_add, Nat.mul_one, Int.toNat_natCast]
 exact us_set m.ws i w
theorem putSame (m : Mm) (i : Nat) (hi : i < m.ws.length) : m.put i (m.at_ i) = m.tick := by
 unfold Mm.put Mm.tick
 congr 1
 have := Mm.get hi
 rw [List.getElem?_eq_getElem hi, Option.some.injEq] at this
 rw [← this]
 exact List.set_getElem_self hi
end
end Go.Proofs.YtggnbdeokmdjbaaGreat


namespace Go.Proofs.YtggnbdeokmdjbaaGreat
open Go
attribute [local irreducible] Sx Cx Rx Fx Krg Ksq Kbl Klp Kr
section
variable {L F : St}
theorem cellsLoad {b : Nat} {m : Mm} {F : St} (i : Nat) (hi : i < m.ws.length) [t : Take L (some ⟨b, 0, none⟩) (MemO m) F] :
  Fx Tryz.prog 222 [.pointer (some ⟨b, 0, none⟩), .int .i64 i] L (fun v L' => v = .tuple #[wd (m.at_ i), .int .i64 0] ∧ L' = pt (some ⟨b, 0, none⟩) (MemO m.tick) :: F) := by
 refine Fx.mk Tryz.func222 k222 nb_ ?_
 dsimp only [c222, kG, kS, kH, kM, kN, kF, kL, envOf, Nat.reduceAdd]
 refine go ?_
 refine Sx.ca rfl (cellsIs (b := b) (m := m) (i : Int)) ?_
 rintro v L' ⟨rfl, rfl⟩
 rw [decide_eq_true (show (0 : Int) ≤ i ∧ (i : Int) < m.ws.length by omega)]
 refine go ?_
 refine Sx.openp (t := t) rfl ?_
 rintro ⟨⟨r, c⟩, ⟨x0, x1, x2, x3, x4⟩⟩
 simp only [memL, List.cons_append, List.nil_append]
 refine Sx.liftp fun hm => ?_
 refine Sx.rowkey (a := r) fun hx0 hn0 _ hk0 => ?_
 obtain ⟨g, rfl⟩ : ∃ g, r = some ⟨g, 0, none⟩ := by
  rcases hk0 with h | h
  ·omega
  ·exact h
 have hlt := Mm.at_lt hm.1 i
 refine go ?_
 refine Sx.pv rfl ⟨by omega, by omega⟩ ?_
 refine Sx.ldr rfl (v := wd (m.at_ i)) (by simpa using us_get (Mm.get hi)) ?_
 refine Sx.ent (MemO.close (a := some ⟨b, 0, none⟩) (r := some ⟨g, 0, none⟩) m hm rfl rfl rfl) ?_
 refine Sx.ca rfl (cellsStroke (b := b) (m := m) 1 i (m.at_ i) true hi hlt) ?_
 rintro v L' ⟨rfl, rfl⟩
 rw [putSame m i hi]
 refine go ?_
 exact Kr.two (.inr rfl) rfl rfl (Ent.refl _) ⟨rfl, rfl⟩
theorem cellsStore {b : Nat} {m : Mm} {F : St} (i w : Nat) (hi : i < m.ws.length) (hw : w < 18446744073709551616) [t : Take L (some ⟨b, 0, none⟩) (MemO m) F] :
  Fx Tryz.prog 283 [.pointer (some ⟨b, 0, none⟩), .int .i64 i, wd w] L (fun v L' => v = .int .i64 0 ∧ L' = pt (some ⟨b, 0, none⟩) (MemO (m.put i w)) :: F) := by
 refine Fx.mk Tryz.func283 k283 nb_ ?_
 dsimp only [c283, kG, kS, kH, kM, kN, kF, kL, envOf, Nat.reduceAdd]
 refine go ?_
 refine Sx.ca rfl (cellsIs (b := b) (m := m) (i : Int)) ?_
 rintro v L' ⟨rfl, rfl⟩
 rw [decide_eq_true (show (0 : Int) ≤ i ∧ (i : Int) < m.ws.length by omega)]
 refine go ?_
 refine Sx.ca rfl (cellsStroke (b := b) (m := m) 2 i w true hi hw) ?_
 rintro v L' ⟨rfl, rfl⟩
 refine go ?_
 exact Kr.one (.inr rfl) rfl (Ent.refl _) ⟨rfl, rfl⟩
theorem cellsCas {b : Nat} {m : Mm} {F : St} (i o w : Nat) (hi : i < m.ws.length) (hw : w < 18446744073709551616) [t : Take L (some ⟨b, 0, none⟩) (MemO m) F] :
  Fx Tryz.prog 287 [.pointer (some ⟨b, 0, none⟩), .int .i64 i, wd o, wd w] L (fun v L' => v = .tuple #[.bool (decide (m.at_ i = o)), .int .i64 0] ∧ L' = pt (some ⟨b, 0, none⟩) (MemO (m.cas i o w)) :: F) := by
 refine Fx.mk Tryz.func287 k287 nb_ ?_
 dsimp only [c287, kG, kS, kH, kM, kN, kF, kL, envOf, Nat.reduceAdd]
 refine go ?_
 refine Sx.ca rfl (cellsIs (b := b) (m := m) (i : Int)) ?_
 rintro v L' ⟨rfl, rfl⟩
 rw [decide_eq_true (show (0 : Int) ≤ i ∧ (i : Int) < m.ws.length by omega)]
 refine go ?_
 refine Sx.openp (t := t) rfl ?_
 rintro ⟨⟨r, c⟩, ⟨x0, x1, x2, x3, x4⟩⟩
 simp only [memL, List.cons_append, List.nil_append]
 refine Sx.liftp fun hm => ?_
 refine Sx.rowkey (a := r) fun hx0 hn0 _ hk0 => ?_
 obtain ⟨g, rfl⟩ : ∃ g, r = some ⟨g, 0, none⟩ := by
  rcases hk0 with h | h
  ·omega
  ·exact h
 have hlt := Mm.at_lt hm.1 i
 refine go ?_
 refine Sx.pv rfl ⟨by omega, by omega⟩ ?_
 refine Sx.ldr rfl (v := wd (m.at_ i)) (by simpa using us_get (Mm.get hi)) ?_
 refine go ?_
 refine Cx.ifn rfl (fun h => ?_) (fun h => ?_)
 ·have h' : m.at_ i ≠ o := fun e => h (by rw [e])
  refine go ?_
  refine Sx.pv rfl ⟨by omega, by omega⟩ ?_
  refine Sx.ldr rfl (v := wd (m.at_ i)) (by simpa using us_get (Mm.get hi)) ?_
  refine Sx.ent (MemO.close (a := some ⟨b, 0, none⟩) (r := some ⟨g, 0, none⟩) m hm rfl rfl rfl) ?_
  refine Sx.ca rfl (cellsStroke (b := b) (m := m) 3 i (m.at_ i) false hi hlt) ?_
  rintro v L' ⟨rfl, rfl⟩
  rw [putSame m i hi]
  refine go ?_
  refine Kr.two (.inr rfl) rfl rfl (Ent.refl _) ⟨?_, ?_⟩
  ·rw [decide_eq_false h']
  ·unfold Mm.cas; rw [if_neg h']
 ·have h' : m.at_ i = o := by omega
  refine Cx.ent (MemO.close (a := some ⟨b, 0, none⟩) (r := some ⟨g, 0, none⟩) m hm rfl rfl rfl) ?_
  refine go ?_
  refine Sx.ca rfl (cellsStroke (b := b) (m := m) 3 i w true hi hw) ?_
  rintro v L' ⟨rfl, rfl⟩
  refine go ?_
  refine Kr.two (.inr rfl) rfl rfl (Ent.refl _) ⟨?_, ?_⟩
  ·rw [decide_eq_true h']
  ·unfold Mm.cas; rw [if_pos h']
end
end Go.Proofs.YtggnbdeokmdjbaaGreat


namespace Go.Proofs.YtggnbdeokmdjbaaGreat
open Go
attribute [local irreducible] Sx Cx Rx Fx Krg Ksq Kbl Klp Kr
section
variable {L F : St}
abbrev mth (f : FuncId) (b : Nat) : Value := .func (.func f) #[.pointer (some ⟨b, 0, none⟩)] #[]
theorem machGo {b : Nat} {T : TypeId} {nx : Value} {f : FuncId} {w : Value} {rest : List Value} [t : Take L (some ⟨b, 0, none⟩) (Blk T (nx :: rest)) F] :
  Fx Tryz.prog 147 [.pointer (some ⟨b, 0, none⟩), .func (.func f) #[w] #[]] L (fun v L' => v = .tuple #[] ∧ L' = pt (some ⟨b, 0, none⟩) (Blk T (.func (.func f) #[w] #[] :: rest)) :: F) := by
 refine Fx.mk Tryz.func147 k147 nb_ ?_
 dsimp only [c147, kG, kS, kH, kM, kN, kF, kL, envOf, Nat.reduceAdd]
 refine go ?_
 exact Kr.none (.inl rfl) (Ent.refl _) ⟨rfl, rfl⟩
theorem machDoneYes {b : Nat} {T : TypeId} {rest : List Value} [t : Take L (some ⟨b, 0, none⟩) (Blk T (.nilFunc :: rest)) F] : Fx Tryz.prog 96 [.pointer (some ⟨b, 0, none⟩)] L (fun v L' => v = .bool true ∧ L = L') := by
 refine Fx.mk Tryz.func96 k96 nb_ ?_
 dsimp only [c96, kG, kS, kH, kM, kN, kF, kL, envOf, Nat.reduceAdd]
 refine go ?_
 exact Kr.one (.inr rfl) rfl (Ent.refl _) ⟨rfl, rfl⟩
theorem machDoneNo {b : Nat} {T : TypeId} {f : FuncId} {w : Value} {rest : List Value} [t : Take L (some ⟨b, 0, none⟩) (Blk T (.func (.func f) #[w] #[] :: rest)) F] : Fx Tryz.prog 96 [.pointer (some ⟨b, 0, none⟩)] L (fun v L' => v = .bool false ∧ L = L') := by
 refine Fx.mk Tryz.func96 k96 nb_ ?_
 dsimp only [c96, kG, kS, kH, kM, kN, kF, kL, envOf, Nat.reduceAdd]
 refine go ?_
 exact Kr.one (.inr rfl) rfl (Ent.refl _) ⟨rfl, rfl⟩
theorem machStepDone {b : Nat} {T : TypeId} {rest : List Value} [t : Take L (some ⟨b, 0, none⟩) (Blk T (.nilFunc :: rest)) F] : Fx Tryz.prog 92 [.pointer (some ⟨b, 0, none⟩)] L (fun v L' => v = .bool false ∧ L = L') := by
 refine Fx.mk Tryz.func92 k92 nb_ ?_
 dsimp only [c92, kG, kS, kH, kM, kN, kF, kL, envOf, Nat.reduceAdd]
 refine go ?_
 exact Kr.one (.inr rfl) rfl (Ent.refl _) ⟨rfl, rfl⟩
theorem machStep {b : Nat} {T : TypeId} {f : FuncId} {w z1 z2 z3 : Value} {cnt : Int} {rest : List Value} {R : Value → St → Prop} [t : Take L (some ⟨b, 0, none⟩) (Blk T (.func (.func f) #[w] #[] :: z1 :: z2 :: z3 :: .int .i64 cnt :: rest)) F]
  (hc : callable Tryz.prog f = true) (hf : Fx Tryz.prog f [w] (pt (some ⟨b, 0, none⟩) (Blk T (.nilFunc :: z1 :: z2 :: z3 :: .int .i64 (IntKind.i64.wrap (cnt + 1)) :: rest)) :: F) R) :
  Fx Tryz.prog 92 [.pointer (some ⟨b, 0, none⟩)] L (fun v L' => v = .bool true ∧ ∃ u, R u L') := by
 refine Fx.mk Tryz.func92 k92 nb_ ?_
 dsimp only [c92, kG, kS, kH, kM, kN, kF, kL, envOf, Nat.reduceAdd]
 refine go ?_
 refine Sx.cl (p := [w]) (q := []) (vs := []) rfl hc rfl hf ?_
 intro u L' hR
 refine go ?_
 exact Kr.one (.inr rfl) rfl (Ent.refl _) ⟨rfl, u, hR⟩
theorem machOnNo {b : Nat} {T : TypeId} {fd : FuncId} {w nx z1 z3 : Value} {rest : List Value} [t : Take L (some ⟨b, 0, none⟩) (Blk T (nx :: z1 :: .func (.func fd) #[w] #[] :: z3 :: rest)) F]
  (hc : callable Tryz.prog fd = true) (hd : Fx Tryz.prog fd [w] L (fun v L' => v = .bool false ∧ L = L')) :
  Fx Tryz.prog 186 [.pointer (some ⟨b, 0, none⟩)] L (fun v L' => v = .tuple #[] ∧ L' = pt (some ⟨b, 0, none⟩) (Blk T (mth 238 b :: z1 :: .func (.func fd) #[w] #[] :: z3 :: rest)) :: F) := by
 refine Fx.mk Tryz.func186 k186 nb_ ?_
 dsimp only [c186, kG, kS, kH, kM, kN, kF, kL, envOf, Nat.reduceAdd]
 refine go ?_
 refine Sx.cl (p := [w]) (q := []) (vs := []) rfl hc rfl hd ?_
 rintro v L' ⟨rfl, rfl⟩
 refine go ?_
 exact Kr.none (.inl rfl) (Ent.refl _) ⟨rfl, rfl⟩
theorem machOnYes {b : Nat} {T : TypeId} {fd ft : FuncId} {w u nx z1 : Value} {rest : List Value} {R : Value → St → Prop} [t : Take L (some ⟨b, 0, none⟩) (Blk T (nx :: z1 :: .func (.func fd) #[w] #[] :: .func (.func ft) #[u] #[] :: rest)) F]
  (hc : callable Tryz.prog fd = true) (hd : Fx Tryz.prog fd [w] L (fun v L' => v = .bool true ∧ L = L')) (hct : callable Tryz.prog ft = true) (ht : Fx Tryz.prog ft [u] L R) :
  Fx Tryz.prog 186 [.pointer (some ⟨b, 0, none⟩)] L (fun v L' => v = .tuple #[] ∧ ∃ x, R x L') := by
 refine Fx.mk Tryz.func186 k186 nb_ ?_
 dsimp only [c186, kG, kS, kH, kM, kN, kF, kL, envOf, Nat.reduceAdd]
 refine go ?_
 refine Sx.cl (p := [w]) (q := []) (vs := []) rfl hc rfl hd ?_
 rintro v L' ⟨rfl, rfl⟩
 refine go ?_
 refine Sx.cl (p := [u]) (q := []) (vs := []) rfl hct rfl ht ?_
 intro x L' hR
 refine go ?_
 exact Kr.none (.inr rfl) (Ent.refl _) ⟨rfl, x, hR⟩
theorem machThrough {b : Nat} {T : TypeId} {fs fd ft : FuncId} {ws w u nx z1 z2 z3 : Value} {rest : List Value} {R : Value → St → Prop} [t : Take L (some ⟨b, 0, none⟩) (Blk T (nx :: z1 :: z2 :: z3 :: rest)) F]
  (hon : Fx Tryz.prog 186 [.pointer (some ⟨b, 0, none⟩)] (pt (some ⟨b, 0, none⟩) (Blk T (nx :: .func (.func fs) #[ws] #[] :: .func (.func fd) #[w] #[] :: .func (.func ft) #[u] #[] :: rest)) :: F) R) :
  Fx Tryz.prog 101 [.pointer (some ⟨b, 0, none⟩), .func (.func fs) #[ws] #[], .func (.func fd) #[w] #[], .func (.func ft) #[u] #[]] L (fun v L' => v = .tuple #[] ∧ ∃ x, R x L') := by
 refine Fx.mk Tryz.func101 k101 nb_ ?_
 dsimp only [c101, kG, kS, kH, kM, kN, kF, kL, envOf, Nat.reduceAdd]
 refine go ?_
 refine Sx.ca rfl hon ?_
 intro x L' hR
 refine go ?_
 exact Kr.none (.inl rfl) (Ent.refl _) ⟨rfl, x, hR⟩
theorem machGoes {b : Nat} {T : TypeId} {fs : FuncId} {ws nx : Value} {rest : List Value} {R1 R2 : Value → St → Prop} [t : Take L (some ⟨b, 0, none⟩) (Blk T (nx :: .func (.func fs) #[ws] #[] :: rest)) F]
  (hc : callable Tryz.prog fs = true) (hs : Fx Tryz.prog fs [ws] L R1) (hon : ∀ x L1, R1 x L1 → Fx Tryz.prog 186 [.pointer (some ⟨b, 0, none⟩)] L1 R2) :
  Fx Tryz.prog 238 [.pointer (some ⟨b, 0, none⟩)] L (fun v L' => v = .tuple #[] ∧ ∃ x, R2 x L') := by
 refine Fx.mk Tryz.func238 k238 nb_ ?_
 dsimp only [c238, kG, kS, kH, kM, kN, kF, kL, envOf, Nat.reduceAdd]
 refine go ?_
 refine Sx.cl (p := [ws]) (q := []) (vs := []) rfl hc rfl hs ?_
 intro x L1 hR1
 refine go ?_
 refine Sx.ca rfl (hon x L1 hR1) ?_
 intro y L2 hR2
 refine go ?_
 exact Kr.none (.inl rfl) (Ent.refl _) ⟨rfl, y, hR2⟩
end
end Go.Proofs.YtggnbdeokmdjbaaGreat


namespace Go.Proofs.YtggnbdeokmdjbaaGreat
open Go
attribute [local irreducible] Sx Cx Rx Fx Krg Ksq Kbl Klp Kr
section
variable {L F G : St}
abbrev skV (mp : Nat) (k : Sk) : List Value := [.pointer (some ⟨mp, 0, none⟩), .int .i64 k.head, .int .i64 k.links, .int .i64 k.n]
abbrev SkO (mp : Nat) (k : Sk) : Option Addr → As := Blk 145 (skV mp k)
theorem stackTop {sb mp : Nat} {k : Sk} (w : Nat) (hw : w < 18446744073709551616) [s : Take L (some ⟨sb, 0, none⟩) (SkO mp k) F] :
  Fx Tryz.prog 84 [.pointer (some ⟨sb, 0, none⟩), wd w] L (fun v L' => v = .int .i64 (k.top w) ∧ L = L') := by
 refine Fx.mk Tryz.func84 k84 nb_ ?_
 dsimp only [c84, kG, kS, kH, kM, kN, kF, kL, envOf, Nat.reduceAdd]
 refine go ?_
 refine Sx.ca rfl (getHead w hw) ?_
 rintro v L' ⟨rfl, rfl⟩
 refine Sx.al fun g => ?_
 refine Sx.st (b := g) rfl rfl rfl rfl rfl rfl ?_
 dsimp only [lay]
 refine go ?_
 refine Cx.ordc rfl kr_ ?_
 refine ge ?_
 refine Cx.ifp rfl (fun h => ?_) (fun h => ?_)
 ·refine go ?_
  exact Kr.one (.inr rfl) rfl Ent.drop ⟨by unfold Sk.top; rw [if_pos h], rfl⟩
 ·refine go ?_
  exact Kr.one (.inr rfl) rfl Ent.drop ⟨by unfold Sk.top; rw [if_neg h], rfl⟩
theorem stackBelow {sb mp : Nat} {k : Sk} (w : Nat) (hw : w < 18446744073709551616) (hn : k.n ≤ 4096) [s : Take L (some ⟨sb, 0, none⟩) (SkO mp k) F] :
  Fx Tryz.prog 85 [.pointer (some ⟨sb, 0, none⟩), wd w] L (fun v L' => v = .int .i64 (k.below w) ∧ L = L') := by
 refine Fx.mk Tryz.func85 k85 nb_ ?_
 dsimp only [c85, kG, kS, kH, kM, kN, kF, kL, envOf, Nat.reduceAdd]
 refine go ?_
 rw [wrap64 (n := k.n) (by omega)]
 refine Cx.ifp rfl (fun h => ?_) (fun h => ?_)
 ·refine go ?_
  exact Kr.one (.inr rfl) rfl (Ent.refl _) ⟨by unfold Sk.below; rw [if_pos (by omega)], rfl⟩
 ·refine go ?_
  rw [w64 (n := (w : Int)) (by omega) (by omega), w64 (n := (w : Int) - 1) (by omega) (by omega)]
  exact Kr.one (.inr rfl) rfl (Ent.refl _) ⟨by unfold Sk.below; rw [if_neg (by omega)], rfl⟩
theorem stackCell {g mp : Nat} {T : TypeId} {m : Mm} (i : Int) {F G : St} [t : Take L (some ⟨mp, 0, none⟩) (MemO m) F] [s : Take L (some ⟨g, 0, none⟩) (Blk T [.pointer (some ⟨mp, 0, none⟩)]) G] :
  Fx Tryz.prog 224 [.int .i64 i, .pointer (some ⟨g, 0, none⟩)] L (fun v L' => v = .bool (decide (0 ≤ i ∧ i < m.ws.length)) ∧ L = L') := by
 refine Fx.mk Tryz.func224 k224 nb_ ?_
 dsimp only [c224, kG, kS, kH, kM, kN, kF, kL, envOf, Nat.reduceAdd]
 refine go ?_
 refine Sx.ifp rfl (fun h => ?_) (fun h => ?_)
 ·refine go ?_
  refine Sx.ca rfl (cellsLen (b := mp) (m := m)) ?_
  rintro v L' ⟨rfl, rfl⟩
  refine go ?_
  exact Kr.one (.inr rfl) rfl (Ent.refl _) ⟨congrArg Value.bool (decide_eq_decide.2 (by omega)), rfl⟩
 ·refine go ?_
  exact Kr.one (.inr rfl) rfl (Ent.refl _) ⟨congrArg Value.bool (decide_eq_false (fun hh => h hh.1)).symm, rfl⟩
theorem stackNew {mp : Nat} {m : Mm} {k : Sk} (hk : k.ok m.ws.length) [t : Take L (some ⟨mp, 0, none⟩) (MemO m) F] :
  Fx Tryz.prog 153 [.pointer (some ⟨mp, 0, none⟩), .int .i64 k.head, .int .i64 k.links, .int .i64 k.n] L (fun v L' => ∃ g, v = .tuple #[.pointer (some ⟨g, 0, none⟩), .int .i64 0] ∧ L' = pt (some ⟨g, 0, none⟩) (SkO mp k) :: L) := by
 obtain ⟨h1, h2, h3, h4, h5, h6⟩ := hk
 refine Fx.mk Tryz.func153 k153 nb_ ?_
 dsimp only [c153, kG, kS, kH, kM, kN, kF, kL, envOf, Nat.reduceAdd]
 refine Cx.sq ?_
 refine Cx.rg ?_
 refine Sx.bx rfl rfl fun g => ?_
 refine go ?_
 refine Sx.gyes rfl (decide_eq_false (by omega)) ?_
 refine go ?_
 refine Sx.gyes rfl (decide_eq_false (by omega)) ?_
 refine go ?_
 refine Sx.cl (p := []) (q := [.pointer (some ⟨g, 0, none⟩)]) rfl kr_ rfl (stackCell (mp := mp) (m := m) (k.head : Int)) ?_
 rintro v L' ⟨rfl, rfl⟩
 rw [decide_eq_true (show (0 : Int) ≤ k.head ∧ (k.head : Int) < m.ws.length by omega)]
 refine go ?_
 refine Sx.cl (p := []) (q := [.pointer (some ⟨g, 0, none⟩)]) rfl kr_ rfl (stackCell (mp := mp) (m := m) (k.links : Int)) ?_
 rintro v L' ⟨rfl, rfl⟩
 rw [decide_eq_true (show (0 : Int) ≤ k.links ∧ (k.links : Int) < m.ws.length by omega)]
 refine go ?_
 rw [w64 (n := (k.links : Int) + k.n) (by omega) (by omega), w64 (n := (k.links : Int) + k.n - 1) (by omega) (by omega)]
 refine Sx.cl (p := []) (q := [.pointer (some ⟨g, 0, none⟩)]) rfl kr_ rfl (stackCell (mp := mp) (m := m) ((k.links : Int) + k.n - 1)) ?_
 rintro v L' ⟨rfl, rfl⟩
 rw [decide_eq_true (show (0 : Int) ≤ (k.links : Int) + k.n - 1 ∧ (k.links : Int) + k.n - 1 < m.ws.length by omega)]
 refine go ?_
 refine Sx.ifp rfl (fun h7 => ?_) (fun h7 => ?_)
 ·refine go ?_
  rw [w64 (n := (k.links : Int) + k.n) (by omega) (by omega)]
  refine Cx.cno rfl (decide_eq_false (by omega)) ?_
  refine go ?_
  refine Sx.bx rfl rfl fun q => ?_
  refine go ?_
  exact Kr.two (.inr rfl) rfl rfl (Ent.cons Ent.drop) ⟨q, rfl, rfl⟩
 ·refine go ?_
  refine Sx.bx rfl rfl fun q => ?_
  refine go ?_
  exact Kr.two (.inr rfl) rfl rfl (Ent.cons Ent.drop) ⟨q, rfl, rfl⟩
theorem stackExchange {sb mp : Nat} {k : Sk} {m : Mm} (w : Nat) (i : Int) (hk : k.ok m.ws.length) (hw : w < 18446744073709551616) (h1 : -1 ≤ i) (h2 : i < k.n) [t : Take L (some ⟨mp, 0, none⟩) (MemO m) F] [s : Take F (some ⟨sb, 0, none⟩) (SkO mp k) G] :
  Fx Tryz.prog 298 [.pointer (some ⟨sb, 0, none⟩), wd w, .int .i64 i] L (fun v L' => v = .bool (decide (m.at_ k.head = w)) ∧ L' = pt (some ⟨mp, 0, none⟩) (MemO (m.cas k.head w (nextW w i))) :: F) := by
 obtain ⟨k1, k2, k3, k4, k5, k6⟩ := hk
 have hlt := nextW_lt (i := i) hw (by omega)
 refine Fx.mk Tryz.func298 k298 nb_ ?_
 dsimp only [c298, kG, kS, kH, kM, kN, kF, kL, envOf, Nat.reduceAdd]
 refine Cx.ent (Ent.trans (Ent.of t.out) (Ent.cons (Ent.of s.out))) ?_
 refine go ?_
 refine Sx.ca rfl (getHead w hw) ?_
 rintro v L' ⟨rfl, rfl⟩
 refine go ?_
 refine Sx.ca rfl (wordNext _ i _ (hdT_lt hw)) ?_
 rintro v L' ⟨rfl, rfl⟩
 refine go ?_
 refine Sx.ca rfl (putHead i _ h1 (by omega) (laterT_lt (hdT_lt hw))) ?_
 rintro v L' ⟨rfl, rfl⟩
 rw [show laterT (hdT w) * 4294967296 + (i + 1).toNat = nextW w i from rfl]
 refine go ?_
 refine Cx.ordc rfl kr_ ?_
 refine ge ?_
 refine Ev.caH kr_ rfl rfl (cellsCas (b := mp) (m := m) k.head w (nextW w i) k3 hlt) (Pres.deps kr_) ?_
 rintro v L' ⟨rfl, rfl⟩
 refine ge ?_
 refine go ?_
 exact Kr.one (.inr rfl) rfl (Ent.cons (Ent.of s.back)) ⟨rfl, rfl⟩
end
end Go.Proofs.YtggnbdeokmdjbaaGreat


namespace Go.Proofs.YtggnbdeokmdjbaaGreat
open Go
attribute [local irreducible] Sx Cx Rx Fx Krg Ksq Kbl Klp Kr
section
variable {L F G : St}
def popNx (a : Option Addr) (q : PopS) : Value := bif q.done then .nilFunc else .func (.func (match q.at_ with | 0 => 240 | 1 => 275 | _ => 294)) #[.pointer a] #[]
def popL (T : TypeId) (sb : Nat) (k : Sk) (q : PopS) (a : Option Addr) (y : (Option Addr × Nat) × Int) : St :=
 [lift (q.ok k), pt a (Blk T [popNx a q, .nilFunc, .nilFunc, .nilFunc, .int .i64 y.2, .pointer (some ⟨sb, 0, none⟩), .int .i64 q.most, .int .i64 q.under, wd q.was, .slice y.1.1 q.got.length y.1.2]), pt y.1.1 (Row 3 1 q.got.length y.1.2 (ints q.got))]
def PopT (T : TypeId) (sb : Nat) (k : Sk) (q : PopS) (a : Option Addr) : As := exs (popL T sb k q a)
abbrev PopO := PopT 310
theorem PopO.close {T : TypeId} {sb : Nat} {k : Sk} {a r : Option Addr} {c n : Nat} {cnt : Int} {v0 v1 v2 v3 : Value} {w : List Value} {F G : St} (q : PopS) (hq : q.ok k)
  [t : Take L a (Blk T [v0, .nilFunc, .nilFunc, .nilFunc, .int .i64 cnt, .pointer (some ⟨sb, 0, none⟩), v1, v2, v3, .slice r n c]) F] [u : Take F r (Row 3 1 n c w) G]
  (h0 : v0 = popNx a q) (h1 : v1 = .int .i64 q.most) (h2 : v2 = .int .i64 q.under) (h3 : v3 = wd q.was) (hn : n = q.got.length) (hw : w = ints q.got) : Ent L (pt a (PopT T sb k q) :: G) := by
 subst h0; subst h1; subst h2; subst h3; subst hn; subst hw
 refine Ent.trans (Ent.take1 (t := t) (Ent.of u.out)) ?_
 refine Ent.trans (Ent.lift hq (Ent.refl _)) ?_
 exact Ent.close (f := popL T sb k q a) rfl ((r, c), cnt)
theorem stackPop {sb : Nat} {k : Sk} (most : Int) (hn : 1 ≤ k.n) : Fx Tryz.prog 192 [.pointer (some ⟨sb, 0, none⟩), .int .i64 most] L (fun v L' => ∃ g, v = .pointer (some ⟨g, 0, none⟩) ∧ L' = pt (some ⟨g, 0, none⟩) (PopO sb k (PopS.init most)) :: L) := by
 refine Fx.mk Tryz.func192 k192 nb_ ?_
 dsimp only [c192, kG, kS, kH, kM, kN, kF, kL, envOf, Nat.reduceAdd]
 refine go ?_
 refine Sx.bx rfl rfl fun g => ?_
 refine go ?_
 refine Sx.ca rfl (machGo (b := g)) ?_
 rintro v L' ⟨rfl, rfl⟩
 refine go ?_
 refine Kr.one (.inr rfl) rfl ?_ ⟨g, rfl, rfl⟩
 refine Ent.trans (Ent.rownil 3 1) ?_
 refine PopO.close (a := some ⟨g, 0, none⟩) (r := none) (sb := sb) (PopS.init most) (PopS.ok_init hn most) rfl ?_ rfl rfl rfl rfl
 refine congrArg (Value.int .i64) ?_
 show _ = min (max most 1) 8
 simp only [cond_true, cond_false]
 (repeat' split) <;> omega
abbrev popF (b sb mp : Nat) (k : Sk) (m : Mm) (q : PopS) (r : Option Addr) (c : Nat) (cnt : Int) (G : St) : St :=
 pt (some ⟨b, 0, none⟩) (Blk 310 [.nilFunc, .nilFunc, .nilFunc, .nilFunc, .int .i64 cnt, .pointer (some ⟨sb, 0, none⟩), .int .i64 q.most, .int .i64 q.under, wd q.was, .slice r q.got.length c]) ::
 pt r (Row 3 1 q.got.length c (ints q.got)) :: pt (some ⟨mp, 0, none⟩) (MemO m) :: pt (some ⟨sb, 0, none⟩) (SkO mp k) :: G
abbrev popR (b sb mp : Nat) (k : Sk) (m : Mm) (q : PopS) (G : St) (v : Value) (L' : St) : Prop :=
 L' = pt (some ⟨b, 0, none⟩) (PopO sb k (popStep k m q).1) :: pt (some ⟨mp, 0, none⟩) (MemO (popStep k m q).2) :: pt (some ⟨sb, 0, none⟩) (SkO mp k) :: G
theorem pop_load_ {b sb mp : Nat} {k : Sk} {m : Mm} {q : PopS} {r : Option Addr} {c : Nat} {cnt : Int} (hm : m.ok) (hk : k.ok m.ws.length) (hq : q.ok k) (ha : q.at_ = 0) (hd : q.done = false) :
  Fx Tryz.prog 240 [.pointer (some ⟨b, 0, none⟩)] (popF b sb mp k m q r c cnt G) (popR b sb mp k m q G) := by
 have hok := popStep_ok hk hm hq
 have hlt := Mm.at_lt hm k.head
 obtain ⟨k1, k2, k3, k4, k5, k6⟩ := hk
 have e : ∀ x, popStep k m q = x → popStep k m q = x := fun _ h => h
 refine Fx.mk Tryz.func240 k240 nb_ ?_
 dsimp only [c240, kG, kS, kH, kM, kN, kF, kL, envOf, Nat.reduceAdd]
 refine go ?_
 refine Cx.ordc rfl kr_ ?_
 refine ge ?_
 refine Ev.caH kr_ rfl rfl (cellsLoad (b := mp) (m := m) k.head k3) (Pres.deps kr_) ?_
 rintro v L' ⟨rfl, rfl⟩
 refine ge ?_
 refine Ev.stbH (b := b) kr_ rfl rfl rfl rfl rfl (by rfl) rfl (Pres.deps kr_) ?_
 refine ge ?_
 refine go ?_
 refine Cx.ordc rfl kr_ ?_
 refine ge ?_
 refine Ev.cakH kr_ rfl rfl (stackTop (sb := sb) (mp := mp) (k := k) (m.at_ k.head) hlt) ?_
 refine ge ?_
 refine go ?_
 refine Cx.ifp rfl (fun h => ?_) (fun h => ?_)
 ·have e : popStep k m q = ({ q with was := m.at_ k.head, got := [k.top (m.at_ k.head)], at_ := 1 }, m.tick) := by
   unfold popStep; rw [hd, ha]; simp only [Bool.false_eq_true, if_false]; rw [if_pos h]
  rw [e] at hok
  refine go ?_
  refine Sx.bs (sz := 1) rfl rfl fun g => ?_
  refine Sx.apn rfl rfl (Rd.row (b := g) (E := 3) (cap := 1) rfl) rfl (by simp [maxLen]) (by omega) fun ra ca hc => ?_
  refine go ?_
  refine Sx.ca rfl (machGo (b := b)) ?_
  rintro v L' ⟨rfl, rfl⟩
  refine go ?_
  refine Kr.none (.inl rfl) ?_ rfl
  rw [e]
  refine Ent.trans (PopO.close (a := some ⟨b, 0, none⟩) (r := ra) (sb := sb) (k := k) _ hok ?_ rfl rfl rfl rfl rfl) ?_
  ·simp [popNx, hd]
  ·exact ent
 ·have e : popStep k m q = ({ q with was := m.at_ k.head, got := [], done := true }, m.tick) := by
   unfold popStep; rw [hd, ha]; simp only [Bool.false_eq_true, if_false]; rw [if_neg h]
  rw [e] at hok
  refine go ?_
  refine Kr.none (.inl rfl) ?_ rfl
  rw [e]
  refine Ent.trans (Ent.rownil 3 1) ?_
  refine Ent.trans (PopO.close (a := some ⟨b, 0, none⟩) (r := none) (sb := sb) (k := k) _ hok ?_ rfl rfl rfl rfl rfl) ?_
  ·simp [popNx]
  ·exact ent
theorem lastI_get {l : List Int} (h : l ≠ []) : l[l.length - 1]? = some (lastI l) := by
 unfold lastI
 rw [List.getLastD_eq_getLast?, ← List.getLast?_eq_getElem?, List.getLast?_eq_some_getLast h]; rfl
theorem pop_link_ {b sb mp : Nat} {k : Sk} {m : Mm} {q : PopS} {r : Option Addr} {c : Nat} {cnt : Int} (hm : m.ok) (hk : k.ok m.ws.length) (hq : q.ok k) (ha : q.at_ = 1) (hd : q.done = false) :
  Fx Tryz.prog 275 [.pointer (some ⟨b, 0, none⟩)] (popF b sb mp k m q r c cnt G) (popR b sb mp k m q G) := by
 have hok := popStep_ok hk hm hq
 have hne := hq.ne hd (by omega)
 have hlp := List.length_pos_iff.2 hne
 have hrg := hq.g _ (lastI_mem hne)
 have hlen := hq.len
 obtain ⟨k1, k2, k3, k4, k5, k6⟩ := hk
 have hx0 : (ints q.got)[q.got.length - 1]? = some (.int .i64 (lastI q.got)) := by simp only [ints, List.getElem?_map, lastI_get hne]; rfl
 obtain ⟨x, hx⟩ : ∃ x : Nat, lastI q.got = x := ⟨(lastI q.got).toNat, by omega⟩
 have hlt := Mm.at_lt hm (k.links + x)
 have hat : k.links + (lastI q.got).toNat = k.links + x := by omega
 refine Fx.mk Tryz.func275 k275 nb_ ?_
 dsimp only [c275, kG, kS, kH, kM, kN, kF, kL, envOf, Nat.reduceAdd]
 refine Cx.rowkey (a := r) fun hxl _ _ hkr => ?_
 obtain ⟨rg, rfl⟩ : ∃ g, r = some ⟨g, 0, none⟩ := by
  rcases hkr with h | h
  ·omega
  ·exact h
 refine go ?_
 refine Cx.ordc rfl kr_ ?_
 refine ge ?_
 rw [w64 (n := (q.got.length : Int) - 1) (by omega) (by omega)]
 refine Ev.pvH kr_ rfl rfl ⟨by omega, by omega⟩ ?_
 refine Ev.ldrH (b := rg) kr_ rfl rfl (v := .int .i64 (lastI q.got)) (by rw [show 0 + ((q.got.length : Int) - 1).toNat * 1 = q.got.length - 1 by omega]; exact hx0) ?_
 refine ge ?_
 rw [hx, w64 (n := (k.links : Int) + x) (by omega) (by omega), show (k.links : Int) + x = ((k.links + x : Nat) : Int) by omega]
 refine Ev.caH kr_ rfl rfl (cellsLoad (b := mp) (m := m) (k.links + x) (by omega)) (Pres.deps kr_) ?_
 rintro v L' ⟨rfl, rfl⟩
 refine ge ?_
 refine go ?_
 refine Sx.ca rfl (stackBelow (sb := sb) (mp := mp) (k := k) (m.at_ (k.links + x)) hlt k2) ?_
 rintro v L' ⟨rfl, rfl⟩
 refine go ?_
 refine Cx.ordc rfl kr_ ?_
 refine ge ?_
 have hbl := k.below_lt (m.at_ (k.links + x))
 have no : (popStep k m q = ({ q with under := k.below (m.at_ (k.links + x)), at_ := 2 }, m.tick)) → Ent
   (pt (some ⟨b, 0, none⟩) (Blk 310 [mth 294 b, .nilFunc, .nilFunc, .nilFunc, .int .i64 cnt, .pointer (some ⟨sb, 0, none⟩), .int .i64 q.most, .int .i64 (k.below (m.at_ (k.links + x))), wd q.was, .slice (some ⟨rg, 0, none⟩) q.got.length c]) ::
    pt (some ⟨mp, 0, none⟩) (MemO m.tick) :: pt (some ⟨rg, 0, none⟩) (Row 3 1 q.got.length c (ints q.got)) :: pt (some ⟨sb, 0, none⟩) (SkO mp k) :: G)
   (pt (some ⟨b, 0, none⟩) (PopO sb k (popStep k m q).1) :: pt (some ⟨mp, 0, none⟩) (MemO (popStep k m q).2) :: pt (some ⟨sb, 0, none⟩) (SkO mp k) :: G) := by
  intro e
  rw [e] at hok ⊢
  refine Ent.trans (PopO.close (a := some ⟨b, 0, none⟩) (r := some ⟨rg, 0, none⟩) (sb := sb) (k := k) _ hok ?_ rfl rfl rfl rfl rfl) (Ent.refl _)
  simp [popNx, hd]
 have eno : (¬ (0 ≤ k.below (m.at_ (k.links + x)) ∧ (q.got.length : Int) < q.most)) → popStep k m q = ({ q with under := k.below (m.at_ (k.links + x)), at_ := 2 }, m.tick) := by
  intro h
  unfold popStep; rw [hd, ha]; simp only [Bool.false_eq_true, if_false]; rw [hat, if_neg h]
 by_cases h0 : 0 ≤ k.below (m.at_ (k.links + x))
 ·refine Ev.yes 49 rfl (decide_eq_true h0) ?_
  refine ge ?_
  refine Cx.ifp rfl (fun h1 => ?_) (fun h1 => ?_)
  ·have e : popStep k m q = ({ q with under := k.below (m.at_ (k.links + x)), got := q.got ++ [k.below (m.at_ (k.links + x))] }, m.tick) := by
    unfold popStep; rw [hd, ha]; simp only [Bool.false_eq_true, if_false]; rw [hat, if_pos ⟨h0, h1⟩]
   rw [e] at hok
   refine go ?_
   refine Cx.ordc rfl kr_ ?_
   refine ge ?_
   refine Ev.bsH (sz := 1) kr_ rfl rfl rfl (.dep rfl (.keep (fun v L' ⟨_, _, e⟩ => by subst e; exact Has.cell rfl) .nil)) fun g => ?_
   refine ge ?_
   refine Ev.apH (ra := some ⟨rg, 0, none⟩) kr_ rfl rfl rfl (Rd.row (b := g) (E := 3) (cap := 1) rfl) rfl (by simp [maxLen]; omega) (by omega) (Pres.deps kr_) fun ra ca hc hka => ?_
   refine ge ?_
   refine Ev.stbH (b := b) kr_ rfl rfl rfl rfl rfl (by rfl) rfl (Pres.deps kr_) ?_
   refine ge ?_
   refine go ?_
   refine Sx.ca rfl (machGo (b := b)) ?_
   rintro v L' ⟨rfl, rfl⟩
   refine go ?_
   refine Kr.none (.inl rfl) ?_ rfl
   rw [e]
   refine Ent.trans (PopO.close (a := some ⟨b, 0, none⟩) (r := ra) (sb := sb) (k := k) _ hok ?_ rfl rfl rfl (by simp) (by simp [ints_append]; rfl)) ?_
   ·simp [popNx, hd, ha]
   ·exact ent
  ·refine go ?_
   refine Sx.ca rfl (machGo (b := b)) ?_
   rintro v L' ⟨rfl, rfl⟩
   refine go ?_
   exact Kr.none (.inl rfl) (no (eno fun h => h1 h.2)) rfl
 ·refine Ev.no 49 rfl (decide_eq_false h0) ?_
  refine ge ?_
  refine go ?_
  refine Sx.ca rfl (machGo (b := b)) ?_
  rintro v L' ⟨rfl, rfl⟩
  refine go ?_
  exact Kr.none (.inl rfl) (no (eno fun h => h0 h.1)) rfl
theorem pop_cas_ {b sb mp : Nat} {k : Sk} {m : Mm} {q : PopS} {r : Option Addr} {c : Nat} {cnt : Int} (hm : m.ok) (hk : k.ok m.ws.length) (hq : q.ok k) (ha : q.at_ = 2) (hd : q.done = false) :
  Fx Tryz.prog 294 [.pointer (some ⟨b, 0, none⟩)] (popF b sb mp k m q r c cnt G) (popR b sb mp k m q G) := by
 have hok := popStep_ok hk hm hq
 have e : popStep k m q = ({ q with at_ := 0, done := decide (m.at_ k.head = q.was) }, m.cas k.head q.was (nextW q.was q.under)) := by
  unfold popStep; rw [hd, ha]; rfl
 rw [e] at hok
 refine Fx.mk Tryz.func294 k294 nb_ ?_
 dsimp only [c294, kG, kS, kH, kM, kN, kF, kL, envOf, Nat.reduceAdd]
 refine go ?_
 refine Cx.ordc rfl kr_ ?_
 refine ge ?_
 refine Ev.caH kr_ rfl rfl (stackExchange (sb := sb) (mp := mp) (k := k) (m := m) q.was q.under hk hq.w hq.u1 hq.u2) (Pres.deps kr_) ?_
 rintro v L' ⟨rfl, rfl⟩
 refine ge ?_
 refine Cx.ifn rfl (fun h => ?_) (fun h => ?_)
 ·rw [decide_eq_false h] at e hok
  refine go ?_
  refine Sx.ca rfl (machGo (b := b)) ?_
  rintro v L' ⟨rfl, rfl⟩
  refine go ?_
  refine Kr.none (.inl rfl) ?_ rfl
  rw [e]
  refine Ent.trans (PopO.close (a := some ⟨b, 0, none⟩) (r := r) (sb := sb) (k := k) _ hok ?_ rfl rfl rfl rfl rfl) ?_
  ·simp [popNx]
  ·exact ent
 ·rw [decide_eq_true h] at e hok
  refine go ?_
  refine Kr.none (.inl rfl) ?_ rfl
  rw [e]
  refine Ent.trans (PopO.close (a := some ⟨b, 0, none⟩) (r := r) (sb := sb) (k := k) _ hok ?_ rfl rfl rfl rfl rfl) ?_
  ·simp [popNx]
  ·exact ent
theorem memKey {b : Nat} {m : Mm} {F : St} [t : Take L (some ⟨b, 0, none⟩) (MemO m) F] : ∀ h, holds L h → m.ok ∧ m.ws.length ≤ 8388608 := by
 intro h hh
 have h1 := t.out h hh
 obtain ⟨y, hy⟩ := holds_ex.1 h1
 have := holds_lift.1 hy
 exact ⟨this.1.1, this.1.2.1⟩
theorem popStepC {b sb mp : Nat} {k : Sk} {m : Mm} {q : PopS} {F1 F2 : St} (hk : k.ok m.ws.length) [tp : Take L (some ⟨b, 0, none⟩) (PopO sb k q) F1] [t : Take F1 (some ⟨mp, 0, none⟩) (MemO m) F2] [s : Take F2 (some ⟨sb, 0, none⟩) (SkO mp k) G] :
  Fx Tryz.prog 193 [.pointer (some ⟨b, 0, none⟩)] L (fun v L' => v = .bool (!q.done) ∧ L' = pt (some ⟨b, 0, none⟩) (PopO sb k (popStep k m q).1) :: pt (some ⟨mp, 0, none⟩) (MemO (popStep k m q).2) :: F2) := by
 refine Fx.mk Tryz.func193 k193 nb_ ?_
 dsimp only [c193, kG, kS, kH, kM, kN, kF, kL, envOf, Nat.reduceAdd]
 refine Cx.ent (Ent.trans (Ent.of tp.out) (Ent.cons (Ent.trans (Ent.of t.out) (Ent.cons (Ent.of s.out))))) ?_
 refine Cx.pure (memKey (b := mp) (m := m)) fun hm => ?_
 refine Cx.openp (a := some ⟨b, 0, none⟩) rfl ?_
 rintro ⟨⟨r, c⟩, cnt⟩
 simp only [popL, List.cons_append, List.nil_append]
 refine Cx.liftp fun hq => ?_
 cases hd : q.done with
 | true =>
   have e : popStep k m q = (q, m) := by unfold popStep; rw [hd]; rfl
   rw [e, show popNx (some ⟨b, 0, none⟩) q = .nilFunc by simp [popNx, hd]]
   refine go ?_
   refine Sx.ca rfl (machStepDone (b := b)) ?_
   rintro v L' ⟨rfl, rfl⟩
   refine go ?_
   refine Kr.one (.inr rfl) rfl ?_ ⟨rfl, rfl⟩
   refine Ent.trans (PopO.close (a := some ⟨b, 0, none⟩) (r := r) (sb := sb) (k := k) q hq ?_ rfl rfl rfl rfl rfl) (Ent.cons (Ent.cons (Ent.of s.back)))
   simp [popNx, hd]
 | false =>
   have hcase := hq.a
   rcases (show q.at_ = 0 ∨ q.at_ = 1 ∨ q.at_ = 2 by omega) with ha | ha | ha
   ·rw [show popNx (some ⟨b, 0, none⟩) q = .func (.func 240) #[.pointer (some ⟨b, 0, none⟩)] #[] by simp [popNx, hd, ha]]
    refine go ?_
    refine Sx.ca rfl (machStep (b := b) kr_ (pop_load_ (G := G) hm.1 hk hq ha hd)) ?_
    rintro v L' ⟨rfl, u, rfl⟩
    refine go ?_
    exact Kr.one (.inr rfl) rfl (Ent.cons (Ent.cons (Ent.of s.back))) ⟨rfl, rfl⟩
   ·rw [show popNx (some ⟨b, 0, none⟩) q = .func (.func 275) #[.pointer (some ⟨b, 0, none⟩)] #[] by simp [popNx, hd, ha]]
    refine go ?_
    refine Sx.ca rfl (machStep (b := b) kr_ (pop_link_ (G := G) hm.1 hk hq ha hd)) ?_
    rintro v L' ⟨rfl, u, rfl⟩
    refine go ?_
    exact Kr.one (.inr rfl) rfl (Ent.cons (Ent.cons (Ent.of s.back))) ⟨rfl, rfl⟩
   ·rw [show popNx (some ⟨b, 0, none⟩) q = .func (.func 294) #[.pointer (some ⟨b, 0, none⟩)] #[] by simp [popNx, hd, ha]]
    refine go ?_
    refine Sx.ca rfl (machStep (b := b) kr_ (pop_cas_ (G := G) hm.1 hk hq ha hd)) ?_
    rintro v L' ⟨rfl, u, rfl⟩
    refine go ?_
    exact Kr.one (.inr rfl) rfl (Ent.cons (Ent.cons (Ent.of s.back))) ⟨rfl, rfl⟩
theorem popDoneC {b sb : Nat} {k : Sk} {q : PopS} {F1 : St} [tp : Take L (some ⟨b, 0, none⟩) (PopO sb k q) F1] : Fx Tryz.prog 194 [.pointer (some ⟨b, 0, none⟩)] L (fun v L' => v = .bool q.done ∧ L = L') := by
 refine Fx.kept (t := tp) ?_
 refine Fx.mk Tryz.func194 k194 nb_ ?_
 dsimp only [c194, kG, kS, kH, kM, kN, kF, kL, envOf, Nat.reduceAdd]
 refine Cx.openp (t := tp) rfl ?_
 rintro ⟨⟨r, c⟩, cnt⟩
 simp only [popL, List.cons_append, List.nil_append]
 refine Cx.liftp fun hq => ?_
 cases hd : q.done with
 | true =>
   have e : popNx (some ⟨b, 0, none⟩) q = .nilFunc := by simp [popNx, hd]
   rw [e]
   refine go ?_
   refine Sx.ca rfl (machDoneYes (b := b)) ?_
   rintro v L' ⟨rfl, rfl⟩
   refine go ?_
   exact Kr.one (.inr rfl) rfl (PopO.close (a := some ⟨b, 0, none⟩) (r := r) (sb := sb) (k := k) q hq e.symm rfl rfl rfl rfl rfl) ⟨rfl, rfl⟩
 | false =>
   have e : popNx (some ⟨b, 0, none⟩) q = .func (.func (match q.at_ with | 0 => 240 | 1 => 275 | _ => 294)) #[.pointer (some ⟨b, 0, none⟩)] #[] := by simp [popNx, hd]
   rw [e]
   refine go ?_
   refine Sx.ca rfl (machDoneNo (b := b)) ?_
   rintro v L' ⟨rfl, rfl⟩
   refine go ?_
   exact Kr.one (.inr rfl) rfl (PopO.close (a := some ⟨b, 0, none⟩) (r := r) (sb := sb) (k := k) q hq e.symm rfl rfl rfl rfl rfl) ⟨rfl, rfl⟩
theorem popGot {b sb : Nat} {k : Sk} {q : PopS} {F1 : St} (hd : q.done = true) [tp : Take L (some ⟨b, 0, none⟩) (PopO sb k q) F1] : Fx Tryz.prog 241 [.pointer (some ⟨b, 0, none⟩)] L
  (fun v L' => ∃ ro co, v = .slice ro q.got.length co ∧ L' = pt ro (Row 3 1 q.got.length co (ints q.got)) :: pt (some ⟨b, 0, none⟩) (PopO sb k q) :: F1) := by
 refine Fx.mk Tryz.func241 k241 nb_ ?_
 dsimp only [c241, kG, kS, kH, kM, kN, kF, kL, envOf, Nat.reduceAdd]
 refine go ?_
 refine Sx.ca rfl (popDoneC (b := b) (sb := sb) (k := k) (q := q)) ?_
 rintro v L' ⟨rfl, rfl⟩
 rw [hd]
 refine go ?_
 refine Sx.openp (t := tp) rfl ?_
 rintro ⟨⟨r, c⟩, cnt⟩
 simp only [popL, List.cons_append, List.nil_append]
 refine Sx.liftp fun hq => ?_
 have hlen := hq.len
 refine go ?_
 refine Sx.rowkey (a := r) fun hxl _ _ hkr => ?_
 refine Sx.ca rfl (clone (Rd.any (a := r) hxl (hkr.imp (fun h => h.2.1) id)) (ones_ints _) (by omega)) ?_
 rintro v L' ⟨ra, ca, rfl, rfl⟩
 refine go ?_
 refine Kr.one (.inr rfl) rfl (Ent.cons (PopO.close (a := some ⟨b, 0, none⟩) (r := r) (sb := sb) (k := k) q hq rfl rfl rfl rfl rfl rfl)) ⟨ra, ca, rfl, rfl⟩
end
end Go.Proofs.YtggnbdeokmdjbaaGreat


namespace Go.Proofs.YtggnbdeokmdjbaaGreat
structure Lm where
 t0 : Int
 x0 : List Int
 t1 : Int
 x1 : List Int
 t2 : Int
 x2 : List Int
 last : Int
def Lm.tag (m : Lm) (k : Nat) : Int := match k with | 0 => m.t0 | 1 => m.t1 | _ => m.t2
def Lm.items (m : Lm) (k : Nat) : List Int := match k with | 0 => m.x0 | 1 => m.x1 | _ => m.x2
def Lm.put (m : Lm) (k : Nat) (t : Int) (xs : List Int) : Lm := match k with
 | 0 => { m with t0 := t, x0 := xs }
 | 1 => { m with t1 := t, x1 := xs }
 | _ => { m with t2 := t, x2 := xs }
def Lm.nil : Lm := ⟨0, [], 0, [], 0, [], 0⟩
def Lm.size (m : Lm) : Nat := m.x0.length + m.x1.length + m.x2.length
def refused (m : Lm) (tag : Int) (ys : List Int) : Prop := ys = [] ∨ tag < 0 ∨ 4611686018427387903 < tag ∨ tag < m.last
def bucketOf (tag : Int) : Nat := tag.toNat % 3
def outM (m : Lm) (tag : Int) : List Int := if m.tag (bucketOf tag) < tag then m.items (bucketOf tag) else []
def retireM (m : Lm) (tag : Int) (ys : List Int) : Lm := { m.put (bucketOf tag) tag ((if m.tag (bucketOf tag) < tag then [] else m.items (bucketOf tag)) ++ ys) with last := tag }
def openM (now t : Int) (xs : List Int) : Bool := decide (0 < xs.length ∧ t ≤ now - 2)
def Lm.open_ (m : Lm) (now : Int) (k : Nat) : Bool := openM now (m.tag k) (m.items k)
def leastUp (now : Int) (m : Lm) : Nat → Option Nat
 | 0 => none
 | k + 1 => bif m.open_ now k then (match leastUp now m k with | none => some k | some j => if m.tag k < m.tag j then some k else some j) else leastUp now m k
theorem leastUp_lt {now : Int} {m : Lm} : ∀ {k j : Nat}, leastUp now m k = some j → j < k ∧ m.open_ now j = true
 | 0, j, h => by cases h
 | k + 1, j, h => by
   unfold leastUp at h
   cases ho : m.open_ now k with
   | false =>
     rw [ho, cond_false] at h
     have := leastUp_lt h
     exact ⟨by omega, this.2⟩
   | true =>
     rw [ho, cond_true] at h
     split at h
     ·cases h; exact ⟨by omega, ho⟩
     ·rename_i i hi
      have := leastUp_lt hi
      split at h
      ·cases h; exact ⟨by omega, ho⟩
      ·cases h; exact ⟨by omega, this.2⟩
theorem leastUp_no {now : Int} {m : Lm} {k : Nat} (h : m.open_ now k = false) : leastUp now m (k + 1) = leastUp now m k := by simp [leastUp, h]
theorem leastUp_first {now : Int} {m : Lm} {k : Nat} (h : m.open_ now k = true) (h2 : leastUp now m k = none) : leastUp now m (k + 1) = some k := by simp [leastUp, h, h2]
theorem leastUp_less {now : Int} {m : Lm} {k j : Nat} (h : m.open_ now k = true) (h2 : leastUp now m k = some j) (h3 : m.tag k < m.tag j) : leastUp now m (k + 1) = some k := by simp [leastUp, h, h2, h3]
theorem leastUp_keep {now : Int} {m : Lm} {k j : Nat} (h : m.open_ now k = true) (h2 : leastUp now m k = some j) (h3 : ¬ m.tag k < m.tag j) : leastUp now m (k + 1) = some j := by simp [leastUp, h, h2, h3]
def one (xs : List Int) : Nat := if xs = [] then 0 else 1
def Lm.cnt (m : Lm) : Nat := one m.x0 + one m.x1 + one m.x2
def readyM (now : Int) : Nat → Lm → List Int × Lm
 | 0, m => ([], m)
 | f + 1, m => match leastUp now m 3 with
   | none => ([], m)
   | some j => (m.items j ++ (readyM now f (m.put j 0 [])).1, (readyM now f (m.put j 0 [])).2)
def readyAll (now : Int) (m : Lm) : List Int × Lm := if 2 ≤ now then readyM now m.cnt m else ([], m)
theorem cnt_put {m : Lm} {j : Nat} (hj : j < 3) (hx : m.items j ≠ []) : m.cnt = (m.put j 0 []).cnt + 1 := by
 rcases (show j = 0 ∨ j = 1 ∨ j = 2 by omega) with rfl | rfl | rfl <;> simp [Lm.cnt, Lm.put, one, Lm.items] at hx ⊢ <;> simp [hx] <;> omega
theorem open_ne {now : Int} {m : Lm} {j : Nat} (h : m.open_ now j = true) : m.items j ≠ [] := by
 intro e
 simp [Lm.open_, openM, e] at h
theorem size_put {m : Lm} {j : Nat} (hj : j < 3) : m.size = (m.put j 0 []).size + (m.items j).length := by
 rcases (show j = 0 ∨ j = 1 ∨ j = 2 by omega) with rfl | rfl | rfl <;> simp [Lm.size, Lm.put, Lm.items] <;> omega
theorem leastUp_none {now : Int} {m : Lm} : ∀ {k : Nat}, leastUp now m k = none → ∀ j, j < k → m.open_ now j = false
 | 0, _, j, hj => by omega
 | k + 1, h, j, hj => by
   unfold leastUp at h
   cases ho : m.open_ now k with
   | true =>
     rw [ho, cond_true] at h
     split at h
     ·cases h
     ·split at h <;> cases h
   | false =>
     rw [ho, cond_false] at h
     rcases (show j < k ∨ j = k by omega) with h1 | rfl
     ·exact leastUp_none h j h1
     ·exact ho
def closeAll (now : Int) (m : Lm) : Lm :=
 ⟨if m.open_ now 0 then 0 else m.t0, if m.open_ now 0 then [] else m.x0, if m.open_ now 1 then 0 else m.t1, if m.open_ now 1 then [] else m.x1, if m.open_ now 2 then 0 else m.t2, if m.open_ now 2 then [] else m.x2, m.last⟩
def opened (now : Int) (m : Lm) : List Int := (if m.open_ now 0 then m.x0 else []) ++ ((if m.open_ now 1 then m.x1 else []) ++ (if m.open_ now 2 then m.x2 else []))
theorem close_none {now : Int} {m : Lm} (h : ∀ j, j < 3 → m.open_ now j = false) : closeAll now m = m ∧ opened now m = [] := by
 simp [closeAll, opened, h 0 (by omega), h 1 (by omega), h 2 (by omega)]
theorem open_put {now : Int} {m : Lm} {j : Nat} : (m.put j 0 []).open_ now j = false := by
 match j with
 | 0 => simp [Lm.open_, openM, Lm.put, Lm.items]
 | 1 => simp [Lm.open_, openM, Lm.put, Lm.items]
 | n + 2 => simp [Lm.open_, openM, Lm.put, Lm.items]
theorem close_put {now : Int} {m : Lm} {j : Nat} (hj : j < 3) (ho : m.open_ now j = true) : closeAll now (m.put j 0 []) = closeAll now m ∧ (m.items j ++ opened now (m.put j 0 [])).Perm (opened now m) := by
 rcases (show j = 0 ∨ j = 1 ∨ j = 2 by omega) with rfl | rfl | rfl
 ·have h1 : (m.put 0 0 []).open_ now 1 = m.open_ now 1 := rfl
  have h2 : (m.put 0 0 []).open_ now 2 = m.open_ now 2 := rfl
  refine ⟨?_, ?_⟩
  ·unfold closeAll; rw [open_put, h1, h2, ho]; rfl
  ·unfold opened; rw [open_put, h1, h2, ho]; exact List.Perm.refl _
 ·have h1 : (m.put 1 0 []).open_ now 0 = m.open_ now 0 := rfl
  have h2 : (m.put 1 0 []).open_ now 2 = m.open_ now 2 := rfl
  refine ⟨?_, ?_⟩
  ·unfold closeAll; rw [open_put, h1, h2, ho]; rfl
  ·unfold opened; rw [open_put, h1, h2, ho]
   show (m.x1 ++ ((if m.open_ now 0 then m.x0 else []) ++ ([] ++ (if m.open_ now 2 then m.x2 else [])))).Perm ((if m.open_ now 0 then m.x0 else []) ++ (m.x1 ++ (if m.open_ now 2 then m.x2 else [])))
   rw [List.nil_append, ← List.append_assoc, ← List.append_assoc]
   exact List.Perm.append_right _ List.perm_append_comm
 ·have h1 : (m.put 2 0 []).open_ now 0 = m.open_ now 0 := rfl
  have h2 : (m.put 2 0 []).open_ now 1 = m.open_ now 1 := rfl
  refine ⟨?_, ?_⟩
  ·unfold closeAll; rw [open_put, h1, h2, ho]; rfl
  ·unfold opened; rw [open_put, h1, h2, ho]
   show (m.x2 ++ ((if m.open_ now 0 then m.x0 else []) ++ ((if m.open_ now 1 then m.x1 else []) ++ []))).Perm ((if m.open_ now 0 then m.x0 else []) ++ ((if m.open_ now 1 then m.x1 else []) ++ m.x2))
   rw [List.append_nil, ← List.append_assoc (if m.open_ now 0 then m.x0 else [])]
   exact List.perm_append_comm
theorem cnt_zero {m : Lm} (h : m.cnt = 0) : ∀ j, m.items j = [] := by
 unfold Lm.cnt one at h
 intro j
 have h0 : m.x0 = [] := by false_or_by_contra; rename_i hh; simp [hh] at h
 have h1 : m.x1 = [] := by false_or_by_contra; rename_i hh; simp [hh] at h
 have h2 : m.x2 = [] := by false_or_by_contra; rename_i hh; simp [hh] at h
 unfold Lm.items
 split
 ·exact h0
 ·exact h1
 ·exact h2
theorem readyM_spec {now : Int} : ∀ (f : Nat) (m : Lm), m.cnt ≤ f → (readyM now f m).2 = closeAll now m ∧ (readyM now f m).1.Perm (opened now m)
 | 0, m, h => by
   have hz := cnt_zero (m := m) (by omega)
   have hn : ∀ j, j < 3 → m.open_ now j = false := fun j _ => by simp [Lm.open_, openM, hz j]
   have := close_none hn
   rw [this.1, this.2]
   exact ⟨rfl, List.Perm.refl _⟩
 | f + 1, m, h => by
   cases hl : leastUp now m 3 with
   | none =>
     have := close_none (leastUp_none hl)
     rw [this.1, this.2]
     simp [readyM, hl]
   | some j =>
     obtain ⟨hj, ho⟩ := leastUp_lt hl
     have hc := cnt_put hj (open_ne ho)
     have ih := readyM_spec (now := now) f (m.put j 0 []) (by omega)
     have hp := close_put hj ho
     simp only [readyM, hl]
     exact ⟨ih.1.trans hp.1, (List.Perm.append_left _ ih.2).trans hp.2⟩
theorem readyAll_spec {now : Int} {m : Lm} (h : 2 ≤ now) : (readyAll now m).2 = closeAll now m ∧ (readyAll now m).1.Perm (opened now m) := by
 unfold readyAll
 rw [if_pos h]
 exact readyM_spec _ _ (Nat.le_refl _)
theorem size_retire (m : Lm) (tag : Int) (ys : List Int) : (retireM m tag ys).size ≤ m.size + ys.length ∧ (outM m tag).length ≤ m.size := by
 have hlt : bucketOf tag < 3 := Nat.mod_lt _ (by omega)
 unfold retireM outM
 generalize bucketOf tag = k at *
 rcases (show k = 0 ∨ k = 1 ∨ k = 2 by omega) with rfl | rfl | rfl <;> constructor <;> split <;> simp [Lm.size, Lm.put, Lm.items] <;> omega
theorem size_ready (now : Int) (m : Lm) : (readyAll now m).1.length + (readyAll now m).2.size = m.size := by
 by_cases h : 2 ≤ now
 ·have := readyAll_spec (m := m) h
  rw [this.1, this.2.length_eq]
  unfold opened closeAll Lm.size
  simp only [List.length_append]
  cases m.open_ now 0 <;> cases m.open_ now 1 <;> cases m.open_ now 2 <;> simp <;> omega
 ·unfold readyAll
  rw [if_neg h]; simp
end Go.Proofs.YtggnbdeokmdjbaaGreat


namespace Go.Proofs.YtggnbdeokmdjbaaGreat
def cutE (w : Nat) : Int := min (w : Int) 4611686018427387903
structure SupS where
 most : Int
 xs : List Int
 lm : Lm
def SupS.nil (most : Int) : SupS := ⟨min (max most 0) 64, [], Lm.nil⟩
def SupS.give (s : SupS) (l : List Int) : SupS := { s with xs := s.xs ++ l }
def SupS.ready (s : SupS) (now : Int) : SupS := ⟨s.most, s.xs ++ (readyAll now s.lm).1, (readyAll now s.lm).2⟩
def SupS.kept (s : SupS) : SupS := { s with xs := s.xs.dropLast }
structure TakeS where
 at_ : Nat
 chunk : Int
 is_ : Bool
 seen : Int
 q : PopS
 done : Bool
def TakeS.none_ : TakeS := ⟨0, 0, false, -1, PopS.init 1, false⟩
def keepT (s : SupS) (t : TakeS) : Option (SupS × TakeS) := if s.xs = [] then none else some (s.kept, { t with chunk := lastI s.xs, is_ := true, done := true })
def takeInit (batch : Int) (s : SupS) : SupS × TakeS :=
 match keepT s TakeS.none_ with
 | some r => r
 | none => if 0 < s.lm.size then (s, TakeS.none_) else (s, { TakeS.none_ with at_ := 1, q := PopS.init batch })
def popped (s : SupS) (t : TakeS) : SupS × TakeS :=
 match t.q.got with
 | [] => (s, { t with done := true })
 | x :: l => (s.give l, { t with chunk := x, is_ := true, done := true })
def takeStep (k : Sk) (batch : Int) (m : Mm) (s : SupS) (t : TakeS) : Mm × SupS × TakeS :=
 if t.done then (m, s, t) else
 match t.at_ with
 | 0 =>
   let t1 : TakeS := { t with seen := cutE (m.at_ 2) }
   let s1 := s.ready (cutE (m.at_ 2))
   match keepT s1 t1 with
   | some r => (m.tick, r)
   | none => (m.tick, s1, { t1 with at_ := 1, q := PopS.init batch })
 | _ =>
   let r := popStep k m t.q
   let t1 : TakeS := { t with q := r.1 }
   if r.1.done then (r.2, popped s t1) else (r.2, s, t1)
end Go.Proofs.YtggnbdeokmdjbaaGreat


namespace Go.Proofs.YtggnbdeokmdjbaaGreat
def ChainL (k : Sk) (m : Mm) : Int → List Int → Prop
 | i, [] => i = -1
 | i, x :: l => i = x ∧ 0 ≤ x ∧ x < k.n ∧ ChainL k m (k.below (m.at_ (k.links + x.toNat))) l
structure Pool (k : Sk) (m : Mm) (l : List Int) : Prop where
 c : ChainL k m (k.top (m.at_ k.head)) l
 nd : l.Nodup
theorem ChainL.mem {k : Sk} {m : Mm} : ∀ {l : List Int} {i : Int}, ChainL k m i l → ∀ x ∈ l, 0 ≤ x ∧ x < k.n
 | [], _, _, x, hx => by cases hx
 | y :: l, i, h, x, hx => by
   obtain ⟨_, h1, h2, h3⟩ := h
   rcases List.mem_cons.1 hx with rfl | hx
   ·exact ⟨h1, h2⟩
   ·exact h3.mem x hx
theorem ChainL.congr {k : Sk} {m m' : Mm} : ∀ {l : List Int} {i : Int}, ChainL k m i l → (∀ x ∈ l, m'.at_ (k.links + x.toNat) = m.at_ (k.links + x.toNat)) → ChainL k m' i l
 | [], _, h, _ => h
 | y :: l, i, h, e => by
   obtain ⟨h0, h1, h2, h3⟩ := h
   refine ⟨h0, h1, h2, ?_⟩
   rw [e y (by simp)]
   exact h3.congr fun x hx => e x (by simp [hx])
theorem ChainL.head_ {k : Sk} {m : Mm} {l : List Int} {i : Int} (h : ChainL k m i l) : i = l.headD (-1) := by
 cases l with
 | nil => exact h
 | cons x l => exact h.1
theorem ChainL.drop_ {k : Sk} {m : Mm} : ∀ {l : List Int} {i : Int} {j : Nat}, ChainL k m i l → (hj : j < l.length) → ChainL k m (k.below (m.at_ (k.links + (l[j]).toNat))) (l.drop (j + 1))
 | x :: l, i, 0, h, _ => by simpa using h.2.2.2
 | x :: l, i, j + 1, h, hj => by
   have := h.2.2.2.drop_ (j := j) (by simpa using hj)
   simpa using this
def popIt (k : Sk) : Nat → PopS × Mm → PopS × Mm
 | 0, s => s
 | n + 1, s => popIt k n (popStep k s.2 s.1)
theorem popIt_add (k : Sk) : ∀ (a b : Nat) (s : PopS × Mm), popIt k (a + b) s = popIt k b (popIt k a s)
 | 0, b, s => by simp [popIt]
 | a + 1, b, s => by
   rw [show a + 1 + b = (a + b) + 1 by omega]
   exact popIt_add k a b _
theorem popIt_succ (k : Sk) (a : Nat) (s : PopS × Mm) : popIt k (a + 1) s = popStep k (popIt k a s).2 (popIt k a s).1 := popIt_add k a 1 s
def Mm.add (m : Mm) (j : Nat) : Mm := ⟨m.ws, m.n + j⟩
theorem pop_links {k : Sk} {m : Mm} {l : List Int} (hp : Pool k m l) (most : Int) (h1 : 1 ≤ most) (h8 : most ≤ 8) (hl : l ≠ []) :
  ∀ j : Nat, 1 ≤ j → (j : Int) ≤ most → j ≤ l.length → ∃ u : Int, popIt k j (PopS.init most, m) = (⟨most, 1, u, m.at_ k.head, l.take j, false⟩, m.add j) := by
 intro j
 induction j with
 | zero => intro h; omega
 | succ j ih =>
   intro _ hm hj
   rw [popIt_succ]
   by_cases hj0 : j = 0
   ·subst hj0
    obtain ⟨x, l', rfl⟩ := List.exists_cons_of_ne_nil hl
    have hc := hp.c
    have e1 : k.top (m.at_ k.head) = x := hc.1
    have e2 := hc.2.1
    refine ⟨0, ?_⟩
    simp only [popIt, PopS.init, popStep, Bool.false_eq_true, if_false, e1, if_pos e2]
    simp [Mm.add, Mm.tick]
    omega
   ·obtain ⟨u, hu⟩ := ih (by omega) (by omega) (by omega)
    rw [hu]
    have hlast : lastI (l.take j) = l[j - 1] := by
     unfold lastI
     rw [List.getLastD_eq_getLast?, List.getLast?_eq_getElem?]
     simp only [List.length_take, Nat.min_eq_left (show j ≤ l.length by omega)]
     rw [List.getElem?_take_of_lt (by omega), List.getElem?_eq_getElem (by omega)]; rfl
    have hd := hp.c.drop_ (j := j - 1) (by omega)
    rw [show j - 1 + 1 = j by omega, List.drop_eq_getElem_cons (by omega)] at hd
    have e1 : k.below (m.at_ (k.links + (l[j - 1]).toNat)) = l[j] := hd.1
    have e2 : 0 ≤ l[j] := hd.2.1
    refine ⟨l[j], ?_⟩
    have hat : ∀ i, (m.add j).at_ i = m.at_ i := fun _ => rfl
    have hlen : ((l.take j).length : Int) < most := by rw [List.length_take]; omega
    simp only [popStep, Bool.false_eq_true, if_false, hlast, hat, e1]
    rw [if_pos ⟨e2, hlen⟩, List.take_succ_eq_append_getElem (by omega)]
    simp [Mm.add, Mm.tick]; omega
theorem take_last {l : List Int} {j : Nat} (h0 : 0 < j) (hj : j ≤ l.length) : lastI (l.take j) = l[j - 1] := by
 unfold lastI
 rw [List.getLastD_eq_getLast?, List.getLast?_eq_getElem?]
 simp only [List.length_take, Nat.min_eq_left hj]
 rw [List.getElem?_take_of_lt (by omega), List.getElem?_eq_getElem (by omega)]; rfl
theorem pop_cas {k : Sk} {m : Mm} {l : List Int} (hp : Pool k m l) (most : Int) (h1 : 1 ≤ most) (h8 : most ≤ 8) (hl : l ≠ []) (c : Nat) (hc : (c : Int) = min most l.length) :
  popIt k (c + 1) (PopS.init most, m) = (⟨most, 2, (l.drop c).headD (-1), m.at_ k.head, l.take c, false⟩, m.add (c + 1)) := by
 have hlp := List.length_pos_iff.2 hl
 obtain ⟨u, hu⟩ := pop_links hp most h1 h8 hl c (by omega) (by omega) (by omega)
 rw [popIt_succ, hu]
 have hat : ∀ i, (m.add c).at_ i = m.at_ i := fun _ => rfl
 have hd := (hp.c.drop_ (j := c - 1) (by omega)).head_
 rw [show c - 1 + 1 = c by omega] at hd
 simp only [popStep, Bool.false_eq_true, if_false, take_last (l := l) (j := c) (by omega) (by omega), hat, hd]
 rw [if_neg]
 ·simp [Mm.add, Mm.tick]; omega
 ·rintro ⟨h2, h3⟩
  rw [List.length_take] at h3
  have : c = l.length := by omega
  rw [this, List.drop_length] at h2
  simp at h2
theorem pop_alone {k : Sk} {m : Mm} {l : List Int} {len : Nat} (hk : k.ok len) (hml : m.ws.length = len) (hp : Pool k m l) (most : Int) (h1 : 1 ≤ most) (h8 : most ≤ 8) (hl : l ≠ []) (c : Nat) (hc : (c : Int) = min most l.length) :
  ∃ m', popIt k (c + 2) (PopS.init most, m) = (⟨most, 0, (l.drop c).headD (-1), m.at_ k.head, l.take c, true⟩, m') ∧ m'.n = m.n + (c + 2) ∧ m'.ws.length = len ∧ Pool k m' (l.drop c) ∧ (∀ a, a ≠ k.head → m'.at_ a = m.at_ a) ∧
   (∀ j, j < c + 2 → (popIt k j (PopS.init most, m)).1.done = false) := by
 have hlp := List.length_pos_iff.2 hl
 have hcas := pop_cas hp most h1 h8 hl c hc
 have hat : ∀ i, (m.add (c + 1)).at_ i = m.at_ i := fun _ => rfl
 have hn2 := hk.n2
 have hcd : (l.drop c).headD (-1) = k.below (m.at_ (k.links + (l[c - 1]).toNat)) := by
  have hd := (hp.c.drop_ (j := c - 1) (by omega)).head_
  rw [show c - 1 + 1 = c by omega] at hd
  exact hd.symm
 have hb1 := k.below_ge (m.at_ (k.links + (l[c - 1]).toNat))
 have hb2 := k.below_lt (m.at_ (k.links + (l[c - 1]).toNat))
 have hm1 : (m.add (c + 1)).ws.length = len := hml
 have hhd := hk.h
 have hput : ∀ a v, ((m.add (c + 1)).put k.head v).at_ a = if k.head = a then v else m.at_ a := fun a v => by
  rw [Mm.at_put _ (by omega), hat]
 refine ⟨(m.add (c + 1)).put k.head (nextW (m.at_ k.head) ((l.drop c).headD (-1))), ?_, ?_, ?_, ⟨?_, ?_⟩, ?_, ?_⟩
 ·rw [show c + 2 = (c + 1) + 1 by omega, popIt_succ, hcas]
  simp [popStep, hat, Mm.cas]
 ·simp [Mm.put, Mm.add]; omega
 ·rw [Mm.len_put]; exact hml
 ·have e1 : k.top (nextW (m.at_ k.head) ((l.drop c).headD (-1))) = (l.drop c).headD (-1) := by
   unfold Sk.top
   rw [hdI_next (by omega) (by omega), if_pos (by omega)]
  rw [hput, if_pos rfl, e1, hcd]
  have hd := hp.c.drop_ (j := c - 1) (by omega)
  rw [show c - 1 + 1 = c by omega] at hd
  refine hd.congr fun x hx => ?_
  have hx2 := hp.c.mem x (List.mem_of_mem_drop hx)
  rw [hput, if_neg]
  have := hk.a; have := hk.l
  omega
 ·exact hp.nd.sublist (List.drop_sublist _ _)
 ·intro a ha
  rw [hput, if_neg (fun h => ha h.symm)]
 ·intro j hj
  by_cases h0 : j = 0
  ·subst h0; rfl
  ·by_cases hjc : j ≤ c
   ·obtain ⟨u, hu⟩ := pop_links hp most h1 h8 hl j (by omega) (by omega) (by omega)
    rw [hu]
   ·rw [show j = c + 1 by omega, hcas]
def pushIt (k : Sk) : Nat → PushS × Mm → PushS × Mm
 | 0, s => s
 | n + 1, s => pushIt k n (pushStep k s.2 s.1)
theorem pushIt_add (k : Sk) : ∀ (a b : Nat) (s : PushS × Mm), pushIt k (a + b) s = pushIt k b (pushIt k a s)
 | 0, b, s => by simp [pushIt]
 | a + 1, b, s => by
   rw [show a + 1 + b = (a + b) + 1 by omega]
   exact pushIt_add k a b _
theorem pushIt_succ (k : Sk) (a : Nat) (s : PushS × Mm) : pushIt k (a + 1) s = pushStep k (pushIt k a s).2 (pushIt k a s).1 := pushIt_add k a 1 s
theorem nodup_inj {l : List Int} (h : l.Nodup) {i j : Nat} (hi : i < l.length) (hj : j < l.length) (e : l[i] = l[j]) : i = j := by
 have hp := List.pairwise_iff_getElem.1 h
 rcases Nat.lt_trichotomy i j with h1 | h1 | h1
 ·exact absurd e (hp i j hi hj h1)
 ·exact h1
 ·exact absurd e.symm (hp j i hj hi h1)
theorem Sk.below_link (k : Sk) {i : Int} (h1 : -1 ≤ i) (h2 : i < k.n) : k.below (i + 1).toNat = i := by
 unfold Sk.below
 rw [if_neg (by omega)]
 omega
theorem itI_eq {l : List Int} {i : Nat} (h : i < l.length) : itI l i = l[i] := by simp [itI, h]
theorem push_links {k : Sk} {m : Mm} {x : List Int} {len : Nat} (hk : k.ok len) (hml : m.ws.length = len) (hx : x ≠ []) (hnd : x.Nodup) (hr : ∀ i ∈ x, 0 ≤ i ∧ i < k.n) :
  ∀ j : Nat, j + 1 ≤ x.length → ∃ m', pushIt k j (PushS.init x, m) = (⟨x, j, 0, false⟩, m') ∧ m'.n = m.n + j ∧ m'.ws.length = len ∧
   (∀ i, i < j → m'.at_ (k.links + (itI x i).toNat) = (itI x (i + 1) + 1).toNat) ∧ (∀ a, (∀ i, i < j → a ≠ k.links + (itI x i).toNat) → m'.at_ a = m.at_ a) := by
 intro j
 induction j with
 | zero => intro _; exact ⟨m, by simp [pushIt, PushS.init, hx], rfl, hml, by omega, fun _ _ => rfl⟩
 | succ j ih =>
   intro hj
   obtain ⟨m', h1, h2, h3, h4, h5⟩ := ih (by omega)
   have hj1 := hr _ (itI_mem (l := x) (i := j) (by omega))
   have hlt : k.links + (itI x j).toNat < m'.ws.length := by have := hk.l; omega
   have hinj : ∀ a b, a < x.length → b < x.length → a ≠ b → k.links + (itI x a).toNat ≠ k.links + (itI x b).toNat := by
    intro a b ha hb hab e
    have ra := hr _ (itI_mem ha); have rb := hr _ (itI_mem hb)
    have : itI x a = itI x b := by omega
    rw [itI_eq ha, itI_eq hb] at this
    exact hab (nodup_inj hnd ha hb this)
   refine ⟨m'.put (k.links + (itI x j).toNat) (itI x (j + 1) + 1).toNat, ?_, ?_, ?_, ?_, ?_⟩
   ·rw [pushIt_succ, h1]
    simp only [pushStep, Bool.false_eq_true, if_false]
    rw [if_pos (by omega)]
   ·simp [Mm.put]; omega
   ·rw [Mm.len_put]; exact h3
   ·intro i hi
    rw [Mm.at_put _ hlt]
    by_cases hij : i = j
    ·rw [hij, if_pos rfl]
    ·rw [if_neg (hinj j i (by omega) (by omega) (by omega))]
     exact h4 i (by omega)
   ·intro a ha
    rw [Mm.at_put _ hlt, if_neg (fun h => ha j (by omega) h.symm)]
    exact h5 a fun i hi => ha i (by omega)
theorem chain_app {k : Sk} {m : Mm} {t : Int} {l : List Int} : ∀ x : List Int, x ≠ [] → (∀ i ∈ x, 0 ≤ i ∧ i < k.n) → (∀ i, i + 1 < x.length → k.below (m.at_ (k.links + (itI x i).toNat)) = itI x (i + 1)) →
  k.below (m.at_ (k.links + (itI x (x.length - 1)).toNat)) = t → ChainL k m t l → ChainL k m (itI x 0) (x ++ l)
 | [], h, _, _, _, _ => absurd rfl h
 | [a], _, hr, _, hl, hc => ⟨rfl, (hr a (by simp)).1, (hr a (by simp)).2, by rw [show a = itI [a] ([a].length - 1) from rfl, hl]; exact hc⟩
 | a :: b :: r, _, hr, h, hl, hc => by
   refine ⟨rfl, (hr a (by simp)).1, (hr a (by simp)).2, ?_⟩
   have h0 := h 0 (by simp)
   rw [show itI (a :: b :: r) 0 = a from rfl, show itI (a :: b :: r) (0 + 1) = b from rfl] at h0
   rw [h0]
   exact chain_app (b :: r) (by simp) (fun i hi => hr i (by simp only [List.mem_cons] at hi ⊢; exact .inr hi)) (fun i hi => h (i + 1) (by simpa using hi)) hl hc
theorem Sk.ok.head_ne {k : Sk} {len : Nat} (hk : k.ok len) {x : Int} (h : 0 ≤ x ∧ x < k.n) : k.head ≠ k.links + x.toNat := by
 have := hk.a; have := hk.l
 omega
theorem toNat_ne {a : Nat} {x y : Int} (hx : 0 ≤ x) (hy : 0 ≤ y) (h : x ≠ y) : a + x.toNat ≠ a + y.toNat := by omega
theorem push_alone {k : Sk} {m : Mm} {l x : List Int} {len : Nat} (hk : k.ok len) (hml : m.ws.length = len) (hp : Pool k m l) (hx : x ≠ []) (hnd : x.Nodup) (hr : ∀ i ∈ x, 0 ≤ i ∧ i < k.n) (hdj : ∀ i ∈ x, i ∉ l) :
  ∃ m', pushIt k (x.length + 2) (PushS.init x, m) = (⟨x, x.length - 1, m.at_ k.head, true⟩, m') ∧ m'.n = m.n + (x.length + 2) ∧ m'.ws.length = len ∧ Pool k m' (x ++ l) ∧
   (∀ a, a ≠ k.head → (∀ i ∈ x, a ≠ k.links + i.toNat) → m'.at_ a = m.at_ a) ∧ (∀ j, j < x.length + 2 → (pushIt k j (PushS.init x, m)).1.done = false) := by
 have hlp := List.length_pos_iff.2 hx
 obtain ⟨n, hn⟩ : ∃ n, x.length = n + 1 := ⟨x.length - 1, by omega⟩
 obtain ⟨m1, h1, h2, h3, h4, h5⟩ := push_links hk hml hx hnd hr n (by omega)
 have hrn := hr _ (itI_mem (l := x) (i := n) (by omega))
 have hr0 := hr _ (itI_mem (l := x) (i := 0) (by omega))
 have hkl := hk.l; have hka := hk.a; have hkh := hk.h; have hkn := hk.n2
 have hlink : ∀ i ∈ x, k.head ≠ k.links + i.toNat := fun i hi => by have := hr i hi; omega
 have hh1 : m1.at_ k.head = m.at_ k.head := h5 _ fun i hi => hlink _ (itI_mem (by omega))
 have s1 : pushIt k (n + 1) (PushS.init x, m) = (⟨x, n + 1, m.at_ k.head, false⟩, m1.tick) := by
  rw [pushIt_succ, h1]
  simp only [pushStep, Bool.false_eq_true, if_false]
  rw [if_neg (by omega), if_pos hn.symm, hh1]
 have s2 : pushIt k (n + 2) (PushS.init x, m) = (⟨x, n + 2, m.at_ k.head, false⟩, m1.tick.put (k.links + (itI x n).toNat) (k.top (m.at_ k.head) + 1).toNat) := by
  rw [pushIt_succ, s1]
  simp only [pushStep, Bool.false_eq_true, if_false]
  rw [if_neg (by omega), if_neg (by omega), if_pos hn.symm, hn]
  rfl
 have hlt : k.links + (itI x n).toNat < m1.tick.ws.length := by show _ < m1.ws.length; omega
 have hm2 : ∀ a, (m1.tick.put (k.links + (itI x n).toNat) (k.top (m.at_ k.head) + 1).toNat).at_ a = if k.links + (itI x n).toNat = a then (k.top (m.at_ k.head) + 1).toNat else m1.at_ a := fun a => by rw [Mm.at_put _ hlt]; rfl
 generalize hM2 : m1.tick.put (k.links + (itI x n).toNat) (k.top (m.at_ k.head) + 1).toNat = m2 at s2 hm2
 have hl2 : m2.ws.length = len := by rw [← hM2, Mm.len_put]; exact h3
 have hn2 : m2.n = m.n + (n + 2) := by rw [← hM2]; simp [Mm.put, Mm.tick]; omega
 have hh2 : m2.at_ k.head = m.at_ k.head := by rw [hm2, if_neg (fun e => hlink _ (itI_mem (by omega)) e.symm), hh1]
 have hm3 : ∀ a, (m2.put k.head (nextW (m.at_ k.head) (itI x 0))).at_ a = if k.head = a then nextW (m.at_ k.head) (itI x 0) else m2.at_ a := fun a => Mm.at_put _ (by omega)
 refine ⟨m2.put k.head (nextW (m.at_ k.head) (itI x 0)), ?_, ?_, ?_, ⟨?_, ?_⟩, ?_, ?_⟩
 ·rw [show x.length + 2 = (n + 2) + 1 by omega, pushIt_succ, s2]
  simp only [pushStep, Bool.false_eq_true, if_false]
  rw [if_neg (by omega), if_neg (by omega), if_neg (by omega), hh2]
  simp [Mm.cas, hh2]
 ·simp [Mm.put]; omega
 ·rw [Mm.len_put]; exact hl2
 ·rw [hm3, if_pos rfl]
  have e1 : k.top (nextW (m.at_ k.head) (itI x 0)) = itI x 0 := by
   unfold Sk.top
   rw [hdI_next (by omega) (by omega), if_pos (by omega)]
  rw [e1]
  -- from the i-th item on
  have hchain : ChainL k (m2.put k.head (nextW (m.at_ k.head) (itI x 0))) (k.top (m.at_ k.head)) l := by
   refine hp.c.congr fun y hy => ?_
   have hy2 := hp.c.mem y hy
   have hyx : ∀ i, i < x.length → itI x i ≠ y := fun i hi e => hdj _ (itI_mem hi) (by rw [e]; exact hy)
   rw [hm3, if_neg (hk.head_ne hy2), hm2, if_neg (toNat_ne hrn.1 hy2.1 (hyx n (by omega))), h5]
   intro i hi
   exact (toNat_ne (hr _ (itI_mem (by omega))).1 hy2.1 (hyx i (by omega))).symm
  refine chain_app x hx hr (fun i hi => ?_) ?_ hchain
  ·have hri := hr _ (itI_mem (l := x) (i := i) (by omega))
   have hri1 := hr _ (itI_mem (l := x) (i := i + 1) (by omega))
   have hne : k.links + (itI x n).toNat ≠ k.links + (itI x i).toNat := by
    intro e
    have e' : itI x n = itI x i := by omega
    rw [itI_eq (by omega), itI_eq (by omega)] at e'
    have := nodup_inj hnd _ _ e'
    omega
   rw [hm3, if_neg (hlink _ (itI_mem (by omega))), hm2, if_neg hne, h4 i (by omega)]
   exact k.below_link (by omega) (by omega)
  ·rw [hn, Nat.add_sub_cancel, hm3, if_neg (hlink _ (itI_mem (by omega))), hm2, if_pos rfl]
   exact k.below_link (k.top_ge _) (k.top_lt _)
 ·rw [List.nodup_append]
  exact ⟨hnd, hp.nd, fun a ha b hb e => hdj a ha (by rw [e]; exact hb)⟩
 ·intro a ha hax
  rw [hm3, if_neg (fun h => ha h.symm), hm2, if_neg (fun e => hax _ (itI_mem (l := x) (i := n) (by omega)) e.symm), h5]
  exact fun i hi => hax _ (itI_mem (by omega))
 ·intro j hj
  by_cases hj1 : j ≤ n
  ·obtain ⟨m', e, _⟩ := push_links hk hml hx hnd hr j (by omega)
   rw [e]
  ·by_cases hj2 : j = n + 1
   ·rw [hj2, s1]
   ·rw [show j = n + 2 by omega, s2]
theorem length_nodup : ∀ (n : Nat) (l : List Int), l.Nodup → (∀ x ∈ l, 0 ≤ x ∧ x < (n : Int)) → l.length ≤ n
 | 0, l, _, h => by
   cases l with
   | nil => simp
   | cons x l => have := h x (by simp); omega
 | n + 1, l, hd, h => by
   have h1 := length_nodup n (l.erase (n : Int)) (hd.erase _) fun x hx => by
    have h2 := h x (List.mem_of_mem_erase hx)
    have h3 : x ≠ n := fun e => by subst e; exact (List.Nodup.not_mem_erase hd) hx
    omega
   rw [List.length_erase] at h1
   split at h1 <;> omega
def walkL (k : Sk) (m : Mm) : Nat → Int → List Int
 | 0, _ => []
 | f + 1, i => if 0 ≤ i then i :: walkL k m f (k.below (m.at_ (k.links + i.toNat))) else []
theorem walk_chain {k : Sk} {m : Mm} : ∀ {f : Nat} {l : List Int} {i : Int}, ChainL k m i l → l.length ≤ f → walkL k m f i = l
 | 0, [], _, _, _ => rfl
 | 0, _ :: _, _, _, h => by simp at h
 | f + 1, [], i, h, _ => by
   have e : i = -1 := h
   subst e; rfl
 | f + 1, x :: l, i, h, hl => by
   obtain ⟨rfl, h1, h2, h3⟩ := h
   simp only [walkL, if_pos h1]
   rw [walk_chain h3 (by simpa using hl)]
def listK (k : Sk) (m : Mm) : List Int := walkL k m k.n (k.top (m.at_ k.head))
theorem list_pool {k : Sk} {m : Mm} {l : List Int} (h : Pool k m l) : listK k m = l := walk_chain h.c (length_nodup k.n l h.nd (h.c.mem))
def fillUp (k : Sk) (m : Mm) : Nat → Mm
 | 0 => m
 | i + 1 => (fillUp k m i).lay (k.links + i) (i + 2)
def fillM (k : Sk) (m : Mm) : Mm := ((fillUp k m k.n).lay (k.links + k.n - 1) 0).lay k.head 1
def iotaI (n : Nat) : List Int := (List.range n).map fun (i : Nat) => (i : Int)
theorem fillUp_len (k : Sk) (m : Mm) : ∀ i, (fillUp k m i).ws.length = m.ws.length
 | 0 => rfl
 | i + 1 => by simp only [fillUp, Mm.len_lay]; exact fillUp_len k m i
theorem fillUp_n (k : Sk) (m : Mm) : ∀ i, (fillUp k m i).n = m.n
 | 0 => rfl
 | i + 1 => fillUp_n k m i
theorem fillUp_ok {k : Sk} {m : Mm} (h : m.ok) : ∀ i, i ≤ 100000 → (fillUp k m i).ok
 | 0, _ => h
 | i + 1, hi => Mm.ok_lay (fillUp_ok h i (by omega)) (by omega)
theorem fillUp_at {k : Sk} {m : Mm} : ∀ {i : Nat}, k.links + i ≤ m.ws.length → (∀ j, j < i → (fillUp k m i).at_ (k.links + j) = j + 2) ∧ (∀ a, (∀ j, j < i → a ≠ k.links + j) → (fillUp k m i).at_ a = m.at_ a)
 | 0, _ => ⟨fun j hj => by omega, fun _ _ => rfl⟩
 | i + 1, h => by
   have ih := fillUp_at (k := k) (m := m) (i := i) (by omega)
   have hl := fillUp_len k m i
   refine ⟨fun j hj => ?_, fun a ha => ?_⟩
   ·simp only [fillUp]
    rw [Mm.at_lay _ (by omega)]
    split
    ·omega
    ·exact ih.1 j (by omega)
   ·simp only [fillUp]
    rw [Mm.at_lay _ (by omega), if_neg (fun e => ha i (by omega) e.symm)]
    exact ih.2 a fun j hj => ha j (by omega)
theorem fillM_len (k : Sk) (m : Mm) : (fillM k m).ws.length = m.ws.length := by unfold fillM; rw [Mm.len_lay, Mm.len_lay, fillUp_len]
theorem fillM_n (k : Sk) (m : Mm) : (fillM k m).n = m.n := fillUp_n k m k.n
theorem iota_nodup (n : Nat) : (iotaI n).Nodup := by
 unfold iotaI
 refine List.Pairwise.map _ (fun (a b : Nat) (h : a ≠ b) => ?_) List.nodup_range
 omega
theorem iota_get {n i : Nat} (h : i < n) : itI (iotaI n) i = i := by
 rw [itI_eq (by simpa [iotaI] using h)]
 simp [iotaI]
theorem fill_pool {k : Sk} {m : Mm} {len : Nat} (hk : k.ok len) (hl : m.ws.length = len) : Pool k (fillM k m) (iotaI k.n) ∧ (∀ a, a ≠ k.head → (∀ j, j < k.n → a ≠ k.links + j) → (fillM k m).at_ a = m.at_ a) := by
 have k1 := hk.n1; have k2 := hk.n2; have k3 := hk.h; have k4 := hk.l; have k5 := hk.a
 have hu := fillUp_at (k := k) (m := m) (i := k.n) (by omega)
 have hul := fillUp_len k m k.n
 have hat : ∀ a, (fillM k m).at_ a = if k.head = a then 1 else if k.links + k.n - 1 = a then 0 else (fillUp k m k.n).at_ a := fun a => by
  unfold fillM
  rw [Mm.at_lay _ (by rw [Mm.len_lay]; omega), Mm.at_lay _ (by omega)]
 have hlen : (iotaI k.n).length = k.n := by simp [iotaI]
 refine ⟨⟨?_, iota_nodup _⟩, fun a h1 h2 => ?_⟩
 ·have h0 : k.top ((fillM k m).at_ k.head) = 0 := by
   rw [hat, if_pos rfl]
   unfold Sk.top hdI
   rw [if_pos (by omega)]; rfl
  rw [h0]
  have := chain_app (k := k) (m := fillM k m) (t := -1) (l := []) (iotaI k.n) (fun e => by rw [e] at hlen; simp at hlen; omega) (fun x hx => by
   simp only [iotaI, List.mem_map, List.mem_range] at hx
   obtain ⟨j, hj, rfl⟩ := hx
   omega) (fun i hi => ?_) ?_ rfl
  ·rw [iota_get (by omega), List.append_nil] at this
   exact this
  ·rw [iota_get (by omega), iota_get (by omega), Int.toNat_natCast, hat, if_neg (by omega), if_neg (by omega), hu.1 i (by omega)]
   have := k.below_link (i := ((i + 1 : Nat) : Int)) (by omega) (by omega)
   rw [show (((i + 1 : Nat) : Int) + 1).toNat = i + 2 by omega] at this
   exact this
  ·rw [hlen, iota_get (by omega), Int.toNat_natCast, hat, if_neg (by omega), if_pos (by omega)]
   unfold Sk.below
   rw [if_neg (by omega)]; rfl
 ·rw [hat, if_neg (fun e => h1 e.symm), if_neg (fun e => h2 (k.n - 1) (by omega) (by omega))]
  exact hu.2 a h2
end Go.Proofs.YtggnbdeokmdjbaaGreat


namespace Go.Proofs.YtggnbdeokmdjbaaGreat
open Go
attribute [local irreducible] Sx Cx Rx Fx Krg Ksq Kbl Klp Kr
section
variable {L F : St}
abbrev cfg (w c wd sl ca ba : Int) : Value := .agg #[.int .i64 w, .int .i64 c, .int .i64 wd, .int .i64 sl, .int .i64 ca, .int .i64 ba]
def MayC (w c wd sl ca ba : Int) : Prop := (1 ≤ w ∧ w ≤ 64) ∧ (1 ≤ c ∧ c ≤ 4096) ∧ (8 ≤ wd ∧ wd ≤ 1024) ∧ wd.tmod 8 = 0 ∧ (1 ≤ sl ∧ sl ≤ 4096) ∧ (0 ≤ ca ∧ ca ≤ 64) ∧ (1 ≤ ba ∧ ba ≤ 8)
instance (w c wd sl ca ba : Int) : Decidable (MayC w c wd sl ca ba) := by unfold MayC; infer_instance
theorem within_ (n lo hi : Int) : Fx Tryz.prog 189 [.int .i64 n, .int .i64 lo, .int .i64 hi] L (fun v L' => v = .bool (decide (lo ≤ n ∧ n ≤ hi)) ∧ L = L') := by
 refine Fx.mk Tryz.func189 k189 nb_ ?_
 dsimp only [c189, kG, kS, kH, kM, kN, kF, kL, envOf, Nat.reduceAdd]
 refine go ?_
 refine Sx.ifp rfl (fun h => ?_) (fun h => ?_)
 ·refine go ?_
  exact Kr.one (.inr rfl) rfl (Ent.refl _) ⟨by simp [pick, h], rfl⟩
 ·refine go ?_
  exact Kr.one (.inr rfl) rfl (Ent.refl _) ⟨by simp [pick, h], rfl⟩
theorem may_ (w c wd sl ca ba : Int) : Fx Tryz.prog 150 [cfg w c wd sl ca ba] L (fun v L' => v = .bool (decide (MayC w c wd sl ca ba)) ∧ L = L') := by
 refine Fx.mk Tryz.func150 k150 nb_ ?_
 dsimp only [c150, kG, kS, kH, kM, kN, kF, kL, envOf, Nat.reduceAdd]
 refine go ?_
 refine Sx.bx rfl rfl fun g => ?_
 refine go ?_
 refine Sx.ca rfl (within_ w 1 64) ?_
 rintro v L' ⟨rfl, rfl⟩
 refine go ?_
 refine Sx.ifp rfl (fun h1 => ?_) (fun h1 => ?_)
 rotate_left
 ·refine go ?_
  exact Kr.one (.inr rfl) rfl Ent.drop ⟨by rw [decide_eq_false (fun h : MayC w c wd sl ca ba => h1 h.1)], rfl⟩
 refine go ?_
 refine Sx.ca rfl (within_ c 1 4096) ?_
 rintro v L' ⟨rfl, rfl⟩
 refine go ?_
 refine Sx.ifp rfl (fun h2 => ?_) (fun h2 => ?_)
 rotate_left
 ·refine go ?_
  exact Kr.one (.inr rfl) rfl Ent.drop ⟨by rw [decide_eq_false (fun h : MayC w c wd sl ca ba => h2 h.2.1)], rfl⟩
 refine go ?_
 refine Sx.ca rfl (within_ wd 8 1024) ?_
 rintro v L' ⟨rfl, rfl⟩
 refine go ?_
 refine Sx.ifp rfl (fun h3 => ?_) (fun h3 => ?_)
 rotate_left
 ·refine go ?_
  exact Kr.one (.inr rfl) rfl Ent.drop ⟨by rw [decide_eq_false (fun h : MayC w c wd sl ca ba => h3 h.2.2.1)], rfl⟩
 refine go ?_
 refine Sx.pv rfl (by decide) ?_
 refine go ?_
 refine Sx.ifp rfl (fun h4 => ?_) (fun h4 => ?_)
 rotate_left
 ·refine go ?_
  exact Kr.one (.inr rfl) rfl Ent.drop ⟨by rw [decide_eq_false (fun h : MayC w c wd sl ca ba => h4 h.2.2.2.1)], rfl⟩
 refine go ?_
 refine Sx.ca rfl (within_ sl 1 4096) ?_
 rintro v L' ⟨rfl, rfl⟩
 refine go ?_
 refine Sx.ifp rfl (fun h5 => ?_) (fun h5 => ?_)
 rotate_left
 ·refine go ?_
  exact Kr.one (.inr rfl) rfl Ent.drop ⟨by rw [decide_eq_false (fun h : MayC w c wd sl ca ba => h5 h.2.2.2.2.1)], rfl⟩
 refine go ?_
 refine Sx.ca rfl (within_ ca 0 64) ?_
 rintro v L' ⟨rfl, rfl⟩
 refine go ?_
 refine Sx.ifp rfl (fun h6 => ?_) (fun h6 => ?_)
 rotate_left
 ·refine go ?_
  exact Kr.one (.inr rfl) rfl Ent.drop ⟨by rw [decide_eq_false (fun h : MayC w c wd sl ca ba => h6 h.2.2.2.2.2.1)], rfl⟩
 refine go ?_
 refine Sx.ca rfl (within_ ba 1 8) ?_
 rintro v L' ⟨rfl, rfl⟩
 refine go ?_
 refine Kr.one (.inr rfl) rfl Ent.drop ⟨?_, rfl⟩
 simp only [pick, cond_true, Value.bool.injEq, decide_eq_decide]
 exact ⟨fun h => ⟨h1, h2, h3, h4, h5, h6, h⟩, fun h => h.2.2.2.2.2.2⟩
theorem in_ (n lo hi : Int) : Fx Tryz.prog 108 [.int .i64 n, .int .i64 lo, .int .i64 hi] L (fun v L' => v = .bool (decide (lo ≤ n ∧ n ≤ hi)) ∧ L = L') := by
 refine Fx.mk Tryz.func108 k108 nb_ ?_
 dsimp only [c108, kG, kS, kH, kM, kN, kF, kL, envOf, Nat.reduceAdd]
 refine go ?_
 refine Sx.ifp rfl (fun h => ?_) (fun h => ?_)
 ·refine go ?_
  exact Kr.one (.inr rfl) rfl (Ent.refl _) ⟨by simp [pick, h], rfl⟩
 ·refine go ?_
  exact Kr.one (.inr rfl) rfl (Ent.refl _) ⟨by simp [pick, h], rfl⟩
theorem refMay_ (w c wd sl ca ba : Int) : Fx Tryz.prog 188 [cfg w c wd sl ca ba] L (fun v L' => v = .bool (decide (MayC w c wd sl ca ba)) ∧ L = L') := by
 refine Fx.mk Tryz.func188 k188 nb_ ?_
 dsimp only [c188, kG, kS, kH, kM, kN, kF, kL, envOf, Nat.reduceAdd]
 refine go ?_
 refine Sx.bx rfl rfl fun g => ?_
 refine go ?_
 refine Sx.ca rfl (in_ w 1 64) ?_
 rintro v L' ⟨rfl, rfl⟩
 refine go ?_
 refine Sx.ifp rfl (fun h1 => ?_) (fun h1 => ?_)
 rotate_left
 ·refine go ?_
  exact Kr.one (.inr rfl) rfl Ent.drop ⟨by rw [decide_eq_false (fun h : MayC w c wd sl ca ba => h1 h.1)], rfl⟩
 refine go ?_
 refine Sx.ca rfl (in_ c 1 4096) ?_
 rintro v L' ⟨rfl, rfl⟩
 refine go ?_
 refine Sx.ifp rfl (fun h2 => ?_) (fun h2 => ?_)
 rotate_left
 ·refine go ?_
  exact Kr.one (.inr rfl) rfl Ent.drop ⟨by rw [decide_eq_false (fun h : MayC w c wd sl ca ba => h2 h.2.1)], rfl⟩
 refine go ?_
 refine Sx.ca rfl (in_ wd 8 1024) ?_
 rintro v L' ⟨rfl, rfl⟩
 refine go ?_
 refine Sx.ifp rfl (fun h3 => ?_) (fun h3 => ?_)
 rotate_left
 ·refine go ?_
  exact Kr.one (.inr rfl) rfl Ent.drop ⟨by rw [decide_eq_false (fun h : MayC w c wd sl ca ba => h3 h.2.2.1)], rfl⟩
 refine go ?_
 refine Sx.pv rfl (by decide) ?_
 refine go ?_
 refine Sx.ifp rfl (fun h4 => ?_) (fun h4 => ?_)
 rotate_left
 ·refine go ?_
  exact Kr.one (.inr rfl) rfl Ent.drop ⟨by rw [decide_eq_false (fun h : MayC w c wd sl ca ba => h4 h.2.2.2.1)], rfl⟩
 refine go ?_
 refine Sx.ca rfl (in_ sl 1 4096) ?_
 rintro v L' ⟨rfl, rfl⟩
 refine go ?_
 refine Sx.ifp rfl (fun h5 => ?_) (fun h5 => ?_)
 rotate_left
 ·refine go ?_
  exact Kr.one (.inr rfl) rfl Ent.drop ⟨by rw [decide_eq_false (fun h : MayC w c wd sl ca ba => h5 h.2.2.2.2.1)], rfl⟩
 refine go ?_
 refine Sx.ca rfl (in_ ca 0 64) ?_
 rintro v L' ⟨rfl, rfl⟩
 refine go ?_
 refine Sx.ifp rfl (fun h6 => ?_) (fun h6 => ?_)
 rotate_left
 ·refine go ?_
  exact Kr.one (.inr rfl) rfl Ent.drop ⟨by rw [decide_eq_false (fun h : MayC w c wd sl ca ba => h6 h.2.2.2.2.2.1)], rfl⟩
 refine go ?_
 refine Sx.ca rfl (in_ ba 1 8) ?_
 rintro v L' ⟨rfl, rfl⟩
 refine go ?_
 refine Kr.one (.inr rfl) rfl Ent.drop ⟨?_, rfl⟩
 simp only [pick, cond_true, Value.bool.injEq, decide_eq_decide]
 exact ⟨fun h => ⟨h1, h2, h3, h4, h5, h6, h⟩, fun h => h.2.2.2.2.2.2⟩
end
end Go.Proofs.YtggnbdeokmdjbaaGreat


namespace Go.Proofs.YtggnbdeokmdjbaaGreat
open Go
attribute [local irreducible] Sx Cx Rx Fx Krg Ksq Kbl Klp Kr
def startC (w c wd sl : Int) (i : Nat) : Int := match i with
 | 0 => 3
 | 1 => 3 + w
 | 2 => 3 + w + sl
 | 3 => 3 + w + sl + sl
 | 4 => 3 + w + sl + sl + c
 | _ => 3 + w + sl + sl + c + c * wd
def manyC (w c wd sl : Int) (i : Nat) : Int := match i with
 | 0 => w
 | 1 => sl
 | 2 => sl
 | 3 => c
 | _ => c * wd
def lenC (w c wd sl : Int) : Int := 3 + w + sl + sl + c + c * wd
def frC (w c wd sl : Int) (i j : Nat) : Value := .int .i64 (bif Nat.blt j i then startC w c wd sl j else 0)
def partsL (w c wd sl : Int) (i : Nat) : List Value :=
 [.int .i64 3, frC w c wd sl i 0, .int .i64 w, .int .i64 4, frC w c wd sl i 1, .int .i64 sl, .int .i64 5, frC w c wd sl i 2, .int .i64 sl, .int .i64 6, frC w c wd sl i 3, .int .i64 c, .int .i64 7, frC w c wd sl i 4, .int .i64 (c * wd)]
theorem MayC.mul {w c wd sl ca ba : Int} (h : MayC w c wd sl ca ba) : 8 ≤ c * wd ∧ c * wd ≤ 4194304 := by
 obtain ⟨_, h2, h3, _⟩ := h
 constructor
 ·have := Int.mul_le_mul h2.1 h3.1 (by omega) (by omega); omega
 ·have := Int.mul_le_mul h2.2 h3.2 (by omega) (by omega); omega
section
variable {L F : St}
set_option maxHeartbeats 2000000 in
theorem layParts (w c wd sl ca ba : Int) (h : MayC w c wd sl ca ba) : Fx Tryz.prog 151 [cfg w c wd sl ca ba] L (fun v L' => v = .agg (partsL w c wd sl 5).toArray ∧ L = L') := by
 have hm := h.mul
 obtain ⟨h1, h2, h3, h4, h5, h6, h7⟩ := h
 refine Fx.mk Tryz.func151 k151 nb_ ?_
 dsimp only [c151, kG, kS, kH, kM, kN, kF, kL, envOf, Nat.reduceAdd]
 refine Cx.sq ?_
 refine Cx.rg ?_
 refine Sx.bx rfl rfl fun g => ?_
 refine Sx.al fun r => ?_
 refine go ?_
 rw [w64 (n := c * wd) (by omega) (by omega)]
 refine Sx.al fun q => ?_
 refine Sx.st (b := q) rfl rfl rfl rfl rfl rfl ?_
 refine go ?_
 refine Cx.lp (α := {i : Nat // i ≤ 5}) (fun i => [(2, .pointer (some ⟨r, 0, none⟩)), (3, .pointer (some ⟨q, 0, none⟩)), (4, .int .i64 (startC w c wd sl i.1)), (25, .int .i64 i.1)])
  (fun i => pt (some ⟨q, 0, none⟩) (Blk 244 (partsL w c wd sl i.1)) :: pt (some ⟨r, 0, none⟩) (Blk 244 (List.replicate 15 (.int .i64 0))) :: L) (fun i => 5 - i.1) ⟨0, by omega⟩ (sub.cons rfl (sub.cons rfl (sub.cons rfl (sub.cons rfl sub.nil)))) (Ent.cons (Ent.cons Ent.drop)) ?_
 rintro ⟨i, hi⟩
 dsimp only
 rcases (show i = 0 ∨ i = 1 ∨ i = 2 ∨ i = 3 ∨ i = 4 ∨ i = 5 by omega) with rfl | rfl | rfl | rfl | rfl | rfl
 ·refine gg ?_
  simp only [startC]
  rw [w64 (n := (3 : Int) + w) (by omega) (by omega)]
  exact Klp.nm ⟨0 + 1, by omega⟩ (sub.cons rfl (sub.cons rfl (sub.cons rfl (sub.cons rfl sub.nil)))) (Ent.refl _) (by simp)
 ·refine gg ?_
  simp only [startC]
  rw [w64 (n := 3 + w + sl) (by omega) (by omega)]
  exact Klp.nm ⟨1 + 1, by omega⟩ (sub.cons rfl (sub.cons rfl (sub.cons rfl (sub.cons rfl sub.nil)))) (Ent.refl _) (by simp)
 ·refine gg ?_
  simp only [startC]
  rw [w64 (n := 3 + w + sl + sl) (by omega) (by omega)]
  exact Klp.nm ⟨2 + 1, by omega⟩ (sub.cons rfl (sub.cons rfl (sub.cons rfl (sub.cons rfl sub.nil)))) (Ent.refl _) (by simp)
 ·refine gg ?_
  simp only [startC]
  rw [w64 (n := 3 + w + sl + sl + c) (by omega) (by omega)]
  exact Klp.nm ⟨3 + 1, by omega⟩ (sub.cons rfl (sub.cons rfl (sub.cons rfl (sub.cons rfl sub.nil)))) (Ent.refl _) (by simp)
 ·refine gg ?_
  simp only [startC]
  rw [w64 (n := 3 + w + sl + sl + c + c * wd) (by omega) (by omega)]
  exact Klp.nm ⟨4 + 1, by omega⟩ (sub.cons rfl (sub.cons rfl (sub.cons rfl (sub.cons rfl sub.nil)))) (Ent.refl _) (by simp)
 ·refine go ?_
  refine Sx.st (b := r) rfl rfl rfl rfl rfl rfl ?_
  refine go ?_
  exact Kr_cell (b := r) (.inr rfl) rfl rfl (L' := L) (Ent.trans Ent.drop Ent.drop) ⟨rfl, rfl⟩
theorem layLen (w c wd sl ca ba : Int) (h : MayC w c wd sl ca ba) : Fx Tryz.prog 62 [cfg w c wd sl ca ba] L (fun v L' => v = .int .i64 (lenC w c wd sl) ∧ L = L') := by
 have hm := h.mul
 refine Fx.mk Tryz.func62 k62 nb_ ?_
 dsimp only [c62, kG, kS, kH, kM, kN, kF, kL, envOf, Nat.reduceAdd]
 refine Cx.sq ?_
 refine Cx.rg ?_
 refine Sx.bx rfl rfl fun g => ?_
 refine go ?_
 refine Sx.ca rfl (may_ w c wd sl ca ba) ?_
 rintro v L' ⟨rfl, rfl⟩
 rw [decide_eq_true h]
 refine go ?_
 refine Sx.ca rfl (layParts w c wd sl ca ba h) ?_
 rintro v L' ⟨rfl, rfl⟩
 obtain ⟨h1, h2, h3, h4, h5, h6, h7⟩ := h
 refine Sx.al fun q => ?_
 refine Sx.st (b := q) rfl rfl rfl rfl rfl rfl ?_
 refine gg ?_
 refine Sx.al fun r => ?_
 refine Sx.st (b := r) rfl rfl rfl rfl rfl rfl ?_
 refine go ?_
 exact Kr.one (.inr rfl) rfl (Ent.trans Ent.drop (Ent.trans Ent.drop Ent.drop)) ⟨congrArg (Value.int .i64) (w64 (n := 3 + w + sl + sl + c + c * wd) (by omega) (by omega)), rfl⟩
def cellC (w c wd sl : Int) (q : Nat) (n : Int) : Int := if 0 ≤ n ∧ n < manyC w c wd sl q then startC w c wd sl q + n else -1
set_option maxHeartbeats 8000000 in
theorem layCell (w c wd sl ca ba : Int) (h : MayC w c wd sl ca ba) (q : Nat) (hq : q < 5) (n : Int) (kd : Int) (hk : kd = 3 + q) : Fx Tryz.prog 111 [cfg w c wd sl ca ba, .int .i64 kd, .int .i64 n] L (fun v L' => v = .int .i64 (cellC w c wd sl q n) ∧ L = L') := by
 have hm := h.mul
 refine Fx.mk Tryz.func111 k111 nb_ ?_
 dsimp only [c111, kG, kS, kH, kM, kN, kF, kL, envOf, Nat.reduceAdd]
 refine Cx.sq ?_
 refine Cx.rg ?_
 refine Sx.bx rfl rfl fun g => ?_
 refine go ?_
 refine Sx.ca rfl (may_ w c wd sl ca ba) ?_
 rintro v L' ⟨rfl, rfl⟩
 rw [decide_eq_true h]
 refine go ?_
 refine Sx.ca rfl (layParts w c wd sl ca ba h) ?_
 rintro v L' ⟨rfl, rfl⟩
 obtain ⟨h1, h2, h3, h4, h5, h6, h7⟩ := h
 refine go ?_
 refine Cx.lp (α := {i : Nat // i ≤ 5 ∧ (q < i → ¬ (0 ≤ n ∧ n < manyC w c wd sl q))}) (fun i => [(1, .int .i64 kd), (2, .int .i64 n), (13, .agg (partsL w c wd sl 5).toArray), (14, .int .i64 i.1)])
  (fun _ => L) (fun i => 5 - i.1) ⟨0, by omega, by omega⟩ (sub.cons rfl (sub.cons rfl (sub.cons rfl (sub.cons rfl sub.nil)))) Ent.drop ?_
 rintro ⟨i, hi, hno⟩
 dsimp only at hno ⊢
 rcases (show i = 0 ∨ i = 1 ∨ i = 2 ∨ i = 3 ∨ i = 4 ∨ i = 5 by omega) with rfl | rfl | rfl | rfl | rfl | rfl
 ·refine gg ?_
  refine Sx.al fun p => ?_
  refine Sx.st (b := p) rfl rfl rfl rfl rfl rfl ?_
  refine go ?_
  by_cases hqi : q = 0
  ·subst hqi
   refine Sx.gyes rfl (decide_eq_true (by omega)) ?_
   refine go ?_
   rw [w64 (n := w - 1) (by omega) (by omega)]
   refine Sx.ca rfl (within_ n 0 (w - 1)) ?_
   rintro v L' ⟨rfl, rfl⟩
   refine go ?_
   refine Cx.ifp rfl (fun hr => ?_) (fun hr => ?_)
   ·refine go ?_
    refine Kr.one (.inr rfl) rfl Ent.drop ⟨congrArg (Value.int .i64) ?_, rfl⟩
    unfold cellC
    rw [if_pos ⟨hr.1, by simp only [manyC]; omega⟩]
    exact w64 (n := startC w c wd sl 0 + n) (by simp only [startC]; omega) (by simp only [startC]; omega)
   ·refine go ?_
    exact Klp.nm ⟨0 + 1, by omega, fun _ hh => hr ⟨hh.1, by have := hh.2; simp only [manyC] at this; omega⟩⟩ (sub.cons rfl (sub.cons rfl (sub.cons rfl (sub.cons rfl sub.nil)))) Ent.drop (by simp)
  ·refine Sx.gno rfl (decide_eq_false (by omega)) ?_
   refine go ?_
   exact Klp.nm ⟨0 + 1, by omega, fun hh => hno (by omega)⟩ (sub.cons rfl (sub.cons rfl (sub.cons rfl (sub.cons rfl sub.nil)))) Ent.drop (by simp)
 ·refine gg ?_
  refine Sx.al fun p => ?_
  refine Sx.st (b := p) rfl rfl rfl rfl rfl rfl ?_
  refine go ?_
  by_cases hqi : q = 1
  ·subst hqi
   refine Sx.gyes rfl (decide_eq_true (by omega)) ?_
   refine go ?_
   rw [w64 (n := sl - 1) (by omega) (by omega)]
   refine Sx.ca rfl (within_ n 0 (sl - 1)) ?_
   rintro v L' ⟨rfl, rfl⟩
   refine go ?_
   refine Cx.ifp rfl (fun hr => ?_) (fun hr => ?_)
   ·refine go ?_
    refine Kr.one (.inr rfl) rfl Ent.drop ⟨congrArg (Value.int .i64) ?_, rfl⟩
    unfold cellC
    rw [if_pos ⟨hr.1, by simp only [manyC]; omega⟩]
    exact w64 (n := startC w c wd sl 1 + n) (by simp only [startC]; omega) (by simp only [startC]; omega)
   ·refine go ?_
    exact Klp.nm ⟨1 + 1, by omega, fun _ hh => hr ⟨hh.1, by have := hh.2; simp only [manyC] at this; omega⟩⟩ (sub.cons rfl (sub.cons rfl (sub.cons rfl (sub.cons rfl sub.nil)))) Ent.drop (by simp)
  ·refine Sx.gno rfl (decide_eq_false (by omega)) ?_
   refine go ?_
   exact Klp.nm ⟨1 + 1, by omega, fun hh => hno (by omega)⟩ (sub.cons rfl (sub.cons rfl (sub.cons rfl (sub.cons rfl sub.nil)))) Ent.drop (by simp)
 ·refine gg ?_
  refine Sx.al fun p => ?_
  refine Sx.st (b := p) rfl rfl rfl rfl rfl rfl ?_
  refine go ?_
  by_cases hqi : q = 2
  ·subst hqi
   refine Sx.gyes rfl (decide_eq_true (by omega)) ?_
   refine go ?_
   rw [w64 (n := sl - 1) (by omega) (by omega)]
   refine Sx.ca rfl (within_ n 0 (sl - 1)) ?_
   rintro v L' ⟨rfl, rfl⟩
   refine go ?_
   refine Cx.ifp rfl (fun hr => ?_) (fun hr => ?_)
   ·refine go ?_
    refine Kr.one (.inr rfl) rfl Ent.drop ⟨congrArg (Value.int .i64) ?_, rfl⟩
    unfold cellC
    rw [if_pos ⟨hr.1, by simp only [manyC]; omega⟩]
    exact w64 (n := startC w c wd sl 2 + n) (by simp only [startC]; omega) (by simp only [startC]; omega)
   ·refine go ?_
    exact Klp.nm ⟨2 + 1, by omega, fun _ hh => hr ⟨hh.1, by have := hh.2; simp only [manyC] at this; omega⟩⟩ (sub.cons rfl (sub.cons rfl (sub.cons rfl (sub.cons rfl sub.nil)))) Ent.drop (by simp)
  ·refine Sx.gno rfl (decide_eq_false (by omega)) ?_
   refine go ?_
   exact Klp.nm ⟨2 + 1, by omega, fun hh => hno (by omega)⟩ (sub.cons rfl (sub.cons rfl (sub.cons rfl (sub.cons rfl sub.nil)))) Ent.drop (by simp)
 ·refine gg ?_
  refine Sx.al fun p => ?_
  refine Sx.st (b := p) rfl rfl rfl rfl rfl rfl ?_
  refine go ?_
  by_cases hqi : q = 3
  ·subst hqi
   refine Sx.gyes rfl (decide_eq_true (by omega)) ?_
   refine go ?_
   rw [w64 (n := c - 1) (by omega) (by omega)]
   refine Sx.ca rfl (within_ n 0 (c - 1)) ?_
   rintro v L' ⟨rfl, rfl⟩
   refine go ?_
   refine Cx.ifp rfl (fun hr => ?_) (fun hr => ?_)
   ·refine go ?_
    refine Kr.one (.inr rfl) rfl Ent.drop ⟨congrArg (Value.int .i64) ?_, rfl⟩
    unfold cellC
    rw [if_pos ⟨hr.1, by simp only [manyC]; omega⟩]
    exact w64 (n := startC w c wd sl 3 + n) (by simp only [startC]; omega) (by simp only [startC]; omega)
   ·refine go ?_
    exact Klp.nm ⟨3 + 1, by omega, fun _ hh => hr ⟨hh.1, by have := hh.2; simp only [manyC] at this; omega⟩⟩ (sub.cons rfl (sub.cons rfl (sub.cons rfl (sub.cons rfl sub.nil)))) Ent.drop (by simp)
  ·refine Sx.gno rfl (decide_eq_false (by omega)) ?_
   refine go ?_
   exact Klp.nm ⟨3 + 1, by omega, fun hh => hno (by omega)⟩ (sub.cons rfl (sub.cons rfl (sub.cons rfl (sub.cons rfl sub.nil)))) Ent.drop (by simp)
 ·refine gg ?_
  refine Sx.al fun p => ?_
  refine Sx.st (b := p) rfl rfl rfl rfl rfl rfl ?_
  refine go ?_
  by_cases hqi : q = 4
  ·subst hqi
   refine Sx.gyes rfl (decide_eq_true (by omega)) ?_
   refine go ?_
   rw [w64 (n := c * wd - 1) (by omega) (by omega)]
   refine Sx.ca rfl (within_ n 0 (c * wd - 1)) ?_
   rintro v L' ⟨rfl, rfl⟩
   refine go ?_
   refine Cx.ifp rfl (fun hr => ?_) (fun hr => ?_)
   ·refine go ?_
    refine Kr.one (.inr rfl) rfl Ent.drop ⟨congrArg (Value.int .i64) ?_, rfl⟩
    unfold cellC
    rw [if_pos ⟨hr.1, by simp only [manyC]; omega⟩]
    exact w64 (n := startC w c wd sl 4 + n) (by simp only [startC]; omega) (by simp only [startC]; omega)
   ·refine go ?_
    exact Klp.nm ⟨4 + 1, by omega, fun _ hh => hr ⟨hh.1, by have := hh.2; simp only [manyC] at this; omega⟩⟩ (sub.cons rfl (sub.cons rfl (sub.cons rfl (sub.cons rfl sub.nil)))) Ent.drop (by simp)
  ·refine Sx.gno rfl (decide_eq_false (by omega)) ?_
   refine go ?_
   exact Klp.nm ⟨4 + 1, by omega, fun hh => hno (by omega)⟩ (sub.cons rfl (sub.cons rfl (sub.cons rfl (sub.cons rfl sub.nil)))) Ent.drop (by simp)
 ·refine go ?_
  refine Kr.one (.inr rfl) rfl (Ent.refl _) ⟨?_, rfl⟩
  unfold cellC
  rw [if_neg (hno hq)]
theorem layPin (w c wd sl ca ba : Int) (h : MayC w c wd sl ca ba) (n : Int) : Fx Tryz.prog 35 [cfg w c wd sl ca ba, .int .i64 n] L (fun v L' => v = .int .i64 (cellC w c wd sl 0 n) ∧ L = L') := by
 refine Fx.mk Tryz.func35 k35 nb_ ?_
 dsimp only [c35, kG, kS, kH, kM, kN, kF, kL, envOf, Nat.reduceAdd]
 refine Cx.sq ?_
 refine Cx.rg ?_
 refine Sx.bx rfl rfl fun g => ?_
 refine go ?_
 refine Sx.ca rfl (layCell w c wd sl ca ba h 0 (by omega) n _ (by omega)) ?_
 rintro v L' ⟨rfl, rfl⟩
 refine go ?_
 exact Kr.one (.inr rfl) rfl Ent.drop ⟨rfl, rfl⟩
theorem layLink (w c wd sl ca ba : Int) (h : MayC w c wd sl ca ba) (n : Int) : Fx Tryz.prog 154 [cfg w c wd sl ca ba, .int .i64 n] L (fun v L' => v = .int .i64 (cellC w c wd sl 3 n) ∧ L = L') := by
 refine Fx.mk Tryz.func154 k154 nb_ ?_
 dsimp only [c154, kG, kS, kH, kM, kN, kF, kL, envOf, Nat.reduceAdd]
 refine Cx.sq ?_
 refine Cx.rg ?_
 refine Sx.bx rfl rfl fun g => ?_
 refine go ?_
 refine Sx.ca rfl (layCell w c wd sl ca ba h 3 (by omega) n _ (by omega)) ?_
 rintro v L' ⟨rfl, rfl⟩
 refine go ?_
 exact Kr.one (.inr rfl) rfl Ent.drop ⟨rfl, rfl⟩
end
end Go.Proofs.YtggnbdeokmdjbaaGreat


namespace Go.Proofs.YtggnbdeokmdjbaaGreat
open Go
attribute [local irreducible] Sx Cx Rx Fx Krg Ksq Kbl Klp Kr
section
variable {L F G : St}
theorem fillM_ok {k : Sk} {m : Mm} (h : m.ok) (hn : k.n ≤ 4096) : (fillM k m).ok := Mm.ok_lay (Mm.ok_lay (fillUp_ok h _ (by omega)) (by omega)) (by omega)
set_option maxHeartbeats 1000000 in
theorem stackFill {sb mp : Nat} {k : Sk} {m : Mm} (hk : k.ok m.ws.length) [t : Take L (some ⟨mp, 0, none⟩) (MemO m) F] [s : Take F (some ⟨sb, 0, none⟩) (SkO mp k) G] :
  Fx Tryz.prog 155 [.pointer (some ⟨sb, 0, none⟩)] L (fun v L' => L' = pt (some ⟨mp, 0, none⟩) (MemO (fillM k m)) :: F) := by
 obtain ⟨k1, k2, k3, k4, k5, k6⟩ := hk
 have hul := fillUp_len k m k.n
 refine Fx.mk Tryz.func155 k155 nb_ ?_
 dsimp only [c155, kG, kS, kH, kM, kN, kF, kL, envOf, Nat.reduceAdd]
 refine Cx.ent (Ent.trans (Ent.of t.out) (Ent.cons (Ent.of s.out))) ?_
 refine go ?_
 refine Cx.lp (α := {i : Nat // i ≤ k.n}) (fun i => [(0, .pointer (some ⟨sb, 0, none⟩)), (8, .int .i64 k.n), (9, .int .i64 i.1)]) (fun i => pt (some ⟨mp, 0, none⟩) (MemO (fillUp k m i.1)) :: pt (some ⟨sb, 0, none⟩) (SkO mp k) :: G)
  (fun i => k.n - i.1) ⟨0, by omega⟩ (sub.cons rfl (sub.cons rfl (sub.cons rfl sub.nil))) (Ent.refl _) ?_
 rintro ⟨i, hi⟩
 dsimp only
 refine go ?_
 refine Cx.ifp rfl (fun h => ?_) (fun h => ?_)
 ·have hil := fillUp_len k m i
  refine go ?_
  refine Cx.orde rfl kr_ ?_
  refine ge ?_
  rw [w64 (n := (k.links : Int) + i) (by omega) (by omega), w64 (n := (i : Int) + 2) (by omega) (by omega), wu64 (n := (i : Int) + 2) (by omega) (by omega), show (k.links : Int) + i = ((k.links + i : Nat) : Int) by omega, show (i : Int) + 2 = ((i + 2 : Nat) : Int) by omega]
  refine Ev.caH kr_ rfl rfl (cellsLay (b := mp) (m := fillUp k m i) (k.links + i) (i + 2) (by omega) (by omega)) (Pres.deps kr_) ?_
  rintro v L' ⟨rfl, rfl⟩
  refine ge ?_
  refine go ?_
  rw [w64 (n := (i : Int) + 1) (by omega) (by omega)]
  exact Klp.nm ⟨i + 1, by omega⟩ (sub.cons rfl (sub.cons rfl (sub.cons rfl sub.nil))) (Ent.refl _) (by dsimp only; omega)
 ·have hin : i = k.n := by omega
  subst hin
  refine go ?_
  refine Cx.ordc rfl kr_ ?_
  refine ge ?_
  rw [w64 (n := (k.links : Int) + k.n) (by omega) (by omega), w64 (n := (k.links : Int) + k.n - 1) (by omega) (by omega), show (k.links : Int) + k.n - 1 = ((k.links + k.n - 1 : Nat) : Int) by omega]
  refine Ev.caH kr_ rfl rfl (cellsLay (b := mp) (m := fillUp k m k.n) (k.links + k.n - 1) 0 (by omega) (by omega)) (Pres.deps kr_) ?_
  rintro v L' ⟨rfl, rfl⟩
  refine ge ?_
  refine go ?_
  refine Sx.ca rfl (putHead 0 0 (by omega) (by omega) (by omega)) ?_
  rintro v L' ⟨rfl, rfl⟩
  refine go ?_
  refine Cx.orde rfl kr_ ?_
  refine ge ?_
  refine Ev.caH kr_ rfl rfl (cellsLay (b := mp) (m := (fillUp k m k.n).lay (k.links + k.n - 1) 0) k.head 1 (by rw [Mm.len_lay]; omega) (by omega)) (Pres.deps kr_) ?_
  rintro v L' ⟨rfl, rfl⟩
  refine ge ?_
  exact Kr.none (.inl rfl) (Ent.cons (Ent.of s.back)) rfl
theorem stackList {sb mp : Nat} {k : Sk} {m : Mm} (hk : k.ok m.ws.length) [t : Take L (some ⟨mp, 0, none⟩) (MemO m) F] [s : Take F (some ⟨sb, 0, none⟩) (SkO mp k) G] :
  Fx Tryz.prog 13 [.pointer (some ⟨sb, 0, none⟩)] L (fun v L' => ∃ ro co, v = .slice ro (listK k m).length co ∧ L' = pt ro (Row 3 1 (listK k m).length co (ints (listK k m))) :: L) := by
 obtain ⟨k1, k2, k3, k4, k5, k6⟩ := hk
 refine Fx.mk Tryz.func13 k13 nb_ ?_
 dsimp only [c13, kG, kS, kH, kM, kN, kF, kL, envOf, Nat.reduceAdd]
 refine Cx.pure (memKey (b := mp) (m := m)) fun hm => ?_
 have hlt := Mm.at_lt hm.1 k.head
 refine Cx.ent (Ent.trans (Ent.of t.out) (Ent.cons (Ent.of s.out))) ?_
 refine go ?_
 refine Cx.ordc rfl kr_ ?_
 refine ge ?_
 refine Ev.cakH kr_ rfl rfl (cellsPeek (b := mp) (m := m) k.head k3) ?_
 refine ge ?_
 refine Ev.cakH kr_ rfl rfl (stackTop (sb := sb) (mp := mp) (k := k) (m.at_ k.head) hlt) ?_
 refine ge ?_
 refine go ?_
 refine Cx.lp (α := {p : (List Int × Int) × (Option Addr × Nat) // p.1.1.length ≤ k.n ∧ -1 ≤ p.1.2 ∧ p.1.2 < k.n ∧ p.1.1 ++ walkL k m (k.n - p.1.1.length) p.1.2 = listK k m})
  (fun p => [(0, .pointer (some ⟨sb, 0, none⟩)), (3, .slice p.1.2.1 p.1.1.1.length p.1.2.2), (4, .int .i64 p.1.1.2)])
  (fun p => pt p.1.2.1 (Row 3 1 p.1.1.1.length p.1.2.2 (ints p.1.1.1)) :: pt (some ⟨mp, 0, none⟩) (MemO m) :: pt (some ⟨sb, 0, none⟩) (SkO mp k) :: G)
  (fun p => k.n - p.1.1.1.length) ⟨(([], k.top (m.at_ k.head)), (none, 0)), by simp, k.top_ge _, k.top_lt _, by simp [listK]⟩ (sub.cons rfl (sub.cons rfl (sub.cons rfl sub.nil))) (Ent.rownil 3 1) ?_
 rintro ⟨⟨⟨out, i⟩, ⟨r, c⟩⟩, hol, hi1, hi2, he⟩
 dsimp only at hol hi1 hi2 he ⊢
 have fin : (i < 0 ∨ k.n ≤ out.length) → out = listK k m := by
  intro h
  rw [← he]
  rcases h with h | h
  ·cases hf : k.n - out.length with
   | zero => simp [walkL]
   | succ f => simp [walkL, show ¬ 0 ≤ i by omega]
  ·rw [show k.n - out.length = 0 by omega]; simp [walkL]
 refine go ?_
 refine Sx.ifp rfl (fun h => ?_) (fun h => ?_)
 ·refine go ?_
  refine Cx.ifp rfl (fun h2 => ?_) (fun h2 => ?_)
  ·obtain ⟨x, rfl⟩ : ∃ x : Nat, i = x := ⟨i.toNat, by omega⟩
   have hlx := Mm.at_lt hm.1 (k.links + x)
   have hbl := k.below_lt (m.at_ (k.links + x))
   have hbg := k.below_ge (m.at_ (k.links + x))
   refine go ?_
   refine Sx.bs (sz := 1) rfl rfl fun g => ?_
   refine Sx.ap (ra := r) rfl rfl (Rd.row (b := g) (E := 3) (cap := 1) rfl) rfl (by simp [maxLen]; omega) (by omega) fun ra ca hc => ?_
   refine go ?_
   refine Cx.ordu rfl rfl kr_ kr_ ?_
   refine ge ?_
   rw [w64 (n := (k.links : Int) + x) (by omega) (by omega), show (k.links : Int) + x = ((k.links + x : Nat) : Int) by omega]
   refine Ev.cakH kr_ rfl rfl (cellsPeek (b := mp) (m := m) (k.links + x) (by omega)) ?_
   refine ge ?_
   refine Ev.cakH kr_ rfl rfl (stackBelow (sb := sb) (mp := mp) (k := k) (m.at_ (k.links + x)) hlx k2) ?_
   refine ge ?_
   refine go ?_
   refine Klp.nm ⟨((out ++ [(x : Int)], k.below (m.at_ (k.links + x))), (ra, ca)), by simp; omega, hbg, hbl, ?_⟩ (sub.cons rfl (sub.cons (by simp; rfl) (sub.cons rfl sub.nil))) ?_ (by simp; omega)
   ·dsimp only
    rw [← he, show k.n - out.length = (k.n - (out ++ [(x : Int)]).length) + 1 by simp; omega]
    simp only [walkL, if_pos h, List.append_assoc, List.cons_append, List.nil_append, Int.toNat_natCast]
   ·simp only [List.length_append, List.length_singleton, ints_append]
    exact ent
  ·refine go ?_
   have hf := fin (.inr (by omega))
   subst hf
   exact Kr.one (.inr rfl) rfl (Ent.cons (Ent.trans (Ent.cons (Ent.of s.back)) (Ent.of t.back))) ⟨r, c, rfl, rfl⟩
 ·refine go ?_
  have hf := fin (.inl (by omega))
  subst hf
  exact Kr.one (.inr rfl) rfl (Ent.cons (Ent.trans (Ent.cons (Ent.of s.back)) (Ent.of t.back))) ⟨r, c, rfl, rfl⟩
end
end Go.Proofs.YtggnbdeokmdjbaaGreat


namespace Go.Proofs.YtggnbdeokmdjbaaGreat
open Go
attribute [local irreducible] Sx Cx Rx Fx Krg Ksq Kbl Klp Kr
structure Cn where
 w : Nat
 c : Nat
 wd : Nat
 sl : Nat
 ca : Nat
 ba : Nat
abbrev Cn.v (x : Cn) : Value := cfg x.w x.c x.wd x.sl x.ca x.ba
abbrev Cn.l (x : Cn) : List Value := [.int .i64 x.w, .int .i64 x.c, .int .i64 x.wd, .int .i64 x.sl, .int .i64 x.ca, .int .i64 x.ba]
def Cn.ok (x : Cn) : Prop := MayC x.w x.c x.wd x.sl x.ca x.ba
def Cn.len (x : Cn) : Nat := 3 + x.w + x.sl + x.sl + x.c + x.c * x.wd
def Cn.link (x : Cn) : Nat := 3 + x.w + x.sl + x.sl
def Cn.slot (x : Cn) : Nat := 3 + x.w + x.sl
def Cn.pool (x : Cn) : Sk := ⟨0, x.link, x.c⟩
def Cn.spare (x : Cn) : Sk := ⟨1, x.slot, x.sl⟩
theorem Cn.lenC (x : Cn) : Proofs.YtggnbdeokmdjbaaGreat.lenC x.w x.c x.wd x.sl = (x.len : Int) := by unfold Proofs.YtggnbdeokmdjbaaGreat.lenC Cn.len; push_cast; rfl
theorem Cn.ok.len_le {x : Cn} (h : x.ok) : x.len ≤ 8388608 := by
 have hm := MayC.mul h
 obtain ⟨h1, h2, h3, h4, h5, h6, h7⟩ := h
 have : ((x.c * x.wd : Nat) : Int) ≤ 4194304 := by push_cast; exact hm.2
 unfold Cn.len; omega
theorem Cn.ok.pool {x : Cn} (h : x.ok) {n : Nat} (hn : x.len ≤ n) (hn2 : n ≤ 8388608) : x.pool.ok n := by
 obtain ⟨h1, h2, h3, h4, h5, h6, h7⟩ := h
 unfold Cn.len at hn
 refine ⟨?_, ?_, ?_, ?_, ?_, hn2⟩ <;> simp only [Cn.pool, Cn.link] <;> omega
theorem Cn.ok.spare {x : Cn} (h : x.ok) {n : Nat} (hn : x.len ≤ n) (hn2 : n ≤ 8388608) : x.spare.ok n := by
 obtain ⟨h1, h2, h3, h4, h5, h6, h7⟩ := h
 unfold Cn.len at hn
 refine ⟨?_, ?_, ?_, ?_, ?_, hn2⟩ <;> simp only [Cn.spare, Cn.slot] <;> omega
section
variable {L F G : St}
theorem layLinkN {x : Cn} (h : x.ok) (n : Nat) (hn : n < x.c) : Fx Tryz.prog 154 [x.v, .int .i64 n] L (fun v L' => v = .int .i64 ((x.link + n : Nat) : Int) ∧ L = L') := by
 refine (layLink _ _ _ _ _ _ h (n : Int)).mono ?_
 rintro v L' ⟨rfl, rfl⟩
 refine ⟨congrArg (Value.int .i64) ?_, rfl⟩
 unfold cellC
 rw [if_pos ⟨by omega, by simp only [manyC]; omega⟩]
 simp only [startC, Cn.link]
 push_cast; rfl
abbrev ChO (mp sb : Nat) (x : Cn) : Option Addr → As := Blk 249 (.pointer (some ⟨mp, 0, none⟩) :: x.l ++ [.pointer (some ⟨sb, 0, none⟩)])
set_option maxHeartbeats 1000000 in
theorem chainNew {mp : Nat} {m : Mm} {x : Cn} (hx : x.ok) (hl : x.len ≤ m.ws.length) [t : Take L (some ⟨mp, 0, none⟩) (MemO m) F] :
  Fx Tryz.prog 63 [.pointer (some ⟨mp, 0, none⟩), x.v] L (fun v L' => ∃ g sb, v = .tuple #[.pointer (some ⟨g, 0, none⟩), .int .i64 0] ∧ L' = pt (some ⟨g, 0, none⟩) (ChO mp sb x) :: pt (some ⟨sb, 0, none⟩) (SkO mp x.pool) :: L) := by
 refine Fx.mk Tryz.func63 k63 nb_ ?_
 dsimp only [c63, kG, kS, kH, kM, kN, kF, kL, envOf, Nat.reduceAdd]
 refine Cx.pure (memKey (b := mp) (m := m)) fun hm => ?_
 refine Cx.sq ?_
 refine Cx.rg ?_
 refine Sx.bx rfl rfl fun g => ?_
 refine go ?_
 refine Cx.ordc rfl kr_ ?_
 refine ge ?_
 refine Ev.cakH kr_ rfl rfl (may_ (x.w : Int) x.c x.wd x.sl x.ca x.ba) ?_
 rw [decide_eq_true (show MayC (x.w : Int) x.c x.wd x.sl x.ca x.ba from hx)]
 refine ge ?_
 refine Ev.cakH kr_ rfl rfl (cellsLen (b := mp) (m := m)) ?_
 refine ge ?_
 refine Ev.cakH kr_ rfl rfl (layLen (x.w : Int) x.c x.wd x.sl x.ca x.ba hx) ?_
 rw [x.lenC]
 refine ge ?_
 refine Cx.cno rfl (decide_eq_false (by omega)) ?_
 refine go ?_
 refine Cx.ordc rfl kr_ ?_
 refine ge ?_
 refine Ev.cakH kr_ rfl rfl (layLinkN hx 0 (by have := hx.2.1; omega)) ?_
 refine ge ?_
 refine Ev.caH kr_ rfl rfl (stackNew (mp := mp) (m := m) (k := x.pool) (hx.pool hl hm.2)) (Pres.deps kr_) ?_
 rintro v L' ⟨sb, rfl, rfl⟩
 refine ge ?_
 refine go ?_
 refine Sx.bx rfl rfl fun q => ?_
 refine go ?_
 exact Kr.two (.inr rfl) rfl rfl (Ent.cons (Ent.cons Ent.drop)) ⟨q, sb, rfl, rfl⟩
theorem chainPool {g mp sb : Nat} {x : Cn} [t : Take L (some ⟨g, 0, none⟩) (ChO mp sb x) F] : Fx Tryz.prog 64 [.pointer (some ⟨g, 0, none⟩)] L (fun v L' => v = .pointer (some ⟨sb, 0, none⟩) ∧ L = L') := by
 refine Fx.mk Tryz.func64 k64 nb_ ?_
 dsimp only [c64, kG, kS, kH, kM, kN, kF, kL, envOf, Nat.reduceAdd]
 refine go ?_
 exact Kr.one (.inr rfl) rfl (Ent.refl _) ⟨rfl, rfl⟩
theorem chainFill {g mp sb : Nat} {x : Cn} {m : Mm} {F G H : St} (hk : x.pool.ok m.ws.length) [t : Take L (some ⟨mp, 0, none⟩) (MemO m) F] [s : Take F (some ⟨sb, 0, none⟩) (SkO mp x.pool) G] [c : Take L (some ⟨g, 0, none⟩) (ChO mp sb x) H] :
  Fx Tryz.prog 65 [.pointer (some ⟨g, 0, none⟩)] L (fun v L' => L' = pt (some ⟨mp, 0, none⟩) (MemO (fillM x.pool m)) :: F) := by
 refine Fx.mk Tryz.func65 k65 nb_ ?_
 dsimp only [c65, kG, kS, kH, kM, kN, kF, kL, envOf, Nat.reduceAdd]
 refine go ?_
 refine Sx.ca rfl (stackFill (sb := sb) (mp := mp) (k := x.pool) (m := m) hk) ?_
 rintro v L' rfl
 refine go ?_
 exact Kr.none (.inl rfl) (Ent.refl _) rfl
end
end Go.Proofs.YtggnbdeokmdjbaaGreat


namespace Go.Proofs.YtggnbdeokmdjbaaGreat
open Go
attribute [local irreducible] Sx Cx Rx Fx Krg Ksq Kbl Klp Kr
section
variable {L F : St}
def LimboT (T : TypeId) (m : Lm) (a : Option Addr) : As :=
 exs fun (y : (Option Addr × Nat) × (Option Addr × Nat) × (Option Addr × Nat)) =>
  [pt a (Blk T [.int .i64 m.t0, .slice y.1.1 m.x0.length y.1.2, .int .i64 m.t1, .slice y.2.1.1 m.x1.length y.2.1.2, .int .i64 m.t2, .slice y.2.2.1 m.x2.length y.2.2.2, .int .i64 m.last]),
   pt y.1.1 (Row 3 1 m.x0.length y.1.2 (ints m.x0)), pt y.2.1.1 (Row 3 1 m.x1.length y.2.1.2 (ints m.x1)), pt y.2.2.1 (Row 3 1 m.x2.length y.2.2.2 (ints m.x2))]
abbrev LimboO := LimboT 276
theorem LimboO.close {T : TypeId} {a r0 r1 r2 : Option Addr} {c0 c1 c2 n0 n1 n2 : Nat} {v0 v1 v2 v3 : Value} {w0 w1 w2 : List Value} {F F0 F1 G : St} (m : Lm)
  [t : Take L a (Blk T [v0, .slice r0 n0 c0, v1, .slice r1 n1 c1, v2, .slice r2 n2 c2, v3]) F] [u0 : Take F r0 (Row 3 1 n0 c0 w0) F0] [u1 : Take F0 r1 (Row 3 1 n1 c1 w1) F1] [u2 : Take F1 r2 (Row 3 1 n2 c2 w2) G]
  (h0 : v0 = .int .i64 m.t0) (h1 : v1 = .int .i64 m.t1) (h2 : v2 = .int .i64 m.t2) (h3 : v3 = .int .i64 m.last) (e0 : n0 = m.x0.length) (e1 : n1 = m.x1.length) (e2 : n2 = m.x2.length)
  (g0 : w0 = ints m.x0) (g1 : w1 = ints m.x1) (g2 : w2 = ints m.x2) : Ent L (pt a (LimboT T m) :: G) := by
 subst h0; subst h1; subst h2; subst h3; subst e0; subst e1; subst e2; subst g0; subst g1; subst g2
 refine Ent.trans (Ent.take1 (t := t) (Ent.trans (Ent.of u0.out) (Ent.cons (Ent.trans (Ent.of u1.out) (Ent.cons (Ent.of u2.out)))))) ?_
 exact Ent.close (f := fun (y : (Option Addr × Nat) × (Option Addr × Nat) × (Option Addr × Nat)) =>
  [pt a (Blk T [.int .i64 m.t0, .slice y.1.1 m.x0.length y.1.2, .int .i64 m.t1, .slice y.2.1.1 m.x1.length y.2.1.2, .int .i64 m.t2, .slice y.2.2.1 m.x2.length y.2.2.2, .int .i64 m.last]),
   pt y.1.1 (Row 3 1 m.x0.length y.1.2 (ints m.x0)), pt y.2.1.1 (Row 3 1 m.x1.length y.2.1.2 (ints m.x1)), pt y.2.2.1 (Row 3 1 m.x2.length y.2.2.2 (ints m.x2))]) rfl ((r0, c0), (r1, c1), (r2, c2))
theorem limboNew : Fx Tryz.prog 144 [] L (fun v L' => ∃ g, v = .pointer (some ⟨g, 0, none⟩) ∧ L' = pt (some ⟨g, 0, none⟩) (LimboO Lm.nil) :: L) := by
 refine Fx.mk Tryz.func144 k144 nb_ ?_
 dsimp only [c144, kG, kS, kH, kM, kN, kF, kL, envOf, Nat.reduceAdd]
 refine go ?_
 refine Sx.bx rfl rfl fun g => ?_
 refine go ?_
 refine Kr.one (.inr rfl) rfl ?_ ⟨g, rfl, rfl⟩
 refine Ent.trans (Ent.rownil 3 1) (Ent.trans (Ent.rownil 3 1) (Ent.trans (Ent.rownil 3 1) ?_))
 exact LimboO.close (a := some ⟨g, 0, none⟩) (r0 := none) (r1 := none) (r2 := none) Lm.nil rfl rfl rfl rfl rfl rfl rfl rfl rfl rfl
theorem limboRetire {b : Nat} {m : Lm} {tag : Int} {ys : List Int} {ya : Option Addr} {n c : Nat} {F : St} [t : Take L (some ⟨b, 0, none⟩) (LimboO m) F] (hr : Rd F 1 ya n (ints ys)) (hb : m.size + n ≤ 1000000000) :
  Fx Tryz.prog 105 [.pointer (some ⟨b, 0, none⟩), .int .i64 tag, .slice ya n c] L (fun v L' =>
   (refused m tag ys ∧ v = .tuple #[.slice none 0 0, .int .i64 1] ∧ L' = pt (some ⟨b, 0, none⟩) (LimboO m) :: F) ∨
   (¬ refused m tag ys ∧ ∃ ro co, v = .tuple #[.slice ro (outM m tag).length co, .int .i64 0] ∧ L' = pt ro (Row 3 1 (outM m tag).length co (ints (outM m tag))) :: pt (some ⟨b, 0, none⟩) (LimboO (retireM m tag ys)) :: F)) := by
 have hn : n = ys.length := by have := hr.1; simp [ints] at this; omega
 have hy0 : (n : Int) = 0 ↔ ys = [] := by rw [← List.length_eq_zero_iff]; omega
 unfold Lm.size at hb
 refine Fx.mk Tryz.func105 k105 nb_ ?_
 dsimp only [c105, kG, kS, kH, kM, kN, kF, kL, envOf, Nat.reduceAdd]
 refine Cx.openp (t := t) rfl ?_
 rintro ⟨⟨r0, c0⟩, ⟨r1, c1⟩, ⟨r2, c2⟩⟩
 simp only [List.cons_append, List.nil_append]
 refine go ?_
 refine Sx.ifp rfl (fun h1 => ?_) (fun h1 => ?_)
 ·refine go ?_
  exact Kr.two (.inr rfl) rfl rfl (LimboO.close (a := some ⟨b, 0, none⟩) (r0 := r0) (r1 := r1) (r2 := r2) m rfl rfl rfl rfl rfl rfl rfl rfl rfl rfl) (.inl ⟨.inl (hy0.1 h1), rfl, rfl⟩)
 refine go ?_
 refine Sx.ifp rfl (fun h2 => ?_) (fun h2 => ?_)
 ·refine go ?_
  exact Kr.two (.inr rfl) rfl rfl (LimboO.close (a := some ⟨b, 0, none⟩) (r0 := r0) (r1 := r1) (r2 := r2) m rfl rfl rfl rfl rfl rfl rfl rfl rfl rfl) (.inl ⟨.inr (.inl h2), rfl, rfl⟩)
 refine go ?_
 refine Sx.ifp rfl (fun h3 => ?_) (fun h3 => ?_)
 ·refine go ?_
  exact Kr.two (.inr rfl) rfl rfl (LimboO.close (a := some ⟨b, 0, none⟩) (r0 := r0) (r1 := r1) (r2 := r2) m rfl rfl rfl rfl rfl rfl rfl rfl rfl rfl) (.inl ⟨.inr (.inr (.inl h3)), rfl, rfl⟩)
 refine go ?_
 refine Cx.cd rfl (fun h4 => ?_) (fun h4 => ?_)
 ·refine go ?_
  exact Kr.two (.inr rfl) rfl rfl (LimboO.close (a := some ⟨b, 0, none⟩) (r0 := r0) (r1 := r1) (r2 := r2) m rfl rfl rfl rfl rfl rfl rfl rfl rfl rfl) (.inl ⟨.inr (.inr (.inr (by simpa [pick] using h4))), rfl, rfl⟩)
 have h4' : ¬ tag < m.last := by simpa [pick] using h4
 have hnr : ¬ refused m tag ys := by
  rintro (h | h | h | h)
  ·exact h1 (hy0.2 h)
  ·exact h2 h
  ·exact h3 h
  ·exact h4' h
 refine go ?_
 refine Sx.pv rfl (by decide) ?_
 have hmod : tag.tmod 3 = (bucketOf tag : Int) := by
  unfold bucketOf
  rw [Int.tmod_eq_emod]
  split <;> omega
 rw [hmod]
 have hlt : bucketOf tag < 3 := Nat.mod_lt _ (by omega)
 have hout : outM m tag = if m.tag (bucketOf tag) < tag then m.items (bucketOf tag) else [] := rfl
 have hret : retireM m tag ys = { m.put (bucketOf tag) tag ((if m.tag (bucketOf tag) < tag then [] else m.items (bucketOf tag)) ++ ys) with last := tag } := rfl
 rw [hout, hret]
 generalize bucketOf tag = k at hlt ⊢
 rcases (show k = 0 ∨ k = 1 ∨ k = 2 by omega) with rfl | rfl | rfl
 ·refine go ?_
  refine Sx.pv rfl ⟨by omega, by omega⟩ ?_
  refine go ?_
  refine Cx.ifp rfl (fun h5 => ?_) (fun h5 => ?_)
  ·refine go ?_
   refine Sx.apn rfl rfl (hr.ent (by repeat (first | exact Ent.refl _ | (refine Ent.trans Ent.drop ?_)))) (ones_ints ys) (by simp [maxLen]; omega) (by omega) fun ra ca hc => ?_
   refine go ?_
   have h5' : m.tag 0 < tag := h5
   rw [if_pos h5', if_pos h5']
   refine Kr.two (.inr rfl) rfl rfl ?_ (.inr ⟨hnr, r0, c0, rfl, rfl⟩)
   refine Ent.trans (LimboO.close (a := some ⟨b, 0, none⟩) (r0 := ra) (r1 := r1) (r2 := r2) { m.put 0 tag ([] ++ ys) with last := tag } rfl rfl rfl rfl (by simp [hn, Lm.put]) rfl rfl (by simp [Lm.put]) rfl rfl) ?_
   exact Ent.swap
  ·refine go ?_
   refine Sx.ap (ra := r0) rfl rfl (hr.ent (by repeat (first | exact Ent.refl _ | (refine Ent.trans Ent.drop ?_)))) (ones_ints ys) (by simp [maxLen]; omega) (by omega) fun ra ca hc => ?_
   refine go ?_
   have h5' : ¬ m.tag 0 < tag := h5
   rw [if_neg h5', if_neg h5']
   refine Kr.two (.inr rfl) rfl rfl ?_ (.inr ⟨hnr, none, 0, rfl, rfl⟩)
   refine Ent.trans (LimboO.close (a := some ⟨b, 0, none⟩) (r0 := ra) (r1 := r1) (r2 := r2) { m.put 0 tag (m.items 0 ++ ys) with last := tag } rfl rfl rfl rfl (by simp [hn, Lm.put, Lm.items]) rfl rfl (by simp [Lm.put, Lm.items, ints_append]) rfl rfl) ?_
   exact Ent.rownil 3 1
 ·refine go ?_
  refine Sx.pv rfl ⟨by omega, by omega⟩ ?_
  refine go ?_
  refine Cx.ifp rfl (fun h5 => ?_) (fun h5 => ?_)
  ·refine go ?_
   refine Sx.apn rfl rfl (hr.ent (by repeat (first | exact Ent.refl _ | (refine Ent.trans Ent.drop ?_)))) (ones_ints ys) (by simp [maxLen]; omega) (by omega) fun ra ca hc => ?_
   refine go ?_
   have h5' : m.tag 1 < tag := h5
   rw [if_pos h5', if_pos h5']
   refine Kr.two (.inr rfl) rfl rfl ?_ (.inr ⟨hnr, r1, c1, rfl, rfl⟩)
   refine Ent.trans (LimboO.close (a := some ⟨b, 0, none⟩) (r0 := r0) (r1 := ra) (r2 := r2) { m.put 1 tag ([] ++ ys) with last := tag } rfl rfl rfl rfl rfl (by simp [hn, Lm.put]) rfl rfl (by simp [Lm.put]) rfl) ?_
   exact Ent.swap
  ·refine go ?_
   refine Sx.ap (ra := r1) rfl rfl (hr.ent (by repeat (first | exact Ent.refl _ | (refine Ent.trans Ent.drop ?_)))) (ones_ints ys) (by simp [maxLen]; omega) (by omega) fun ra ca hc => ?_
   refine go ?_
   have h5' : ¬ m.tag 1 < tag := h5
   rw [if_neg h5', if_neg h5']
   refine Kr.two (.inr rfl) rfl rfl ?_ (.inr ⟨hnr, none, 0, rfl, rfl⟩)
   refine Ent.trans (LimboO.close (a := some ⟨b, 0, none⟩) (r0 := r0) (r1 := ra) (r2 := r2) { m.put 1 tag (m.items 1 ++ ys) with last := tag } rfl rfl rfl rfl rfl (by simp [hn, Lm.put, Lm.items]) rfl rfl (by simp [Lm.put, Lm.items, ints_append]) rfl) ?_
   exact Ent.rownil 3 1
 ·refine go ?_
  refine Sx.pv rfl ⟨by omega, by omega⟩ ?_
  refine go ?_
  refine Cx.ifp rfl (fun h5 => ?_) (fun h5 => ?_)
  ·refine go ?_
   refine Sx.apn rfl rfl (hr.ent (by repeat (first | exact Ent.refl _ | (refine Ent.trans Ent.drop ?_)))) (ones_ints ys) (by simp [maxLen]; omega) (by omega) fun ra ca hc => ?_
   refine go ?_
   have h5' : m.tag 2 < tag := h5
   rw [if_pos h5', if_pos h5']
   refine Kr.two (.inr rfl) rfl rfl ?_ (.inr ⟨hnr, r2, c2, rfl, rfl⟩)
   refine Ent.trans (LimboO.close (a := some ⟨b, 0, none⟩) (r0 := r0) (r1 := r1) (r2 := ra) { m.put 2 tag ([] ++ ys) with last := tag } rfl rfl rfl rfl rfl rfl (by simp [hn, Lm.put]) rfl rfl (by simp [Lm.put])) ?_
   exact Ent.swap
  ·refine go ?_
   refine Sx.ap (ra := r2) rfl rfl (hr.ent (by repeat (first | exact Ent.refl _ | (refine Ent.trans Ent.drop ?_)))) (ones_ints ys) (by simp [maxLen]; omega) (by omega) fun ra ca hc => ?_
   refine go ?_
   have h5' : ¬ m.tag 2 < tag := h5
   rw [if_neg h5', if_neg h5']
   refine Kr.two (.inr rfl) rfl rfl ?_ (.inr ⟨hnr, none, 0, rfl, rfl⟩)
   refine Ent.trans (LimboO.close (a := some ⟨b, 0, none⟩) (r0 := r0) (r1 := r1) (r2 := ra) { m.put 2 tag (m.items 2 ++ ys) with last := tag } rfl rfl rfl rfl rfl rfl (by simp [hn, Lm.put, Lm.items]) rfl rfl (by simp [Lm.put, Lm.items, ints_append])) ?_
   exact Ent.rownil 3 1
end
end Go.Proofs.YtggnbdeokmdjbaaGreat


namespace Go.Proofs.YtggnbdeokmdjbaaGreat
open Go
attribute [local irreducible] Sx Cx Rx Fx Krg Ksq Kbl Klp Kr
section
variable {L F : St}
theorem limboLen {b : Nat} {m : Lm} {F : St} [t : Take L (some ⟨b, 0, none⟩) (LimboO m) F] (hb : m.size ≤ 1000000000) :
  Fx Tryz.prog 146 [.pointer (some ⟨b, 0, none⟩)] L (fun v L' => v = .int .i64 m.size ∧ L' = pt (some ⟨b, 0, none⟩) (LimboO m) :: F) := by
 have hs : m.size = m.x0.length + m.x1.length + m.x2.length := rfl
 refine Fx.mk Tryz.func146 k146 nb_ ?_
 dsimp only [c146, kG, kS, kH, kM, kN, kF, kL, envOf, Nat.reduceAdd]
 refine Cx.openp (t := t) rfl ?_
 rintro ⟨⟨r0, c0⟩, ⟨r1, c1⟩, ⟨r2, c2⟩⟩
 simp only [List.cons_append, List.nil_append]
 refine go ?_
 generalize hM : (pt (some ⟨b, 0, none⟩) (Blk 276 [.int .i64 m.t0, .slice r0 m.x0.length c0, .int .i64 m.t1, .slice r1 m.x1.length c1, .int .i64 m.t2, .slice r2 m.x2.length c2, .int .i64 m.last]) ::
  pt r0 (Row 3 1 m.x0.length c0 (ints m.x0)) :: pt r1 (Row 3 1 m.x1.length c1 (ints m.x1)) :: pt r2 (Row 3 1 m.x2.length c2 (ints m.x2)) :: F) = M
 refine Cx.lp (α := {i : Nat // i ≤ 3}) (fun i => [(3, .int .i64 (((List.range i.1).map fun k => (m.items k).length).sum : Nat)), (9, .agg #[.int .i64 m.t0, .slice r0 m.x0.length c0, .int .i64 m.t1, .slice r1 m.x1.length c1, .int .i64 m.t2, .slice r2 m.x2.length c2]), (10, .int .i64 i.1)])
  (fun _ => M) (fun i => 3 - i.1) ⟨0, by omega⟩ (sub.cons rfl (sub.cons rfl (sub.cons rfl sub.nil))) (Ent.refl _) ?_
 rintro ⟨i, hi⟩
 dsimp only
 rcases (show i = 0 ∨ i = 1 ∨ i = 2 ∨ i = 3 by omega) with rfl | rfl | rfl | rfl
 ·refine go ?_
  refine Sx.pv rfl ⟨by omega, by omega⟩ ?_
  refine Sx.al fun g => ?_
  refine Sx.st (b := g) rfl rfl rfl rfl rfl rfl ?_
  dsimp only [lay]
  refine go ?_
  refine Klp.nm ⟨1, by omega⟩ (sub.cons ?_ (sub.cons rfl (sub.cons rfl sub.nil))) (Ent.drop) (by simp)
  simp only [List.range_succ, List.range_zero, List.nil_append, List.map_append, List.map_cons, List.map_nil, List.sum_append, List.sum_cons, List.sum_nil, Nat.zero_add, Nat.add_zero]
  refine congrArg (fun z => some (Value.int .i64 z)) ?_
  refine Eq.trans (w64 (by simp [Lm.items]) (by simp [Lm.items]; omega)) ?_
  simp [Lm.items]
 ·refine go ?_
  refine Sx.pv rfl ⟨by omega, by omega⟩ ?_
  refine Sx.al fun g => ?_
  refine Sx.st (b := g) rfl rfl rfl rfl rfl rfl ?_
  dsimp only [lay]
  refine go ?_
  refine Klp.nm ⟨2, by omega⟩ (sub.cons ?_ (sub.cons rfl (sub.cons rfl sub.nil))) (Ent.drop) (by simp)
  simp only [List.range_succ, List.range_zero, List.nil_append, List.map_append, List.map_cons, List.map_nil, List.sum_append, List.sum_cons, List.sum_nil, Nat.zero_add, Nat.add_zero]
  refine congrArg (fun z => some (Value.int .i64 z)) ?_
  refine Eq.trans (w64 (by simp [Lm.items]; omega) (by simp [Lm.items]; omega)) ?_
  simp [Lm.items]
 ·refine go ?_
  refine Sx.pv rfl ⟨by omega, by omega⟩ ?_
  refine Sx.al fun g => ?_
  refine Sx.st (b := g) rfl rfl rfl rfl rfl rfl ?_
  dsimp only [lay]
  refine go ?_
  refine Klp.nm ⟨3, by omega⟩ (sub.cons ?_ (sub.cons rfl (sub.cons rfl sub.nil))) (Ent.drop) (by simp)
  simp only [List.range_succ, List.range_zero, List.nil_append, List.map_append, List.map_cons, List.map_nil, List.sum_append, List.sum_cons, List.sum_nil, Nat.zero_add, Nat.add_zero]
  refine congrArg (fun z => some (Value.int .i64 z)) ?_
  refine Eq.trans (w64 (by simp [Lm.items]; omega) (by simp [Lm.items]; omega)) ?_
  simp [Lm.items]
 ·refine go ?_
  subst hM
  refine Kr.one (.inr rfl) rfl (LimboO.close (a := some ⟨b, 0, none⟩) (r0 := r0) (r1 := r1) (r2 := r2) m rfl rfl rfl rfl rfl rfl rfl rfl rfl rfl) ⟨?_, rfl⟩
  simp [List.range_succ, Lm.items, hs]
  omega
theorem limboBucket {b : Nat} {m : Lm} {k : Int} {F : St} [t : Take L (some ⟨b, 0, none⟩) (LimboO m) F] (hb : m.size ≤ 1000000000) :
  Fx Tryz.prog 177 [.pointer (some ⟨b, 0, none⟩), .int .i64 k] L (fun v L' =>
   ((k < 0 ∨ 3 ≤ k ∨ m.items k.toNat = []) ∧ v = .tuple #[.int .i64 0, .slice none 0 0] ∧ L' = pt (some ⟨b, 0, none⟩) (LimboO m) :: F) ∨
   (¬ (k < 0 ∨ 3 ≤ k ∨ m.items k.toNat = []) ∧ ∃ ro co, v = .tuple #[.int .i64 (m.tag k.toNat), .slice ro (m.items k.toNat).length co] ∧ L' = pt ro (Row 3 1 (m.items k.toNat).length co (ints (m.items k.toNat))) :: pt (some ⟨b, 0, none⟩) (LimboO m) :: F)) := by
 have hs : m.size = m.x0.length + m.x1.length + m.x2.length := rfl
 refine Fx.mk Tryz.func177 k177 nb_ ?_
 dsimp only [c177, kG, kS, kH, kM, kN, kF, kL, envOf, Nat.reduceAdd]
 refine Cx.openp (t := t) rfl ?_
 rintro ⟨⟨r0, c0⟩, ⟨r1, c1⟩, ⟨r2, c2⟩⟩
 simp only [List.cons_append, List.nil_append]
 refine Cx.rowkey (a := r0) fun hx0 hn0 _ hk0 => ?_
 refine Cx.rowkey (a := r1) fun hx1 hn1 _ hk1 => ?_
 refine Cx.rowkey (a := r2) fun hx2 hn2 _ hk2 => ?_
 refine go ?_
 refine Sx.ifp rfl (fun h1 => ?_) (fun h1 => ?_)
 ·refine go ?_
  exact Kr.two (.inr rfl) rfl rfl (LimboO.close (a := some ⟨b, 0, none⟩) (r0 := r0) (r1 := r1) (r2 := r2) m rfl rfl rfl rfl rfl rfl rfl rfl rfl rfl) (.inl ⟨.inl h1, rfl, rfl⟩)
 refine go ?_
 refine Sx.ifp rfl (fun h2 => ?_) (fun h2 => ?_)
 ·refine go ?_
  exact Kr.two (.inr rfl) rfl rfl (LimboO.close (a := some ⟨b, 0, none⟩) (r0 := r0) (r1 := r1) (r2 := r2) m rfl rfl rfl rfl rfl rfl rfl rfl rfl rfl) (.inl ⟨.inr (.inl h2), rfl, rfl⟩)
 rcases (show k = 0 ∨ k = 1 ∨ k = 2 by omega) with rfl | rfl | rfl
 ·refine go ?_
  refine Sx.pv rfl ⟨by omega, by omega⟩ ?_
  refine go ?_
  refine Cx.ifp rfl (fun h3 => ?_) (fun h3 => ?_)
  ·refine go ?_
   exact Kr.two (.inr rfl) rfl rfl (LimboO.close (a := some ⟨b, 0, none⟩) (r0 := r0) (r1 := r1) (r2 := r2) m rfl rfl rfl rfl rfl rfl rfl rfl rfl rfl) (.inl ⟨.inr (.inr (List.eq_nil_of_length_eq_zero (by simpa [Lm.items] using h3))), rfl, rfl⟩)
  refine go ?_
  refine Cx.rd ?_
  refine Rx.pvs rfl ?_
  refine Rx.pv 0 rfl rfl rfl ⟨by omega, by omega⟩ rfl rfl ?_
  refine Rx.pvs rfl ?_
  refine Rx.ldbK 0 rfl rfl rfl (by rfl) rfl rfl ?_
  refine Rx.pv 0 rfl rfl rfl ⟨by omega, by omega⟩ rfl rfl ?_
  refine Rx.pvs rfl ?_
  refine Rx.ldbK 0 rfl rfl rfl (by rfl) rfl rfl ?_
  refine Rx.pvs rfl ?_
  refine Rx.one rfl rfl rfl ?_
  refine Sx.ca rfl (clone (Rd.any (a := r0) hx0 (hk0.imp (fun h => h.2.1) id)) (ones_ints _) (by omega)) ?_
  rintro v L' ⟨ra, ca, rfl, rfl⟩
  refine Sx.nil ⟨⟨⟨trivial, Has.cell rfl⟩, Has.cell rfl⟩, ?_⟩
  refine Rx.pvs rfl ?_
  refine Rx.nil ?_
  refine go ?_
  refine Kr.two (.inr rfl) rfl rfl ?_ (.inr ⟨?_, ra, ca, rfl, rfl⟩)
  ·exact Ent.cons (LimboO.close (a := some ⟨b, 0, none⟩) (r0 := r0) (r1 := r1) (r2 := r2) m rfl rfl rfl rfl rfl rfl rfl rfl rfl rfl)
  ·rintro (h | h | h)
   ·omega
   ·omega
   ·exact h3 (by have := congrArg List.length h; simp [Lm.items] at this; simp [this])
 ·refine go ?_
  refine Sx.pv rfl ⟨by omega, by omega⟩ ?_
  refine go ?_
  refine Cx.ifp rfl (fun h3 => ?_) (fun h3 => ?_)
  ·refine go ?_
   exact Kr.two (.inr rfl) rfl rfl (LimboO.close (a := some ⟨b, 0, none⟩) (r0 := r0) (r1 := r1) (r2 := r2) m rfl rfl rfl rfl rfl rfl rfl rfl rfl rfl) (.inl ⟨.inr (.inr (List.eq_nil_of_length_eq_zero (by simpa [Lm.items] using h3))), rfl, rfl⟩)
  refine go ?_
  refine Cx.rd ?_
  refine Rx.pvs rfl ?_
  refine Rx.pv 0 rfl rfl rfl ⟨by omega, by omega⟩ rfl rfl ?_
  refine Rx.pvs rfl ?_
  refine Rx.ldbK 0 rfl rfl rfl (by rfl) rfl rfl ?_
  refine Rx.pv 0 rfl rfl rfl ⟨by omega, by omega⟩ rfl rfl ?_
  refine Rx.pvs rfl ?_
  refine Rx.ldbK 0 rfl rfl rfl (by rfl) rfl rfl ?_
  refine Rx.pvs rfl ?_
  refine Rx.one rfl rfl rfl ?_
  refine Sx.ca rfl (clone (Rd.any (a := r1) hx1 (hk1.imp (fun h => h.2.1) id)) (ones_ints _) (by omega)) ?_
  rintro v L' ⟨ra, ca, rfl, rfl⟩
  refine Sx.nil ⟨⟨⟨trivial, Has.cell rfl⟩, Has.cell rfl⟩, ?_⟩
  refine Rx.pvs rfl ?_
  refine Rx.nil ?_
  refine go ?_
  refine Kr.two (.inr rfl) rfl rfl ?_ (.inr ⟨?_, ra, ca, rfl, rfl⟩)
  ·exact Ent.cons (LimboO.close (a := some ⟨b, 0, none⟩) (r0 := r0) (r1 := r1) (r2 := r2) m rfl rfl rfl rfl rfl rfl rfl rfl rfl rfl)
  ·rintro (h | h | h)
   ·omega
   ·omega
   ·exact h3 (by have := congrArg List.length h; simp [Lm.items] at this; simp [this])
 ·refine go ?_
  refine Sx.pv rfl ⟨by omega, by omega⟩ ?_
  refine go ?_
  refine Cx.ifp rfl (fun h3 => ?_) (fun h3 => ?_)
  ·refine go ?_
   exact Kr.two (.inr rfl) rfl rfl (LimboO.close (a := some ⟨b, 0, none⟩) (r0 := r0) (r1 := r1) (r2 := r2) m rfl rfl rfl rfl rfl rfl rfl rfl rfl rfl) (.inl ⟨.inr (.inr (List.eq_nil_of_length_eq_zero (by simpa [Lm.items] using h3))), rfl, rfl⟩)
  refine go ?_
  refine Cx.rd ?_
  refine Rx.pvs rfl ?_
  refine Rx.pv 0 rfl rfl rfl ⟨by omega, by omega⟩ rfl rfl ?_
  refine Rx.pvs rfl ?_
  refine Rx.ldbK 0 rfl rfl rfl (by rfl) rfl rfl ?_
  refine Rx.pv 0 rfl rfl rfl ⟨by omega, by omega⟩ rfl rfl ?_
  refine Rx.pvs rfl ?_
  refine Rx.ldbK 0 rfl rfl rfl (by rfl) rfl rfl ?_
  refine Rx.pvs rfl ?_
  refine Rx.one rfl rfl rfl ?_
  refine Sx.ca rfl (clone (Rd.any (a := r2) hx2 (hk2.imp (fun h => h.2.1) id)) (ones_ints _) (by omega)) ?_
  rintro v L' ⟨ra, ca, rfl, rfl⟩
  refine Sx.nil ⟨⟨⟨trivial, Has.cell rfl⟩, Has.cell rfl⟩, ?_⟩
  refine Rx.pvs rfl ?_
  refine Rx.nil ?_
  refine go ?_
  refine Kr.two (.inr rfl) rfl rfl ?_ (.inr ⟨?_, ra, ca, rfl, rfl⟩)
  ·exact Ent.cons (LimboO.close (a := some ⟨b, 0, none⟩) (r0 := r0) (r1 := r1) (r2 := r2) m rfl rfl rfl rfl rfl rfl rfl rfl rfl rfl)
  ·rintro (h | h | h)
   ·omega
   ·omega
   ·exact h3 (by have := congrArg List.length h; simp [Lm.items] at this; simp [this])
end
end Go.Proofs.YtggnbdeokmdjbaaGreat


namespace Go.Proofs.YtggnbdeokmdjbaaGreat
open Go
attribute [local irreducible] Sx Cx Rx Fx Krg Ksq Kbl Klp Kr
section
variable {L F : St}
theorem bucketOpen {b o n c : Nat} {now tag : Int} {r : Option Addr} {xs : List Int} (h0 : Has L b o [.int .i64 tag]) (h1 : Has L b (o + 1) [.slice r n c]) (hn : n = xs.length) (h2 : 2 ≤ now) (h3 : now ≤ 9223372036854775807) :
  Fx Tryz.prog 233 [.pointer (some ⟨b, o, none⟩), .int .i64 now] L (fun v L' => v = .bool (openM now tag xs) ∧ L = L') := by
 subst hn
 refine Fx.mk Tryz.func233 k233 nb_ ?_
 dsimp only [c233, kG, kS, kH, kM, kN, kF, kL, envOf, Nat.reduceAdd]
 refine go ?_
 refine Sx.ld rfl h1 rfl ?_
 refine go ?_
 refine Sx.ifp rfl (fun h => ?_) (fun h => ?_)
 ·refine go ?_
  refine Sx.ld rfl (by simpa using h0) rfl ?_
  refine go ?_
  rw [w64 (n := now - 2) (by omega) (by omega)]
  refine Kr.one (.inr rfl) rfl (Ent.refl _) ⟨?_, rfl⟩
  have h' : 0 < xs.length := by omega
  simp [pick, openM, h']
 ·refine go ?_
  refine Kr.one (.inr rfl) rfl (Ent.refl _) ⟨?_, rfl⟩
  have h' : ¬ 0 < xs.length := by omega
  simp [pick, openM, h']
abbrev lptr (b : Nat) (o : Option Nat) : Value := .pointer (o.map fun j => ⟨b, 0 + j * 2, none⟩)
set_option maxHeartbeats 4000000 in
theorem limboReady {b : Nat} {m : Lm} {now : Int} {F : St} [t : Take L (some ⟨b, 0, none⟩) (LimboO m) F] (hb : m.size ≤ 100000000) (hnow : now ≤ 9223372036854775807) :
  Fx Tryz.prog 174 [.pointer (some ⟨b, 0, none⟩), .int .i64 now] L (fun v L' => ∃ ro co, v = .slice ro (readyAll now m).1.length co ∧
   L' = pt ro (Row 3 1 (readyAll now m).1.length co (ints (readyAll now m).1)) :: pt (some ⟨b, 0, none⟩) (LimboO (readyAll now m).2) :: F) := by
 refine Fx.mk Tryz.func174 k174 nb_ ?_
 dsimp only [c174, kG, kS, kH, kM, kN, kF, kL, envOf, Nat.reduceAdd]
 refine Cx.ent (Ent.trans (Ent.of t.out) (Ent.rownil 3 1)) ?_
 refine go ?_
 refine Cx.lp (α := {p : (List Int × Lm) × (Option Addr × Nat) // p.1.1.length + p.1.2.size = m.size ∧ p.1.1 ++ (readyAll now p.1.2).1 = (readyAll now m).1 ∧ (readyAll now p.1.2).2 = (readyAll now m).2})
  (fun p => [(0, .pointer (some ⟨b, 0, none⟩)), (1, .int .i64 now), (5, .slice p.1.2.1 p.1.1.1.length p.1.2.2)])
  (fun p => pt p.1.2.1 (Row 3 1 p.1.1.1.length p.1.2.2 (ints p.1.1.1)) :: pt (some ⟨b, 0, none⟩) (LimboO p.1.1.2) :: F) (fun p => p.1.1.2.cnt) ⟨(([], m), (none, 0)), by simp, by simp, rfl⟩ (sub.cons rfl (sub.cons rfl (sub.cons rfl sub.nil))) (Ent.refl _) ?_
 rintro ⟨⟨⟨out, m'⟩, ⟨ro, co⟩⟩, hsz, he1, he2⟩
 dsimp only at hsz he1 he2 ⊢
 refine go ?_
 refine Cx.ifp rfl (fun h2 => ?_) (fun h2 => ?_)
 rotate_left
 ·refine go ?_
  have hra : readyAll now m' = ([], m') := by unfold readyAll; rw [if_neg (by omega)]
  rw [hra] at he1 he2
  simp only [List.append_nil] at he1
  subst he1; subst he2
  exact Kr.one (.inr rfl) rfl (Ent.refl _) ⟨ro, co, rfl, rfl⟩
 refine Cx.openp (a := some ⟨b, 0, none⟩) rfl ?_
 rintro ⟨⟨r0, c0⟩, ⟨r1, c1⟩, ⟨r2, c2⟩⟩
 simp only [List.cons_append, List.nil_append]
 refine go ?_
 refine Cx.lp (α := {k : Nat // k ≤ 3}) (fun k => [(0, .pointer (some ⟨b, 0, none⟩)), (1, .int .i64 now), (5, .slice ro out.length co), (6, lptr b (leastUp now m' k.1)), (11, .int .i64 k.1)]) (fun _ => _) (fun k => 3 - k.1) ⟨0, by omega⟩
  (sub.cons rfl (sub.cons rfl (sub.cons rfl (sub.cons rfl (sub.cons rfl sub.nil))))) (Ent.refl _) ?_
 rintro ⟨k, hk⟩
 dsimp only
 rcases (show k = 0 ∨ k = 1 ∨ k = 2 ∨ k = 3 by omega) with rfl | rfl | rfl | rfl
 ·refine go ?_
  refine Sx.pv rfl ⟨by omega, by omega⟩ ?_
  rcases hlu : leastUp now m' 0 with _ | j
  ·refine go ?_
   refine Cx.calm kr_ ?_
   repeat' (first | (refine Cm.pvs rfl ?_) | (refine Cm.step rfl ?_) | (refine Cm.done ?_) | (refine Cm.ldb rfl rfl (by rfl) ?_) | (refine Cm.ldbs rfl rfl rfl ?_))
   refine Cm.ca rfl rfl (bucketOpen (tag := m'.t0) (xs := m'.x0) (Has.cell rfl) (Has.cell rfl) rfl h2 hnow) ?_
   cases hop : openM now m'.t0 m'.x0
   ·repeat' (first | (refine Cm.pvs rfl ?_) | (refine Cm.step rfl ?_) | (refine Cm.done ?_) | (refine Cm.ldb rfl rfl (by rfl) ?_) | (refine Cm.ldbs rfl rfl rfl ?_))
    refine go ?_
    refine Klp.nm ⟨1, by omega⟩ (sub.cons rfl (sub.cons rfl (sub.cons rfl (sub.cons (Eq.trans ?_ (congrArg (fun o => some (lptr b o)) ((leastUp_no (k := 0) hop).trans hlu : leastUp now m' 1 = _).symm)) (sub.cons rfl sub.nil))))) (Ent.refl _) (by simp)
    rfl
   ·repeat' (first | (refine Cm.pvs rfl ?_) | (refine Cm.step rfl ?_) | (refine Cm.done ?_) | (refine Cm.ldb rfl rfl (by rfl) ?_) | (refine Cm.ldbs rfl rfl rfl ?_))
    refine go ?_
    refine Klp.nm ⟨1, by omega⟩ (sub.cons rfl (sub.cons rfl (sub.cons rfl (sub.cons (Eq.trans ?_ (congrArg (fun o => some (lptr b o)) (leastUp_first (k := 0) hop hlu : leastUp now m' 1 = _).symm)) (sub.cons rfl sub.nil))))) (Ent.refl _) (by simp)
    rfl
  ·exact absurd (leastUp_lt hlu).1 (by omega)
 ·refine go ?_
  refine Sx.pv rfl ⟨by omega, by omega⟩ ?_
  rcases hlu : leastUp now m' 1 with _ | j
  ·refine go ?_
   refine Cx.calm kr_ ?_
   repeat' (first | (refine Cm.pvs rfl ?_) | (refine Cm.step rfl ?_) | (refine Cm.done ?_) | (refine Cm.ldb rfl rfl (by rfl) ?_) | (refine Cm.ldbs rfl rfl rfl ?_))
   refine Cm.ca rfl rfl (bucketOpen (tag := m'.t1) (xs := m'.x1) (Has.cell rfl) (Has.cell rfl) rfl h2 hnow) ?_
   cases hop : openM now m'.t1 m'.x1
   ·repeat' (first | (refine Cm.pvs rfl ?_) | (refine Cm.step rfl ?_) | (refine Cm.done ?_) | (refine Cm.ldb rfl rfl (by rfl) ?_) | (refine Cm.ldbs rfl rfl rfl ?_))
    refine go ?_
    refine Klp.nm ⟨2, by omega⟩ (sub.cons rfl (sub.cons rfl (sub.cons rfl (sub.cons (Eq.trans ?_ (congrArg (fun o => some (lptr b o)) ((leastUp_no (k := 1) hop).trans hlu : leastUp now m' 2 = _).symm)) (sub.cons rfl sub.nil))))) (Ent.refl _) (by simp)
    rfl
   ·repeat' (first | (refine Cm.pvs rfl ?_) | (refine Cm.step rfl ?_) | (refine Cm.done ?_) | (refine Cm.ldb rfl rfl (by rfl) ?_) | (refine Cm.ldbs rfl rfl rfl ?_))
    refine go ?_
    refine Klp.nm ⟨2, by omega⟩ (sub.cons rfl (sub.cons rfl (sub.cons rfl (sub.cons (Eq.trans ?_ (congrArg (fun o => some (lptr b o)) (leastUp_first (k := 1) hop hlu : leastUp now m' 2 = _).symm)) (sub.cons rfl sub.nil))))) (Ent.refl _) (by simp)
    rfl
  ·have hj := (leastUp_lt hlu).1
   rcases (show j = 0 by omega) with rfl
   ·refine go ?_
    refine Cx.calm kr_ ?_
    repeat' (first | (refine Cm.pvs rfl ?_) | (refine Cm.step rfl ?_) | (refine Cm.done ?_) | (refine Cm.ldb rfl rfl (by rfl) ?_) | (refine Cm.ldbs rfl rfl rfl ?_))
    refine Cm.ca rfl rfl (bucketOpen (tag := m'.t1) (xs := m'.x1) (Has.cell rfl) (Has.cell rfl) rfl h2 hnow) ?_
    cases hop : openM now m'.t1 m'.x1
    ·repeat' (first | (refine Cm.pvs rfl ?_) | (refine Cm.step rfl ?_) | (refine Cm.done ?_) | (refine Cm.ldb rfl rfl (by rfl) ?_) | (refine Cm.ldbs rfl rfl rfl ?_))
     refine go ?_
     refine Klp.nm ⟨2, by omega⟩ (sub.cons rfl (sub.cons rfl (sub.cons rfl (sub.cons (Eq.trans ?_ (congrArg (fun o => some (lptr b o)) ((leastUp_no (k := 1) hop).trans hlu : leastUp now m' 2 = _).symm)) (sub.cons rfl sub.nil))))) (Ent.refl _) (by simp)
     rfl
    ·repeat' (first | (refine Cm.pvs rfl ?_) | (refine Cm.step rfl ?_) | (refine Cm.done ?_) | (refine Cm.ldb rfl rfl (by rfl) ?_) | (refine Cm.ldbs rfl rfl rfl ?_))
     refine Cx.ifp rfl (fun h3 => ?_) (fun h3 => ?_)
     ·refine go ?_
      refine Klp.nm ⟨2, by omega⟩ (sub.cons rfl (sub.cons rfl (sub.cons rfl (sub.cons (Eq.trans ?_ (congrArg (fun o => some (lptr b o)) (leastUp_less (k := 1) hop hlu h3 : leastUp now m' 2 = _).symm)) (sub.cons rfl sub.nil))))) (Ent.refl _) (by simp)
      rfl
     ·refine go ?_
      refine Klp.nm ⟨2, by omega⟩ (sub.cons rfl (sub.cons rfl (sub.cons rfl (sub.cons (Eq.trans ?_ (congrArg (fun o => some (lptr b o)) (leastUp_keep (k := 1) hop hlu h3 : leastUp now m' 2 = _).symm)) (sub.cons rfl sub.nil))))) (Ent.refl _) (by simp)
      rfl
 ·refine go ?_
  refine Sx.pv rfl ⟨by omega, by omega⟩ ?_
  rcases hlu : leastUp now m' 2 with _ | j
  ·refine go ?_
   refine Cx.calm kr_ ?_
   repeat' (first | (refine Cm.pvs rfl ?_) | (refine Cm.step rfl ?_) | (refine Cm.done ?_) | (refine Cm.ldb rfl rfl (by rfl) ?_) | (refine Cm.ldbs rfl rfl rfl ?_))
   refine Cm.ca rfl rfl (bucketOpen (tag := m'.t2) (xs := m'.x2) (Has.cell rfl) (Has.cell rfl) rfl h2 hnow) ?_
   cases hop : openM now m'.t2 m'.x2
   ·repeat' (first | (refine Cm.pvs rfl ?_) | (refine Cm.step rfl ?_) | (refine Cm.done ?_) | (refine Cm.ldb rfl rfl (by rfl) ?_) | (refine Cm.ldbs rfl rfl rfl ?_))
    refine go ?_
    refine Klp.nm ⟨3, by omega⟩ (sub.cons rfl (sub.cons rfl (sub.cons rfl (sub.cons (Eq.trans ?_ (congrArg (fun o => some (lptr b o)) ((leastUp_no (k := 2) hop).trans hlu : leastUp now m' 3 = _).symm)) (sub.cons rfl sub.nil))))) (Ent.refl _) (by simp)
    rfl
   ·repeat' (first | (refine Cm.pvs rfl ?_) | (refine Cm.step rfl ?_) | (refine Cm.done ?_) | (refine Cm.ldb rfl rfl (by rfl) ?_) | (refine Cm.ldbs rfl rfl rfl ?_))
    refine go ?_
    refine Klp.nm ⟨3, by omega⟩ (sub.cons rfl (sub.cons rfl (sub.cons rfl (sub.cons (Eq.trans ?_ (congrArg (fun o => some (lptr b o)) (leastUp_first (k := 2) hop hlu : leastUp now m' 3 = _).symm)) (sub.cons rfl sub.nil))))) (Ent.refl _) (by simp)
    rfl
  ·have hj := (leastUp_lt hlu).1
   rcases (show j = 0 ∨ j = 1 by omega) with rfl | rfl
   ·refine go ?_
    refine Cx.calm kr_ ?_
    repeat' (first | (refine Cm.pvs rfl ?_) | (refine Cm.step rfl ?_) | (refine Cm.done ?_) | (refine Cm.ldb rfl rfl (by rfl) ?_) | (refine Cm.ldbs rfl rfl rfl ?_))
    refine Cm.ca rfl rfl (bucketOpen (tag := m'.t2) (xs := m'.x2) (Has.cell rfl) (Has.cell rfl) rfl h2 hnow) ?_
    cases hop : openM now m'.t2 m'.x2
    ·repeat' (first | (refine Cm.pvs rfl ?_) | (refine Cm.step rfl ?_) | (refine Cm.done ?_) | (refine Cm.ldb rfl rfl (by rfl) ?_) | (refine Cm.ldbs rfl rfl rfl ?_))
     refine go ?_
     refine Klp.nm ⟨3, by omega⟩ (sub.cons rfl (sub.cons rfl (sub.cons rfl (sub.cons (Eq.trans ?_ (congrArg (fun o => some (lptr b o)) ((leastUp_no (k := 2) hop).trans hlu : leastUp now m' 3 = _).symm)) (sub.cons rfl sub.nil))))) (Ent.refl _) (by simp)
     rfl
    ·repeat' (first | (refine Cm.pvs rfl ?_) | (refine Cm.step rfl ?_) | (refine Cm.done ?_) | (refine Cm.ldb rfl rfl (by rfl) ?_) | (refine Cm.ldbs rfl rfl rfl ?_))
     refine Cx.ifp rfl (fun h3 => ?_) (fun h3 => ?_)
     ·refine go ?_
      refine Klp.nm ⟨3, by omega⟩ (sub.cons rfl (sub.cons rfl (sub.cons rfl (sub.cons (Eq.trans ?_ (congrArg (fun o => some (lptr b o)) (leastUp_less (k := 2) hop hlu h3 : leastUp now m' 3 = _).symm)) (sub.cons rfl sub.nil))))) (Ent.refl _) (by simp)
      rfl
     ·refine go ?_
      refine Klp.nm ⟨3, by omega⟩ (sub.cons rfl (sub.cons rfl (sub.cons rfl (sub.cons (Eq.trans ?_ (congrArg (fun o => some (lptr b o)) (leastUp_keep (k := 2) hop hlu h3 : leastUp now m' 3 = _).symm)) (sub.cons rfl sub.nil))))) (Ent.refl _) (by simp)
      rfl
   ·refine go ?_
    refine Cx.calm kr_ ?_
    repeat' (first | (refine Cm.pvs rfl ?_) | (refine Cm.step rfl ?_) | (refine Cm.done ?_) | (refine Cm.ldb rfl rfl (by rfl) ?_) | (refine Cm.ldbs rfl rfl rfl ?_))
    refine Cm.ca rfl rfl (bucketOpen (tag := m'.t2) (xs := m'.x2) (Has.cell rfl) (Has.cell rfl) rfl h2 hnow) ?_
    cases hop : openM now m'.t2 m'.x2
    ·repeat' (first | (refine Cm.pvs rfl ?_) | (refine Cm.step rfl ?_) | (refine Cm.done ?_) | (refine Cm.ldb rfl rfl (by rfl) ?_) | (refine Cm.ldbs rfl rfl rfl ?_))
     refine go ?_
     refine Klp.nm ⟨3, by omega⟩ (sub.cons rfl (sub.cons rfl (sub.cons rfl (sub.cons (Eq.trans ?_ (congrArg (fun o => some (lptr b o)) ((leastUp_no (k := 2) hop).trans hlu : leastUp now m' 3 = _).symm)) (sub.cons rfl sub.nil))))) (Ent.refl _) (by simp)
     rfl
    ·repeat' (first | (refine Cm.pvs rfl ?_) | (refine Cm.step rfl ?_) | (refine Cm.done ?_) | (refine Cm.ldb rfl rfl (by rfl) ?_) | (refine Cm.ldbs rfl rfl rfl ?_))
     refine Cx.ifp rfl (fun h3 => ?_) (fun h3 => ?_)
     ·refine go ?_
      refine Klp.nm ⟨3, by omega⟩ (sub.cons rfl (sub.cons rfl (sub.cons rfl (sub.cons (Eq.trans ?_ (congrArg (fun o => some (lptr b o)) (leastUp_less (k := 2) hop hlu h3 : leastUp now m' 3 = _).symm)) (sub.cons rfl sub.nil))))) (Ent.refl _) (by simp)
      rfl
     ·refine go ?_
      refine Klp.nm ⟨3, by omega⟩ (sub.cons rfl (sub.cons rfl (sub.cons rfl (sub.cons (Eq.trans ?_ (congrArg (fun o => some (lptr b o)) (leastUp_keep (k := 2) hop hlu h3 : leastUp now m' 3 = _).symm)) (sub.cons rfl sub.nil))))) (Ent.refl _) (by simp)
      rfl
 ·refine go ?_
  have hall : ∀ o, leastUp now m' 3 = o → readyAll now m' = match o with
    | none => ([], m')
    | some j => (m'.items j ++ (readyAll now (m'.put j 0 [])).1, (readyAll now (m'.put j 0 [])).2) := by
   intro o ho
   unfold readyAll
   simp only [if_pos h2]
   cases o with
   | none =>
     cases hc : m'.cnt with
     | zero => rfl
     | succ c => simp [readyM, ho]
   | some j =>
     rw [cnt_put (leastUp_lt ho).1 (open_ne (leastUp_lt ho).2)]
     simp [readyM, ho]
  rcases hlu : leastUp now m' 3 with _ | j
  ·have hra := hall _ hlu
   dsimp only at hra
   rw [hra] at he1 he2
   simp only [List.append_nil] at he1
   subst he1; subst he2
   refine go ?_
   refine Kr.one (.inr rfl) rfl ?_ ⟨ro, co, rfl, rfl⟩
   refine Ent.trans (LimboO.close (a := some ⟨b, 0, none⟩) (r0 := r0) (r1 := r1) (r2 := r2) _ rfl rfl rfl rfl rfl rfl rfl rfl rfl rfl) ?_
   exact ent
  ·have hra := hall _ hlu
   have hj := (leastUp_lt hlu).1
   have hne := open_ne (leastUp_lt hlu).2
   have hsp := size_put (m := m') hj
   have hcp := cnt_put hj hne
   dsimp only at hra
   rw [hra, ← List.append_assoc] at he1
   rw [hra] at he2
   have hm1 : out.length + (m'.x0.length + m'.x1.length + m'.x2.length) = m.size := hsz
   rcases (show j = 0 ∨ j = 1 ∨ j = 2 by omega) with rfl | rfl | rfl
   ·refine go ?_
    refine Sx.rowkey (a := r0) fun hxj hnj _ hkj => ?_
    refine Sx.ap (ra := ro) rfl rfl (Rd.any (a := r0) hxj (hkj.imp (fun h => h.2.1) id)) (ones_ints _) (by simp [maxLen]; omega) (by omega) fun ra ca hc => ?_
    refine go ?_
    refine Sx.st (b := b) rfl rfl rfl rfl rfl rfl ?_
    dsimp only [lay]
    refine go ?_
    refine Klp.nm ⟨((out ++ m'.items 0, m'.put 0 0 []), (ra, ca)), by dsimp only; rw [List.length_append]; omega, he1, he2⟩ (sub.cons rfl (sub.cons rfl (sub.cons ?_ sub.nil))) ?_ (by dsimp only; omega)
    ·show _ = some (Value.slice ra (out ++ m'.items 0).length ca)
     rw [show (out ++ m'.items 0).length = out.length + m'.x0.length by simp [Lm.items]]
     rfl
    ·dsimp only
     refine Ent.trans (Ent.rownil 3 1) ?_
     refine Ent.trans (LimboO.close (a := some ⟨b, 0, none⟩) (r0 := none) (r1 := r1) (r2 := r2) (m'.put 0 0 []) rfl rfl rfl rfl rfl rfl rfl rfl rfl rfl) ?_
     rw [show (out ++ m'.items 0).length = out.length + m'.x0.length by simp [Lm.items], show ints (out ++ m'.items 0) = ints out ++ ints m'.x0 by rw [ints_append]; rfl]
     exact ent
   ·refine go ?_
    refine Sx.rowkey (a := r1) fun hxj hnj _ hkj => ?_
    refine Sx.ap (ra := ro) rfl rfl (Rd.any (a := r1) hxj (hkj.imp (fun h => h.2.1) id)) (ones_ints _) (by simp [maxLen]; omega) (by omega) fun ra ca hc => ?_
    refine go ?_
    refine Sx.st (b := b) rfl rfl rfl rfl rfl rfl ?_
    dsimp only [lay]
    refine go ?_
    refine Klp.nm ⟨((out ++ m'.items 1, m'.put 1 0 []), (ra, ca)), by dsimp only; rw [List.length_append]; omega, he1, he2⟩ (sub.cons rfl (sub.cons rfl (sub.cons ?_ sub.nil))) ?_ (by dsimp only; omega)
    ·show _ = some (Value.slice ra (out ++ m'.items 1).length ca)
     rw [show (out ++ m'.items 1).length = out.length + m'.x1.length by simp [Lm.items]]
     rfl
    ·dsimp only
     refine Ent.trans (Ent.rownil 3 1) ?_
     refine Ent.trans (LimboO.close (a := some ⟨b, 0, none⟩) (r0 := r0) (r1 := none) (r2 := r2) (m'.put 1 0 []) rfl rfl rfl rfl rfl rfl rfl rfl rfl rfl) ?_
     rw [show (out ++ m'.items 1).length = out.length + m'.x1.length by simp [Lm.items], show ints (out ++ m'.items 1) = ints out ++ ints m'.x1 by rw [ints_append]; rfl]
     exact ent
   ·refine go ?_
    refine Sx.rowkey (a := r2) fun hxj hnj _ hkj => ?_
    refine Sx.ap (ra := ro) rfl rfl (Rd.any (a := r2) hxj (hkj.imp (fun h => h.2.1) id)) (ones_ints _) (by simp [maxLen]; omega) (by omega) fun ra ca hc => ?_
    refine go ?_
    refine Sx.st (b := b) rfl rfl rfl rfl rfl rfl ?_
    dsimp only [lay]
    refine go ?_
    refine Klp.nm ⟨((out ++ m'.items 2, m'.put 2 0 []), (ra, ca)), by dsimp only; rw [List.length_append]; omega, he1, he2⟩ (sub.cons rfl (sub.cons rfl (sub.cons ?_ sub.nil))) ?_ (by dsimp only; omega)
    ·show _ = some (Value.slice ra (out ++ m'.items 2).length ca)
     rw [show (out ++ m'.items 2).length = out.length + m'.x2.length by simp [Lm.items]]
     rfl
    ·dsimp only
     refine Ent.trans (Ent.rownil 3 1) ?_
     refine Ent.trans (LimboO.close (a := some ⟨b, 0, none⟩) (r0 := r0) (r1 := r1) (r2 := none) (m'.put 2 0 []) rfl rfl rfl rfl rfl rfl rfl rfl rfl rfl) ?_
     rw [show (out ++ m'.items 2).length = out.length + m'.x2.length by simp [Lm.items], show ints (out ++ m'.items 2) = ints out ++ ints m'.x2 by rw [ints_append]; rfl]
     exact ent
end
end Go.Proofs.YtggnbdeokmdjbaaGreat


namespace Go.Proofs.YtggnbdeokmdjbaaGreat
open Go
attribute [local irreducible] Sx Cx Rx Fx Krg Ksq Kbl Klp Kr
section
variable {L F : St}
def anyOpen (now : Int) (m : Lm) : Bool := decide (2 ≤ now ∧ (m.open_ now 0 = true ∨ m.open_ now 1 = true ∨ m.open_ now 2 = true))
end
end Go.Proofs.YtggnbdeokmdjbaaGreat


namespace Go.Proofs.YtggnbdeokmdjbaaGreat
open Go
end Go.Proofs.YtggnbdeokmdjbaaGreat


namespace Go.Proofs.YtggnbdeokmdjbaaGreat
open Go
attribute [local irreducible] Sx Cx Rx Fx Krg Ksq Kbl Klp Kr
structure RTag (m : Lm) (u0 u1 u2 l : Int) : Prop where
 h0 : m.x0 ≠ [] → u0 = m.t0
 h1 : m.x1 ≠ [] → u1 = m.t1
 h2 : m.x2 ≠ [] → u2 = m.t2
 hl : l = m.last ∨ (l = -1 ∧ m.last = 0)
section
variable {L F : St}
def refL (T : TypeId) (m : Lm) (a : Option Addr) (y : ((Option Addr × Nat) × (Option Addr × Nat) × (Option Addr × Nat)) × (Int × Int × Int × Int)) : St :=
  [lift (RTag m y.2.1 y.2.2.1 y.2.2.2.1 y.2.2.2.2), pt a (Blk T [.int .i64 y.2.1, .int .i64 y.2.2.1, .int .i64 y.2.2.2.1, .slice y.1.1.1 m.x0.length y.1.1.2, .slice y.1.2.1.1 m.x1.length y.1.2.1.2, .slice y.1.2.2.1 m.x2.length y.1.2.2.2, .int .i64 y.2.2.2.2]),
   pt y.1.1.1 (Row 3 1 m.x0.length y.1.1.2 (ints m.x0)), pt y.1.2.1.1 (Row 3 1 m.x1.length y.1.2.1.2 (ints m.x1)), pt y.1.2.2.1 (Row 3 1 m.x2.length y.1.2.2.2 (ints m.x2))]
def RLimboT (T : TypeId) (m : Lm) (a : Option Addr) : As := exs (refL T m a)
abbrev RLimboO := RLimboT 181
theorem RLimboO.close {T : TypeId} {a r0 r1 r2 : Option Addr} {c0 c1 c2 n0 n1 n2 : Nat} {u0 u1 u2 l : Int} {v0 v1 v2 v3 : Value} {w0 w1 w2 : List Value} {F F0 F1 G : St} (m : Lm) (hT : RTag m u0 u1 u2 l)
  [t : Take L a (Blk T [v0, v1, v2, .slice r0 n0 c0, .slice r1 n1 c1, .slice r2 n2 c2, v3]) F] [q0 : Take F r0 (Row 3 1 n0 c0 w0) F0] [q1 : Take F0 r1 (Row 3 1 n1 c1 w1) F1] [q2 : Take F1 r2 (Row 3 1 n2 c2 w2) G]
  (h0 : v0 = .int .i64 u0) (h1 : v1 = .int .i64 u1) (h2 : v2 = .int .i64 u2) (h3 : v3 = .int .i64 l) (e0 : n0 = m.x0.length) (e1 : n1 = m.x1.length) (e2 : n2 = m.x2.length)
  (g0 : w0 = ints m.x0) (g1 : w1 = ints m.x1) (g2 : w2 = ints m.x2) : Ent L (pt a (RLimboT T m) :: G) := by
 subst h0; subst h1; subst h2; subst h3; subst e0; subst e1; subst e2; subst g0; subst g1; subst g2
 refine Ent.trans (Ent.take1 (t := t) (Ent.trans (Ent.of q0.out) (Ent.cons (Ent.trans (Ent.of q1.out) (Ent.cons (Ent.of q2.out)))))) ?_
 refine Ent.trans (Ent.lift hT (Ent.refl _)) ?_
 exact Ent.close (f := refL T m a) rfl (((r0, c0), (r1, c1), (r2, c2)), (u0, u1, u2, l))
theorem RTag.nil : RTag Lm.nil 0 0 0 (-1) := ⟨fun h => absurd rfl h, fun h => absurd rfl h, fun h => absurd rfl h, .inr ⟨rfl, rfl⟩⟩
theorem refLimboNew : Fx Tryz.prog 161 [] L (fun v L' => ∃ g, v = .pointer (some ⟨g, 0, none⟩) ∧ L' = pt (some ⟨g, 0, none⟩) (RLimboO Lm.nil) :: L) := by
 refine Fx.mk Tryz.func161 k161 nb_ ?_
 dsimp only [c161, kG, kS, kH, kM, kN, kF, kL, envOf, Nat.reduceAdd]
 refine go ?_
 refine Sx.bx rfl rfl fun g => ?_
 refine go ?_
 refine Kr.one (.inr rfl) rfl ?_ ⟨g, rfl, rfl⟩
 refine Ent.trans (Ent.rownil 3 1) (Ent.trans (Ent.rownil 3 1) (Ent.trans (Ent.rownil 3 1) ?_))
 exact RLimboO.close (a := some ⟨g, 0, none⟩) (r0 := none) (r1 := none) (r2 := none) Lm.nil RTag.nil rfl rfl rfl rfl rfl rfl rfl rfl rfl rfl
def leastI (o : Option Nat) : Int := match o with | none => -1 | some j => j
set_option maxHeartbeats 4000000 in
theorem refLeast {b : Nat} {m : Lm} {now : Int} {F : St} [t : Take L (some ⟨b, 0, none⟩) (RLimboO m) F] (h2 : 2 ≤ now) (h3 : now ≤ 9223372036854775807) :
  Fx Tryz.prog 235 [.pointer (some ⟨b, 0, none⟩), .int .i64 now] L (fun v L' => v = .int .i64 (leastI (leastUp now m 3)) ∧ L = L') := by
 refine Fx.kept (t := t) ?_
 refine Fx.mk Tryz.func235 k235 nb_ ?_
 dsimp only [c235, kG, kS, kH, kM, kN, kF, kL, envOf, Nat.reduceAdd]
 refine Cx.openp (t := t) rfl ?_
 rintro ⟨⟨⟨r0, c0⟩, ⟨r1, c1⟩, ⟨r2, c2⟩⟩, ⟨u0, u1, u2, l⟩⟩
 simp only [refL, List.cons_append, List.nil_append]
 refine Cx.liftp fun hT => ?_
 refine go ?_
 refine Cx.lp (α := {k : Nat // k ≤ 3}) (fun k => [(0, .pointer (some ⟨b, 0, none⟩)), (1, .int .i64 now), (5, .int .i64 (leastI (leastUp now m k.1))), (6, .int .i64 k.1)]) (fun _ => _) (fun k => 3 - k.1) ⟨0, by omega⟩
  (sub.cons rfl (sub.cons rfl (sub.cons rfl (sub.cons rfl sub.nil)))) (Ent.refl _) ?_
 rintro ⟨k, hk⟩
 dsimp only
 have hst : ∀ {k : Nat} {v : Int}, leastI (leastUp now m (k + 1)) = v → some (Value.int .i64 v) = some (Value.int .i64 (leastI (leastUp now m (k + 1)))) := fun h => by rw [h]
 rcases (show k = 0 ∨ k = 1 ∨ k = 2 ∨ k = 3 by omega) with rfl | rfl | rfl | rfl
 ·refine go ?_
  refine Cx.ordc rfl kr_ ?_
  refine ge ?_
  by_cases hx : m.x0 = []
  ·have ho : m.open_ now 0 = false := by simp [Lm.open_, openM, Lm.items, hx]
   refine Ev.no 19 rfl (decide_eq_false (by rw [hx]; decide)) ?_
   refine ge ?_
   refine go ?_
   exact Klp.nm ⟨0 + 1, by omega⟩ (sub.cons rfl (sub.cons rfl (sub.cons (Eq.trans rfl (hst (congrArg leastI (leastUp_no ho)))) (sub.cons rfl sub.nil)))) (Ent.refl _) (by simp)
  ·have hu := hT.h0 hx
   have hp := List.length_pos_iff.2 hx
   refine Ev.yes 19 rfl (decide_eq_true (by omega)) ?_
   refine ge ?_
   rw [w64 (n := now - 2) (by omega) (by omega)]
   by_cases h4 : m.t0 ≤ now - 2
   ·have ho : m.open_ now 0 = true := by simp [Lm.open_, openM, Lm.items, Lm.tag]; exact ⟨hp, h4⟩
    refine Ev.yes 30 rfl (decide_eq_true (by omega)) ?_
    refine ge ?_
    refine go ?_
    exact Klp.nm ⟨0 + 1, by omega⟩ (sub.cons rfl (sub.cons rfl (sub.cons (Eq.trans rfl (hst (congrArg leastI (leastUp_first ho rfl)))) (sub.cons rfl sub.nil)))) (Ent.refl _) (by simp)
   ·have ho : m.open_ now 0 = false := by simp [Lm.open_, openM, Lm.items, Lm.tag]; intro _; omega
    refine Ev.no 30 rfl (decide_eq_false (by omega)) ?_
    refine ge ?_
    refine go ?_
    exact Klp.nm ⟨0 + 1, by omega⟩ (sub.cons rfl (sub.cons rfl (sub.cons (Eq.trans rfl (hst (congrArg leastI (leastUp_no ho)))) (sub.cons rfl sub.nil)))) (Ent.refl _) (by simp)
 ·refine go ?_
  refine Cx.ordc rfl kr_ ?_
  refine ge ?_
  by_cases hx : m.x1 = []
  ·have ho : m.open_ now 1 = false := by simp [Lm.open_, openM, Lm.items, hx]
   refine Ev.no 19 rfl (decide_eq_false (by rw [hx]; decide)) ?_
   refine ge ?_
   refine go ?_
   exact Klp.nm ⟨1 + 1, by omega⟩ (sub.cons rfl (sub.cons rfl (sub.cons (Eq.trans rfl (hst (congrArg leastI (leastUp_no ho)))) (sub.cons rfl sub.nil)))) (Ent.refl _) (by simp)
  ·have hu := hT.h1 hx
   have hp := List.length_pos_iff.2 hx
   refine Ev.yes 19 rfl (decide_eq_true (by omega)) ?_
   refine ge ?_
   rw [w64 (n := now - 2) (by omega) (by omega)]
   by_cases h4 : m.t1 ≤ now - 2
   ·have ho : m.open_ now 1 = true := by simp [Lm.open_, openM, Lm.items, Lm.tag]; exact ⟨hp, h4⟩
    refine Ev.yes 30 rfl (decide_eq_true (by omega)) ?_
    refine ge ?_
    rcases hlu : leastUp now m 1 with _ | j
    ·refine Ev.yes 33 rfl (decide_eq_true (by simp [leastI])) ?_
     refine ge ?_
     refine go ?_
     exact Klp.nm ⟨1 + 1, by omega⟩ (sub.cons rfl (sub.cons rfl (sub.cons (Eq.trans rfl (hst (congrArg leastI (leastUp_first ho hlu)))) (sub.cons rfl sub.nil)))) (Ent.refl _) (by simp)
    ·refine Ev.no 33 rfl (decide_eq_false (by simp [leastI])) ?_
     have hj := leastUp_lt hlu
     rcases (show j = 0 by omega) with rfl
     ·have hv := hT.h0 (open_ne hj.2)
      refine ge ?_
      by_cases h5 : m.t1 < m.t0
      ·refine Cx.cyes rfl (decide_eq_true (by omega)) ?_
       refine go ?_
       exact Klp.nm ⟨1 + 1, by omega⟩ (sub.cons rfl (sub.cons rfl (sub.cons (Eq.trans rfl (hst (congrArg leastI (leastUp_less ho hlu h5)))) (sub.cons rfl sub.nil)))) (Ent.refl _) (by simp)
      ·refine Cx.cno rfl (decide_eq_false (by omega)) ?_
       refine go ?_
       exact Klp.nm ⟨1 + 1, by omega⟩ (sub.cons rfl (sub.cons rfl (sub.cons (Eq.trans rfl (hst (congrArg leastI (leastUp_keep ho hlu h5)))) (sub.cons rfl sub.nil)))) (Ent.refl _) (by simp)
   ·have ho : m.open_ now 1 = false := by simp [Lm.open_, openM, Lm.items, Lm.tag]; intro _; omega
    refine Ev.no 30 rfl (decide_eq_false (by omega)) ?_
    refine ge ?_
    refine go ?_
    exact Klp.nm ⟨1 + 1, by omega⟩ (sub.cons rfl (sub.cons rfl (sub.cons (Eq.trans rfl (hst (congrArg leastI (leastUp_no ho)))) (sub.cons rfl sub.nil)))) (Ent.refl _) (by simp)
 ·refine go ?_
  refine Cx.ordc rfl kr_ ?_
  refine ge ?_
  by_cases hx : m.x2 = []
  ·have ho : m.open_ now 2 = false := by simp [Lm.open_, openM, Lm.items, hx]
   refine Ev.no 19 rfl (decide_eq_false (by rw [hx]; decide)) ?_
   refine ge ?_
   refine go ?_
   exact Klp.nm ⟨2 + 1, by omega⟩ (sub.cons rfl (sub.cons rfl (sub.cons (Eq.trans rfl (hst (congrArg leastI (leastUp_no ho)))) (sub.cons rfl sub.nil)))) (Ent.refl _) (by simp)
  ·have hu := hT.h2 hx
   have hp := List.length_pos_iff.2 hx
   refine Ev.yes 19 rfl (decide_eq_true (by omega)) ?_
   refine ge ?_
   rw [w64 (n := now - 2) (by omega) (by omega)]
   by_cases h4 : m.t2 ≤ now - 2
   ·have ho : m.open_ now 2 = true := by simp [Lm.open_, openM, Lm.items, Lm.tag]; exact ⟨hp, h4⟩
    refine Ev.yes 30 rfl (decide_eq_true (by omega)) ?_
    refine ge ?_
    rcases hlu : leastUp now m 2 with _ | j
    ·refine Ev.yes 33 rfl (decide_eq_true (by simp [leastI])) ?_
     refine ge ?_
     refine go ?_
     exact Klp.nm ⟨2 + 1, by omega⟩ (sub.cons rfl (sub.cons rfl (sub.cons (Eq.trans rfl (hst (congrArg leastI (leastUp_first ho hlu)))) (sub.cons rfl sub.nil)))) (Ent.refl _) (by simp)
    ·refine Ev.no 33 rfl (decide_eq_false (by simp [leastI])) ?_
     have hj := leastUp_lt hlu
     rcases (show j = 0 ∨ j = 1 by omega) with rfl | rfl
     ·have hv := hT.h0 (open_ne hj.2)
      refine ge ?_
      by_cases h5 : m.t2 < m.t0
      ·refine Cx.cyes rfl (decide_eq_true (by omega)) ?_
       refine go ?_
       exact Klp.nm ⟨2 + 1, by omega⟩ (sub.cons rfl (sub.cons rfl (sub.cons (Eq.trans rfl (hst (congrArg leastI (leastUp_less ho hlu h5)))) (sub.cons rfl sub.nil)))) (Ent.refl _) (by simp)
      ·refine Cx.cno rfl (decide_eq_false (by omega)) ?_
       refine go ?_
       exact Klp.nm ⟨2 + 1, by omega⟩ (sub.cons rfl (sub.cons rfl (sub.cons (Eq.trans rfl (hst (congrArg leastI (leastUp_keep ho hlu h5)))) (sub.cons rfl sub.nil)))) (Ent.refl _) (by simp)
     ·have hv := hT.h1 (open_ne hj.2)
      refine ge ?_
      by_cases h5 : m.t2 < m.t1
      ·refine Cx.cyes rfl (decide_eq_true (by omega)) ?_
       refine go ?_
       exact Klp.nm ⟨2 + 1, by omega⟩ (sub.cons rfl (sub.cons rfl (sub.cons (Eq.trans rfl (hst (congrArg leastI (leastUp_less ho hlu h5)))) (sub.cons rfl sub.nil)))) (Ent.refl _) (by simp)
      ·refine Cx.cno rfl (decide_eq_false (by omega)) ?_
       refine go ?_
       exact Klp.nm ⟨2 + 1, by omega⟩ (sub.cons rfl (sub.cons rfl (sub.cons (Eq.trans rfl (hst (congrArg leastI (leastUp_keep ho hlu h5)))) (sub.cons rfl sub.nil)))) (Ent.refl _) (by simp)
   ·have ho : m.open_ now 2 = false := by simp [Lm.open_, openM, Lm.items, Lm.tag]; intro _; omega
    refine Ev.no 30 rfl (decide_eq_false (by omega)) ?_
    refine ge ?_
    refine go ?_
    exact Klp.nm ⟨2 + 1, by omega⟩ (sub.cons rfl (sub.cons rfl (sub.cons (Eq.trans rfl (hst (congrArg leastI (leastUp_no ho)))) (sub.cons rfl sub.nil)))) (Ent.refl _) (by simp)
 ·refine go ?_
  refine Kr.one (.inr rfl) rfl ?_ ⟨rfl, rfl⟩
  exact RLimboO.close (a := some ⟨b, 0, none⟩) (r0 := r0) (r1 := r1) (r2 := r2) m hT rfl rfl rfl rfl rfl rfl rfl rfl rfl rfl
end
end Go.Proofs.YtggnbdeokmdjbaaGreat


namespace Go.Proofs.YtggnbdeokmdjbaaGreat
open Go
attribute [local irreducible] Sx Cx Rx Fx Krg Ksq Kbl Klp Kr
theorem mm_ext {a b : Mm} (hl : a.ws.length = b.ws.length) (hn : a.n = b.n) (h : ∀ i, a.at_ i = b.at_ i) : a = b := by
 obtain ⟨aw, an⟩ := a
 obtain ⟨bw, bn⟩ := b
 simp only at hl hn
 subst hn
 congr 1
 refine List.ext_getElem hl fun i h1 h2 => ?_
 have := h i
 simp only [Mm.at_, List.getD_eq_getElem?_getD, List.getElem?_eq_getElem h1, List.getElem?_eq_getElem h2, Option.getD_some] at this
 exact this
def rUp (k : Sk) (m : Mm) : Nat → Mm
 | 0 => m.lay k.head 1
 | i + 1 => if i + 1 = k.n then ((rUp k m i).lay (k.links + i) ((i + 2) % (k.n + 1))).lay (k.links + i) 0 else (rUp k m i).lay (k.links + i) ((i + 2) % (k.n + 1))
theorem rUp_len (k : Sk) (m : Mm) : ∀ i, (rUp k m i).ws.length = m.ws.length
 | 0 => Mm.len_lay
 | i + 1 => by
   unfold rUp
   split <;> simp only [Mm.len_lay] <;> exact rUp_len k m i
theorem rUp_n (k : Sk) (m : Mm) : ∀ i, (rUp k m i).n = m.n
 | 0 => rfl
 | i + 1 => by
   unfold rUp
   split <;> exact rUp_n k m i
theorem rUp_at {k : Sk} {m : Mm} {len : Nat} (hk : k.ok len) (hl : m.ws.length = len) : ∀ i, i ≤ k.n → ∀ a, (rUp k m i).at_ a = if k.head = a then 1 else if k.links ≤ a ∧ a < k.links + i then (if a - k.links + 1 = k.n then 0 else a - k.links + 2) else m.at_ a
 | 0, _, a => by
   have := hk.h
   unfold rUp
   rw [Mm.at_lay _ (by omega)]
   split
   ·rfl
   ·rw [if_neg (by omega)]
 | i + 1, hi, a => by
   have ih := rUp_at hk hl i (by omega)
   have hll := rUp_len k m i
   have h1 := hk.l; have h2 := hk.a
   unfold rUp
   split
   ·rename_i he
    rw [Mm.at_lay _ (by rw [Mm.len_lay]; omega), Mm.at_lay _ (by omega), ih]
    by_cases e : k.links + i = a
    ·rw [if_pos e, if_neg (by omega), if_pos (by omega), if_pos (by omega)]
    ·rw [if_neg e, if_neg e]
     by_cases hh : k.head = a
     ·rw [if_pos hh, if_pos hh]
     ·rw [if_neg hh, if_neg hh]
      by_cases hr : k.links ≤ a ∧ a < k.links + i
      ·rw [if_pos hr, if_pos (show k.links ≤ a ∧ a < k.links + (i + 1) by omega)]
      ·rw [if_neg hr, if_neg (show ¬ (k.links ≤ a ∧ a < k.links + (i + 1)) by omega)]
   ·rename_i he
    rw [Mm.at_lay _ (by omega), ih]
    by_cases e : k.links + i = a
    ·rw [if_pos e, if_neg (by omega), if_pos (by omega), if_neg (by omega), Nat.mod_eq_of_lt (by omega)]; omega
    ·rw [if_neg e]
     by_cases hh : k.head = a
     ·rw [if_pos hh, if_pos hh]
     ·rw [if_neg hh, if_neg hh]
      by_cases hr : k.links ≤ a ∧ a < k.links + i
      ·rw [if_pos hr, if_pos (show k.links ≤ a ∧ a < k.links + (i + 1) by omega)]
      ·rw [if_neg hr, if_neg (show ¬ (k.links ≤ a ∧ a < k.links + (i + 1)) by omega)]
theorem rUp_fill {k : Sk} {m : Mm} {len : Nat} (hk : k.ok len) (hl : m.ws.length = len) : rUp k m k.n = fillM k m := by
 have k1 := hk.n1; have k3 := hk.h; have k4 := hk.l; have k5 := hk.a
 have hu := fillUp_at (k := k) (m := m) (i := k.n) (by omega)
 have hul := fillUp_len k m k.n
 refine mm_ext ?_ ?_ fun a => ?_
 ·rw [rUp_len, fillM_len]
 ·rw [rUp_n, fillM_n]
 ·rw [rUp_at hk hl k.n (Nat.le_refl _)]
  unfold fillM
  rw [Mm.at_lay _ (by rw [Mm.len_lay]; omega), Mm.at_lay _ (by omega)]
  by_cases hh : k.head = a
  ·rw [if_pos hh, if_pos hh]
  ·rw [if_neg hh, if_neg hh]
   by_cases hr : k.links ≤ a ∧ a < k.links + k.n
   ·rw [if_pos hr]
    by_cases e : k.links + k.n - 1 = a
    ·rw [if_pos e, if_pos (by omega)]
    ·rw [if_neg e, if_neg (by omega)]
     have := hu.1 (a - k.links) (by omega)
     rw [show k.links + (a - k.links) = a by omega] at this
     exact this.symm
   ·rw [if_neg hr, if_neg (by omega)]
    exact (hu.2 a (fun j hj => by omega)).symm
section
variable {L F G : St}
def rmemL (T : TypeId) (m : Mm) (a : Option Addr) (y : Option Addr × Nat) : St :=
 [lift (m.ok ∧ m.ws.length ≤ 8388608), pt a (Blk T [.slice y.1 m.ws.length y.2, .int .i64 (IntKind.i64.wrap (m.n : Int))]), pt y.1 (Row 89 1 m.ws.length y.2 (us m.ws))]
def RMemT (T : TypeId) (m : Mm) (a : Option Addr) : As := exs (rmemL T m a)
abbrev RMemO := RMemT 94
theorem RMemO.close {T : TypeId} {a r : Option Addr} {c n : Nat} {v : Value} {w : List Value} {F G : St} (m : Mm) (hm : m.ok ∧ m.ws.length ≤ 8388608) [t : Take L a (Blk T [.slice r n c, v]) F] [u : Take F r (Row 89 1 n c w) G]
  (hv : v = .int .i64 (IntKind.i64.wrap (m.n : Int))) (hn : n = m.ws.length) (hw : w = us m.ws) : Ent L (pt a (RMemT T m) :: G) := by
 subst hv; subst hn; subst hw
 refine Ent.trans (Ent.take1 (t := t) (Ent.of u.out)) ?_
 refine Ent.trans (Ent.lift hm (Ent.refl _)) ?_
 exact Ent.close (f := rmemL T m a) rfl (r, c)
theorem rmemNew (n : Nat) (h2 : n ≤ 8388608) : Fx Tryz.prog 156 [.int .i64 n] L (fun v L' => ∃ g, v = .pointer (some ⟨g, 0, none⟩) ∧ L' = pt (some ⟨g, 0, none⟩) (RMemO ⟨List.replicate n 0, 0⟩) :: L) := by
 refine Fx.mk Tryz.func156 k156 nb_ ?_
 dsimp only [c156, kG, kS, kH, kM, kN, kF, kL, envOf, Nat.reduceAdd]
 refine go ?_
 refine Sx.mk rfl rfl (by omega) (by omega) (by omega) (by omega) fun g => ?_
 refine go ?_
 refine Sx.bx rfl rfl fun q => ?_
 refine go ?_
 refine Kr.one (.inr rfl) rfl ?_ ⟨q, rfl, rfl⟩
 have hu : us (List.replicate n 0) = List.replicate n (.int .u64 0) := by simp [us, wd]
 refine RMemO.close (a := some ⟨q, 0, none⟩) (r := some ⟨g, 0, none⟩) ⟨List.replicate n 0, 0⟩ ⟨fun w hw => ?_, ?_⟩ rfl (by simp) ?_
 ·rw [List.eq_of_mem_replicate hw]; omega
 ·simpa using h2
 ·rw [hu, made_one]; simp
theorem refAt {x : Cn} (hx : x.ok) (fr : Int) (many i : Nat) (hi : i < many) (hf : 0 ≤ fr ∧ fr + i ≤ 1000000000) (hm : many ≤ 1000000000) : Fx Tryz.prog 109 [x.v, .int .i64 fr, .int .i64 many, .int .i64 i] L (fun v L' => v = .int .i64 (fr + i) ∧ L = L') := by
 refine Fx.mk Tryz.func109 k109 nb_ ?_
 dsimp only [c109, kG, kS, kH, kM, kN, kF, kL, envOf, Nat.reduceAdd]
 refine Cx.sq ?_
 refine Cx.rg ?_
 refine Sx.bx rfl rfl fun g => ?_
 refine go ?_
 refine Sx.ca rfl (refMay_ (x.w : Int) x.c x.wd x.sl x.ca x.ba) ?_
 rintro v L' ⟨rfl, rfl⟩
 rw [decide_eq_true (show MayC (x.w : Int) x.c x.wd x.sl x.ca x.ba from hx)]
 refine go ?_
 iterate 2 (try (refine Sx.gyes rfl (decide_eq_false (by omega)) ?_; refine go ?_))
 refine Cx.cno rfl (decide_eq_false (by omega)) ?_
 refine go ?_
 rw [w64 (n := fr + i) (by omega) (by omega)]
 exact Kr.one (.inr rfl) rfl Ent.drop ⟨rfl, rfl⟩
end
end Go.Proofs.YtggnbdeokmdjbaaGreat


namespace Go.Proofs.YtggnbdeokmdjbaaGreat
open Go
theorem lay1 {cs : List Value} {off : Nat} {u : Value} (h : off < cs.length) : lay cs off [u] = cs.set off u := by
 have := lay_cons cs off u [] (by simp; omega)
 rw [← this, lay_nil]
section
variable {P : Program} {N : Nat} {L F : St} {Kf : En → St → Prop} {e : En} {r : List It} {ms : List (Nat × (St → Prop))} {i ds sz : Nat} {rs : List Nat} {d : Option Nat} {g : Option (Nat × Bool)}
theorem Ev.strH {x v : X} {b off E n cap : Nat} {xs ys : List Value} {u : Value} [t : Take L (some ⟨b, 0, none⟩) (Row E sz n cap xs) F] (hd : lastly i r = true) (hg : gon (e.only rs) g = true)
  (hx : x.get (e.only rs) = some (.pointer (some ⟨b, off, none⟩))) (hv : v.get (e.only rs) = some u) (hu : cellsOf u = some [u]) (h1 : u.oneCell' = true) (hl : off < xs.length) (hy : xs.set off u = ys)
  (hp : Pres ds (fun v L' => v = undef ∧ L' = pt (some ⟨b, 0, none⟩) (Row E sz n cap ys) :: F) ms)
  (k : Ev P N Kf r ms (e.put d undef) (pt (some ⟨b, 0, none⟩) (Row E sz n cap ys) :: F)) : Ev P N Kf (⟨i, ds, rs, ⟨d, g, .st x v 1⟩⟩ :: r) ms e L :=
 .genH hd hp hg (fun e' hs K kk => Sx.str (t := t) (X.get_sub hx hs) (X.get_sub hv hs) hu rfl (by simp [ones, h1]) hl (by rw [lay1 hl, hy]) (Sx.nil (kk _ _ ⟨rfl, rfl⟩)))
  (fun v L' ⟨e1, e2⟩ => by subst e1; subst e2; exact k)
theorem Sx.str1 {l : List G} {K : En → St → Prop} {x v : X} {b off E n cap : Nat} {xs ys : List Value} {u : Value} [t : Take L (some ⟨b, 0, none⟩) (Row E sz n cap xs) F] (hx : x.get e = some (.pointer (some ⟨b, off, none⟩))) (hv : v.get e = some u)
  (hu : cellsOf u = some [u]) (h1 : u.oneCell' = true) (hl : off < xs.length) (hy : xs.set off u = ys) (k : Sx P N l (e.put d undef) K (pt (some ⟨b, 0, none⟩) (Row E sz n cap ys) :: F)) :
  Sx P N (⟨d, none, .st x v 1⟩ :: l) e K L := Sx.str hx hv hu rfl (by simp [ones, h1]) hl (by rw [lay1 hl, hy]) k
end
end Go.Proofs.YtggnbdeokmdjbaaGreat


namespace Go.Proofs.YtggnbdeokmdjbaaGreat
open Go
attribute [local irreducible] Sx Cx Rx Fx Krg Ksq Kbl Klp Kr
theorem natTmod (a b : Nat) : ((a : Int)).tmod (b : Int) = ((a % b : Nat) : Int) := by
 rw [Int.tmod_eq_emod_of_nonneg (Int.natCast_nonneg a)]
 exact (Int.natCast_emod a b).symm
section
variable {L F G : St}
abbrev RSkO (mp : Nat) (k : Sk) : Option Addr → As := Blk 147 (skV mp k)
theorem refPutHead (i : Int) (t : Nat) (h1 : -1 ≤ i) (h2 : i < 4294967295) (ht : t < 4294967296) : Fx Tryz.prog 226 [hdV i t] L (fun v L' => v = .tuple #[wd (t * 4294967296 + (i + 1).toNat), .bool true] ∧ L = L') := by
 refine Fx.mk Tryz.func226 k226 nb_ ?_
 dsimp only [c226, kG, kS, kH, kM, kN, kF, kL, envOf, Nat.reduceAdd]
 refine Cx.sq ?_
 refine Cx.rg ?_
 refine Sx.bx rfl rfl fun g => ?_
 refine go ?_
 iterate 3 (try (refine Sx.gyes rfl (decide_eq_false (by omega)) ?_; refine go ?_))
 refine Cx.cno rfl (decide_eq_false (by omega)) ?_
 refine go ?_
 rw [wrap64 (n := t) (by omega), w64 (n := i + 1) (by omega) (by omega), show i + 1 = (((i + 1).toNat : Nat) : Int) by omega, wrap64 (n := (i + 1).toNat) (by omega), show (t : Int) * 4294967296 = ((t * 4294967296 : Nat) : Int) by omega, wrap64 (n := t * 4294967296) (by omega),
  show ((t * 4294967296 : Nat) : Int) + ((i + 1).toNat : Nat) = ((t * 4294967296 + (i + 1).toNat : Nat) : Int) by omega, wrap64 (n := t * 4294967296 + (i + 1).toNat) (by omega)]
 exact Kr.two (.inr rfl) rfl rfl Ent.drop ⟨rfl, rfl⟩
theorem Cn.ok.b {x : Cn} (hx : x.ok) : x.w ≤ 64 ∧ x.c ≤ 4096 ∧ x.wd ≤ 1024 ∧ x.sl ≤ 4096 ∧ x.ca ≤ 64 ∧ x.ba ≤ 8 ∧ 1 ≤ x.w ∧ 1 ≤ x.c ∧ 8 ≤ x.wd ∧ 1 ≤ x.sl ∧ 1 ≤ x.ba := by
 obtain ⟨h1, h2, h3, h4, h5, h6, h7⟩ := hx
 omega
theorem refLen {x : Cn} (hx : x.ok) : Fx Tryz.prog 157 [x.v] L (fun v L' => v = .int .i64 (x.len : Int) ∧ L = L') := by
 obtain ⟨b1, b2, b3, b4, b5, b6, b7⟩ := hx.b
 have hmul : x.c * x.wd ≤ 4194304 := by have := Nat.mul_le_mul b2 b3; omega
 refine Fx.mk Tryz.func157 k157 nb_ ?_
 dsimp only [c157, kG, kS, kH, kM, kN, kF, kL, envOf, Nat.reduceAdd]
 refine Cx.sq ?_
 refine Cx.rg ?_
 refine Sx.bx rfl rfl fun g => ?_
 refine go ?_
 refine Sx.ca rfl (refMay_ (x.w : Int) x.c x.wd x.sl x.ca x.ba) ?_
 rintro v L' ⟨rfl, rfl⟩
 rw [decide_eq_true (show MayC (x.w : Int) x.c x.wd x.sl x.ca x.ba from hx)]
 refine go ?_
 rw [show (x.c : Int) * x.wd = ((x.c * x.wd : Nat) : Int) by push_cast; rfl, w64 (n := (3 : Int) + x.w) (by omega) (by omega), w64 (n := (2 : Int) * x.sl) (by omega) (by omega), w64 (n := (3 : Int) + x.w + 2 * x.sl) (by omega) (by omega), w64 (n := (3 : Int) + x.w + 2 * x.sl + x.c) (by omega) (by omega),
  w64 (n := ((x.c * x.wd : Nat) : Int)) (by omega) (by omega), w64 (n := (3 : Int) + x.w + 2 * x.sl + x.c + ((x.c * x.wd : Nat) : Int)) (by omega) (by omega)]
 refine Kr.one (.inr rfl) rfl Ent.drop ⟨congrArg (Value.int .i64) ?_, rfl⟩
 unfold Cn.len; omega
theorem refLink {x : Cn} (hx : x.ok) (i : Nat) (hi : i < x.c) : Fx Tryz.prog 158 [x.v, .int .i64 i] L (fun v L' => v = .int .i64 ((x.link + i : Nat) : Int) ∧ L = L') := by
 obtain ⟨b1, b2, b3, b4, b5, b6, b7⟩ := hx.b
 refine Fx.mk Tryz.func158 k158 nb_ ?_
 dsimp only [c158, kG, kS, kH, kM, kN, kF, kL, envOf, Nat.reduceAdd]
 refine Cx.sq ?_
 refine Cx.rg ?_
 refine Sx.bx rfl rfl fun g => ?_
 refine go ?_
 rw [w64 (n := (3 : Int) + x.w) (by omega) (by omega), w64 (n := (2 : Int) * x.sl) (by omega) (by omega), w64 (n := (3 : Int) + x.w + 2 * x.sl) (by omega) (by omega)]
 refine Sx.ca rfl (refAt hx ((3 : Int) + x.w + 2 * x.sl) x.c i hi (by omega) (by omega)) ?_
 rintro v L' ⟨rfl, rfl⟩
 refine go ?_
 refine Kr.one (.inr rfl) rfl Ent.drop ⟨congrArg (Value.int .i64) ?_, rfl⟩
 unfold Cn.link; omega
theorem refSlot {x : Cn} (hx : x.ok) (i : Nat) (hi : i < x.sl) : Fx Tryz.prog 68 [x.v, .int .i64 i] L (fun v L' => v = .int .i64 ((x.slot + i : Nat) : Int) ∧ L = L') := by
 obtain ⟨b1, b2, b3, b4, b5, b6, b7⟩ := hx.b
 refine Fx.mk Tryz.func68 k68 nb_ ?_
 dsimp only [c68, kG, kS, kH, kM, kN, kF, kL, envOf, Nat.reduceAdd]
 refine Cx.sq ?_
 refine Cx.rg ?_
 refine Sx.bx rfl rfl fun g => ?_
 refine go ?_
 rw [w64 (n := (3 : Int) + x.w) (by omega) (by omega), w64 (n := (3 : Int) + x.w + x.sl) (by omega) (by omega)]
 refine Sx.ca rfl (refAt hx ((3 : Int) + x.w + x.sl) x.sl i hi (by omega) (by omega)) ?_
 rintro v L' ⟨rfl, rfl⟩
 refine go ?_
 refine Kr.one (.inr rfl) rfl Ent.drop ⟨congrArg (Value.int .i64) ?_, rfl⟩
 unfold Cn.slot; omega
theorem refPin {x : Cn} (hx : x.ok) (i : Nat) (hi : i < x.w) : Fx Tryz.prog 33 [x.v, .int .i64 i] L (fun v L' => v = .int .i64 ((3 + i : Nat) : Int) ∧ L = L') := by
 obtain ⟨b1, b2, b3, b4, b5, b6, b7⟩ := hx.b
 refine Fx.mk Tryz.func33 k33 nb_ ?_
 dsimp only [c33, kG, kS, kH, kM, kN, kF, kL, envOf, Nat.reduceAdd]
 refine Cx.sq ?_
 refine Cx.rg ?_
 refine Sx.bx rfl rfl fun g => ?_
 refine go ?_
 refine Sx.ca rfl (refAt hx (3 : Int) x.w i hi (by omega) (by omega)) ?_
 rintro v L' ⟨rfl, rfl⟩
 refine go ?_
 refine Kr.one (.inr rfl) rfl Ent.drop ⟨congrArg (Value.int .i64) ?_, rfl⟩
 omega
set_option maxHeartbeats 2000000 in
theorem refFill {sb mp : Nat} {k : Sk} {m : Mm} (hk : k.ok m.ws.length) [t : Take L (some ⟨mp, 0, none⟩) (RMemO m) F] [s : Take F (some ⟨sb, 0, none⟩) (RSkO mp k) G] :
  Fx Tryz.prog 159 [.pointer (some ⟨sb, 0, none⟩)] L (fun v L' => L' = pt (some ⟨mp, 0, none⟩) (RMemO (fillM k m)) :: F) := by
 have hfill := rUp_fill hk rfl
 have hk0 := hk
 obtain ⟨k1, k2, k3, k4, k5, k6⟩ := hk
 refine Fx.mk Tryz.func159 k159 nb_ ?_
 dsimp only [c159, kG, kS, kH, kM, kN, kF, kL, envOf, Nat.reduceAdd]
 refine Cx.ent (Ent.trans (Ent.of t.out) (Ent.cons (Ent.of s.out))) ?_
 refine Cx.openp (a := some ⟨mp, 0, none⟩) rfl ?_
 rintro ⟨r, c⟩
 simp only [rmemL, List.cons_append, List.nil_append]
 refine Cx.liftp fun hm => ?_
 refine Cx.rowkey (a := r) fun hx0 hn0 _ hk1 => ?_
 obtain ⟨rg, rfl⟩ : ∃ g, r = some ⟨g, 0, none⟩ := by
  rcases hk1 with h | h
  ·omega
  ·exact h
 refine go ?_
 refine Sx.ca rfl (refPutHead 0 0 (by omega) (by omega) (by omega)) ?_
 rintro v L' ⟨rfl, rfl⟩
 refine go ?_
 refine Cx.ordc rfl kr_ ?_
 refine ge ?_
 refine Ev.strH (b := rg) kr_ rfl rfl rfl rfl rfl (by rw [length_us]; simp; omega) rfl (Pres.deps kr_) ?_
 refine ge ?_
 refine go ?_
 have hset : (us m.ws).set (0 + (k.head : Int).toNat * 1) (wd (0 * 4294967296 + (0 + 1 : Int).toNat)) = us (rUp k m 0).ws := by
  rw [show 0 + (k.head : Int).toNat * 1 = k.head by simp]
  exact us_set m.ws k.head 1
 refine Cx.lp (α := {i : Nat // i ≤ k.n}) (fun i => [(0, .pointer (some ⟨sb, 0, none⟩)), (4, .int .i64 i.1)])
  (fun i => pt (some ⟨rg, 0, none⟩) (Row 89 1 m.ws.length c (us (rUp k m i.1).ws)) :: pt (some ⟨mp, 0, none⟩) (Blk 94 [.slice (some ⟨rg, 0, none⟩) m.ws.length c, .int .i64 (IntKind.i64.wrap (m.n : Int))]) :: pt (some ⟨sb, 0, none⟩) (RSkO mp k) :: G)
  (fun i => k.n - i.1) ⟨0, by omega⟩ (sub.cons rfl (sub.cons rfl sub.nil)) (by rw [← hset]; exact Ent.refl _) ?_
 rintro ⟨i, hi⟩
 dsimp only
 have hil := rUp_len k m i
 have hul : (us (rUp k m i).ws).length = m.ws.length := by rw [length_us, hil]
 refine go ?_
 refine Cx.ifp rfl (fun h => ?_) (fun h => ?_)
 ·refine go ?_
  refine Cx.ordc rfl kr_ ?_
  refine ge ?_
  rw [w64 (n := (k.links : Int) + i) (by omega) (by omega), w64 (n := (i : Int) + 2) (by omega) (by omega), w64 (n := (k.n : Int) + 1) (by omega) (by omega)]
  refine Ev.pvH kr_ rfl rfl (by omega) ?_
  have hmlt : (i + 2) % (k.n + 1) < k.n + 1 := Nat.mod_lt _ (by omega)
  rw [show (i : Int) + 2 = ((i + 2 : Nat) : Int) by omega, show (k.n : Int) + 1 = ((k.n + 1 : Nat) : Int) by omega, natTmod]
  refine ge ?_
  rw [wrap64 (n := (i + 2) % (k.n + 1)) (by omega)]
  refine Ev.strH (b := rg) kr_ rfl rfl rfl rfl rfl (by rw [hul]; simp; omega) rfl (Pres.deps kr_) ?_
  refine ge ?_
  rw [show (us (rUp k m i).ws).set (0 + ((k.links : Int) + i).toNat * 1) (.int .u64 (((i + 2) % (k.n + 1) : Nat) : Int)) = us ((rUp k m i).lay (k.links + i) ((i + 2) % (k.n + 1))).ws by
   rw [show 0 + ((k.links : Int) + i).toNat * 1 = k.links + i by omega]
   exact us_set _ _ _]
  have hul2 : (us ((rUp k m i).lay (k.links + i) ((i + 2) % (k.n + 1))).ws).length = m.ws.length := by rw [length_us, Mm.len_lay, hil]
  refine go ?_
  rw [w64 (n := (k.n : Int) - 1) (by omega) (by omega)]
  refine Cx.ifp rfl (fun h2 => ?_) (fun h2 => ?_)
  ·have e : rUp k m (i + 1) = ((rUp k m i).lay (k.links + i) ((i + 2) % (k.n + 1))).lay (k.links + i) 0 := by rw [rUp.eq_def]; simp only; rw [if_pos (by omega)]
   refine go ?_
   refine Cx.orde rfl kr_ ?_
   refine ge ?_
   rw [w64 (n := (k.links : Int) + i) (by omega) (by omega)]
   refine ge ?_
   refine Ev.strH (b := rg) kr_ rfl rfl rfl rfl rfl (by rw [hul2]; simp; omega) rfl (Pres.deps kr_) ?_
   refine ge ?_
   rw [show (us ((rUp k m i).lay (k.links + i) ((i + 2) % (k.n + 1))).ws).set (0 + ((k.links : Int) + i).toNat * 1) (.int .u64 0) = us (rUp k m (i + 1)).ws by
    rw [show 0 + ((k.links : Int) + i).toNat * 1 = k.links + i by omega, e]
    exact us_set _ _ 0]
   refine go ?_
   rw [w64 (n := (i : Int) + 1) (by omega) (by omega)]
   exact Klp.nm ⟨i + 1, by omega⟩ (sub.cons rfl (sub.cons rfl sub.nil)) (Ent.refl _) (by dsimp only; omega)
  ·have e : rUp k m (i + 1) = (rUp k m i).lay (k.links + i) ((i + 2) % (k.n + 1)) := by rw [rUp.eq_def]; simp only; rw [if_neg (by omega)]
   rw [← e]
   refine go ?_
   rw [w64 (n := (i : Int) + 1) (by omega) (by omega)]
   exact Klp.nm ⟨i + 1, by omega⟩ (sub.cons rfl (sub.cons rfl sub.nil)) (Ent.refl _) (by dsimp only; omega)
 ·have hin : i = k.n := by omega
  subst hin
  refine go ?_
  refine Kr.none (.inl rfl) ?_ rfl
  have hl2 : (fillM k m).ws.length = m.ws.length := fillM_len k m
  refine Ent.trans ?_ (Ent.cons (Ent.of s.back))
  refine RMemO.close (a := some ⟨mp, 0, none⟩) (r := some ⟨rg, 0, none⟩) (fillM k m) ⟨fillM_ok hm.1 k2, by rw [hl2]; exact hm.2⟩ ?_ hl2.symm ?_
  ·rw [fillM_n]
  ·rw [hfill]
end
end Go.Proofs.YtggnbdeokmdjbaaGreat


namespace Go.Proofs.YtggnbdeokmdjbaaGreat
open Go
attribute [local irreducible] Sx Cx Rx Fx Krg Ksq Kbl Klp Kr
section
variable {L F G : St}
abbrev RWO (x : Cn) (rm rp rs re : Nat) : Option Addr → As := Blk 57 (x.l ++ [.pointer (some ⟨rm, 0, none⟩), .pointer (some ⟨rp, 0, none⟩), .pointer (some ⟨rs, 0, none⟩), .pointer (some ⟨re, 0, none⟩)])
abbrev REpO (x : Cn) (rm : Nat) : Option Addr → As := Blk 171 [.pointer (some ⟨rm, 0, none⟩), .int .i64 2, .int .i64 3, .int .i64 x.w]
def zeroM (x : Cn) : Mm := ⟨List.replicate x.len 0, 0⟩
theorem zeroM_len (x : Cn) : (zeroM x).ws.length = x.len := by simp [zeroM]
set_option maxHeartbeats 2000000 in
theorem refWNew {x : Cn} (hx : x.ok) : Fx Tryz.prog 66 [x.v] L (fun v L' => ∃ w rm rp rs re, v = .pointer (some ⟨w, 0, none⟩) ∧
  L' = pt (some ⟨w, 0, none⟩) (RWO x rm rp rs re) :: pt (some ⟨rm, 0, none⟩) (RMemO (fillM x.spare (fillM x.pool (zeroM x)))) :: pt (some ⟨rp, 0, none⟩) (RSkO rm x.pool) :: pt (some ⟨rs, 0, none⟩) (RSkO rm x.spare) :: pt (some ⟨re, 0, none⟩) (REpO x rm) :: L) := by
 obtain ⟨b1, b2, b3, b4, b5, b6, b7⟩ := hx.b
 have hlen := hx.len_le
 refine Fx.mk Tryz.func66 k66 nb_ ?_
 dsimp only [c66, kG, kS, kH, kM, kN, kF, kL, envOf, Nat.reduceAdd]
 refine Cx.sq ?_
 refine Cx.rg ?_
 refine Sx.bx rfl rfl fun g => ?_
 refine go ?_
 refine Sx.ca rfl (refLen hx) ?_
 rintro v L' ⟨rfl, rfl⟩
 refine go ?_
 refine Sx.ca rfl (rmemNew x.len hlen) ?_
 rintro v L' ⟨rm, rfl, rfl⟩
 refine go ?_
 refine Sx.bx rfl rfl fun w => ?_
 refine go ?_
 refine Cx.ordc rfl kr_ ?_
 refine ge ?_
 refine Ev.cakH kr_ rfl rfl (refLink hx 0 (by omega)) ?_
 refine ge ?_
 refine Ev.bxH kr_ rfl rfl rfl (Pres.deps kr_) fun rp => ?_
 refine ge ?_
 refine Ev.stbH (b := w) kr_ rfl rfl rfl rfl rfl (by rfl) rfl (Pres.deps kr_) ?_
 refine ge ?_
 refine go ?_
 refine Cx.ordc rfl kr_ ?_
 refine ge ?_
 refine Ev.cakH kr_ rfl rfl (refSlot hx 0 (by omega)) ?_
 refine ge ?_
 refine Ev.bxH kr_ rfl rfl rfl (Pres.deps kr_) fun rs => ?_
 refine ge ?_
 refine Ev.stbH (b := w) kr_ rfl rfl rfl rfl rfl (by rfl) rfl (Pres.deps kr_) ?_
 refine ge ?_
 refine go ?_
 refine Cx.ordc rfl kr_ ?_
 refine ge ?_
 refine Ev.cakH kr_ rfl rfl (refPin hx 0 (by omega)) ?_
 refine ge ?_
 refine Ev.bxH kr_ rfl rfl rfl (Pres.deps kr_) fun re => ?_
 refine ge ?_
 refine Ev.stbH (b := w) kr_ rfl rfl rfl rfl rfl (by rfl) rfl (Pres.deps kr_) ?_
 refine ge ?_
 refine go ?_
 refine Sx.ca rfl (refFill (sb := rp) (mp := rm) (k := x.pool) (m := zeroM x) (hx.pool (by rw [zeroM_len]; exact Nat.le_refl _) (by rw [zeroM_len]; exact hlen))) ?_
 rintro v L' rfl
 refine go ?_
 refine Sx.ca rfl (refFill (sb := rs) (mp := rm) (k := x.spare) (m := fillM x.pool (zeroM x)) (hx.spare (by rw [fillM_len, zeroM_len]; exact Nat.le_refl _) (by rw [fillM_len, zeroM_len]; exact hlen))) ?_
 rintro v L' rfl
 refine go ?_
 refine Kr.one (.inr rfl) rfl ?_ ⟨w, rm, rp, rs, re, rfl, rfl⟩
 exact ent
theorem refSupply {w rm rp rs re : Nat} {x : Cn} [t : Take L (some ⟨w, 0, none⟩) (RWO x rm rp rs re) F] : Fx Tryz.prog 67 [.pointer (some ⟨w, 0, none⟩)] L (fun v L' => ∃ s st lm, v = .pointer (some ⟨s, 0, none⟩) ∧
  L' = pt (some ⟨s, 0, none⟩) (Blk 85 [.pointer (some ⟨w, 0, none⟩), .pointer (some ⟨st, 0, none⟩), .pointer (some ⟨lm, 0, none⟩)]) :: pt (some ⟨lm, 0, none⟩) (RLimboO Lm.nil) :: pt (some ⟨st, 0, none⟩) (RefO (min (max (x.ca : Int) 0) 64) []) :: L) := by
 refine Fx.mk Tryz.func67 k67 nb_ ?_
 dsimp only [c67, kG, kS, kH, kM, kN, kF, kL, envOf, Nat.reduceAdd]
 refine go ?_
 refine Sx.ca rfl (refNew (x.ca : Int)) ?_
 rintro v L' ⟨st, rfl, rfl⟩
 refine go ?_
 refine Sx.ca rfl refLimboNew ?_
 rintro v L' ⟨lm, rfl, rfl⟩
 refine go ?_
 refine Sx.bx rfl rfl fun s => ?_
 refine go ?_
 exact Kr.one (.inr rfl) rfl (Ent.refl _) ⟨s, st, lm, rfl, rfl⟩
end
end Go.Proofs.YtggnbdeokmdjbaaGreat


namespace Go.Proofs.YtggnbdeokmdjbaaGreat
def pinI (w : Nat) : Int := ((w / 2 : Nat) : Int)
def behind (e w : Nat) : Prop := w % 2 = 1 ∧ pinI w ≠ cutE e
instance (e w : Nat) : Decidable (behind e w) := by unfold behind; infer_instance
structure AdvS where
 was : Nat
 worker : Nat
 won : Bool
 at_ : Nat
 done : Bool
def AdvS.init : AdvS := ⟨0, 0, false, 0, false⟩
def advStep (n : Nat) (m : Mm) (a : AdvS) : AdvS × Mm :=
 if a.done then (a, m) else
 match a.at_ with
 | 0 => ({ a with was := m.at_ 2, at_ := 1 }, m.tick)
 | 1 => if behind a.was (m.at_ (3 + a.worker)) then ({ a with done := true }, m.tick) else ({ a with worker := a.worker + 1, at_ := if a.worker + 1 < n then 1 else 2 }, m.tick)
 | _ => ({ a with won := decide (m.at_ 2 = a.was), done := true }, m.cas 2 a.was ((a.was + 1) % 18446744073709551616))
def advIt (n : Nat) : Nat → AdvS × Mm → AdvS × Mm
 | 0, s => s
 | j + 1, s => advStep n (advIt n j s).2 (advIt n j s).1
theorem adv_looks {n : Nat} {m : Mm} (hn : 1 ≤ n) (hp : ∀ j, j < n → ¬ behind (m.at_ 2) (m.at_ (3 + j))) : ∀ j, j ≤ n → advIt n (j + 1) (AdvS.init, m) = (⟨m.at_ 2, j, false, if j < n then 1 else 2, false⟩, m.add (j + 1))
 | 0, _ => by
   simp only [advIt, advStep, AdvS.init, Bool.false_eq_true, if_false]
   rw [if_pos (by omega)]
   rfl
 | j + 1, h => by
   have ih := adv_looks hn hp j (by omega)
   show advStep n (advIt n (j + 1) (AdvS.init, m)).2 (advIt n (j + 1) (AdvS.init, m)).1 = _
   rw [ih]
   have hat : ∀ i, (m.add (j + 1)).at_ i = m.at_ i := fun _ => rfl
   simp only [advStep, Bool.false_eq_true, if_false, if_pos (show j < n by omega), hat]
   rw [if_neg (hp j (by omega))]
   rfl
theorem adv_alone {n : Nat} {m : Mm} (hn : 1 ≤ n) (hp : ∀ j, j < n → ¬ behind (m.at_ 2) (m.at_ (3 + j))) :
  advIt n (n + 2) (AdvS.init, m) = (⟨m.at_ 2, n, true, 2, true⟩, (m.add (n + 1)).put 2 ((m.at_ 2 + 1) % 18446744073709551616)) ∧ (∀ j, j < n + 2 → (advIt n j (AdvS.init, m)).1.done = false) := by
 refine ⟨?_, fun j hj => ?_⟩
 ·show advStep n (advIt n (n + 1) (AdvS.init, m)).2 (advIt n (n + 1) (AdvS.init, m)).1 = _
  rw [adv_looks hn hp n (Nat.le_refl _)]
  have hat : ∀ i, (m.add (n + 1)).at_ i = m.at_ i := fun _ => rfl
  simp only [advStep, Bool.false_eq_true, if_false, if_neg (Nat.lt_irrefl n), hat]
  simp [Mm.cas, hat]
 ·rcases j with _ | j
  ·rfl
  ·rw [adv_looks hn hp j (by omega)]
end Go.Proofs.YtggnbdeokmdjbaaGreat


namespace Go.Proofs.YtggnbdeokmdjbaaGreat
open Go
attribute [local irreducible] Sx Cx Rx Fx Krg Ksq Kbl Klp Kr
section
variable {L F G : St}
theorem row_some {n cap : Nat} {r : Option Addr} {i : Nat} (hi : i < n) (h : (r = none ∧ n = 0 ∧ cap = 0) ∨ ∃ g, r = some ⟨g, 0, none⟩) : ∃ g, r = some ⟨g, 0, none⟩ := by
 rcases h with h | h
 ·omega
 ·exact h
theorem rmemKey {rm : Nat} {m : Mm} {F : St} [t : Take L (some ⟨rm, 0, none⟩) (RMemO m) F] : ∀ h, holds L h → m.ok ∧ m.ws.length ≤ 8388608 := by
 intro h hh
 obtain ⟨y, hy⟩ := holds_ex.1 (t.out h hh)
 exact (holds_lift.1 hy).1
theorem refLoad {rm : Nat} {m : Mm} (i : Nat) (hi : i < m.ws.length) [t : Take L (some ⟨rm, 0, none⟩) (RMemO m) F] :
  Fx Tryz.prog 95 [.pointer (some ⟨rm, 0, none⟩), .int .i64 i] L (fun v L' => v = wd (m.at_ i) ∧ L' = pt (some ⟨rm, 0, none⟩) (RMemO m.tick) :: F) := by
 refine Fx.mk Tryz.func95 k95 nb_ ?_
 dsimp only [c95, kG, kS, kH, kM, kN, kF, kL, envOf, Nat.reduceAdd]
 refine Cx.openp (t := t) rfl ?_
 rintro ⟨r, c⟩
 simp only [rmemL, List.cons_append, List.nil_append]
 refine Cx.liftp fun hm => ?_
 refine Cx.rowkey (a := r) fun hx0 hn0 _ hk1 => ?_
 obtain ⟨rg, rfl⟩ := row_some hi (hk1.imp (fun h => ⟨h.1, h.2.1, h.2.2⟩) id)
 refine gg ?_
 refine Sx.ldr (b := rg) rfl (v := wd (m.at_ i)) (by rw [show 0 + (i : Int).toNat * 1 = i by omega]; exact us_get (Mm.get hi)) ?_
 refine go ?_
 refine Kr.one (.inr rfl) rfl ?_ ⟨rfl, rfl⟩
 exact RMemO.close (a := some ⟨rm, 0, none⟩) (r := some ⟨rg, 0, none⟩) m.tick hm (by rw [wrap_succ]; rfl) rfl rfl
theorem refStore {rm : Nat} {m : Mm} (i v : Nat) (hi : i < m.ws.length) (hv : v < 18446744073709551616) [t : Take L (some ⟨rm, 0, none⟩) (RMemO m) F] :
  Fx Tryz.prog 201 [.pointer (some ⟨rm, 0, none⟩), .int .i64 i, wd v] L (fun u L' => u = .tuple #[] ∧ L' = pt (some ⟨rm, 0, none⟩) (RMemO (m.put i v)) :: F) := by
 refine Fx.mk Tryz.func201 k201 nb_ ?_
 dsimp only [c201, kG, kS, kH, kM, kN, kF, kL, envOf, Nat.reduceAdd]
 refine Cx.openp (t := t) rfl ?_
 rintro ⟨r, c⟩
 simp only [rmemL, List.cons_append, List.nil_append]
 refine Cx.liftp fun hm => ?_
 refine Cx.rowkey (a := r) fun hx0 hn0 _ hk1 => ?_
 obtain ⟨rg, rfl⟩ := row_some hi (hk1.imp (fun h => ⟨h.1, h.2.1, h.2.2⟩) id)
 refine gg ?_
 refine Sx.str1 (b := rg) rfl rfl rfl rfl (by rw [length_us]; simp; omega) rfl ?_
 refine go ?_
 refine Kr.none (.inl rfl) ?_ ⟨rfl, rfl⟩
 refine RMemO.close (a := some ⟨rm, 0, none⟩) (r := some ⟨rg, 0, none⟩) (m.put i v) ⟨Mm.ok_put hm.1 hv, by rw [Mm.len_put]; exact hm.2⟩ (by rw [wrap_succ]; rfl) Mm.len_put.symm ?_
 rw [show 0 + (i : Int).toNat * 1 = i by omega]
 exact us_set _ _ _
theorem refCas {rm : Nat} {m : Mm} (i o v : Nat) (hi : i < m.ws.length) (ho : o < 18446744073709551616) (hv : v < 18446744073709551616) [t : Take L (some ⟨rm, 0, none⟩) (RMemO m) F] :
  Fx Tryz.prog 183 [.pointer (some ⟨rm, 0, none⟩), .int .i64 i, wd o, wd v] L (fun u L' => u = .bool (decide (m.at_ i = o)) ∧ L' = pt (some ⟨rm, 0, none⟩) (RMemO (m.cas i o v)) :: F) := by
 refine Fx.mk Tryz.func183 k183 nb_ ?_
 dsimp only [c183, kG, kS, kH, kM, kN, kF, kL, envOf, Nat.reduceAdd]
 refine Cx.openp (t := t) rfl ?_
 rintro ⟨r, c⟩
 simp only [rmemL, List.cons_append, List.nil_append]
 refine Cx.liftp fun hm => ?_
 refine Cx.rowkey (a := r) fun hx0 hn0 _ hk1 => ?_
 obtain ⟨rg, rfl⟩ := row_some hi (hk1.imp (fun h => ⟨h.1, h.2.1, h.2.2⟩) id)
 refine gg ?_
 refine Sx.ldr (b := rg) rfl (v := wd (m.at_ i)) (by rw [show 0 + (i : Int).toNat * 1 = i by omega]; exact us_get (Mm.get hi)) ?_
 refine go ?_
 refine Cx.ifn rfl (fun h => ?_) (fun h => ?_)
 ·have hne : m.at_ i ≠ o := fun e => h (by rw [e])
  refine go ?_
  refine Kr.one (.inr rfl) rfl ?_ ⟨by rw [decide_eq_false hne], rfl⟩
  rw [show m.cas i o v = m.tick by unfold Mm.cas; rw [if_neg hne]]
  exact RMemO.close (a := some ⟨rm, 0, none⟩) (r := some ⟨rg, 0, none⟩) m.tick hm (by rw [wrap_succ]; rfl) rfl rfl
 ·have he : m.at_ i = o := by omega
  refine gg ?_
  refine Sx.str1 (b := rg) rfl rfl rfl rfl (by rw [length_us]; simp; omega) rfl ?_
  refine go ?_
  refine Kr.one (.inr rfl) rfl ?_ ⟨by rw [decide_eq_true he], rfl⟩
  rw [show m.cas i o v = m.put i v by unfold Mm.cas; rw [if_pos he]]
  refine RMemO.close (a := some ⟨rm, 0, none⟩) (r := some ⟨rg, 0, none⟩) (m.put i v) ⟨Mm.ok_put hm.1 hv, by rw [Mm.len_put]; exact hm.2⟩ (by rw [wrap_succ]; rfl) Mm.len_put.symm ?_
  rw [show 0 + (i : Int).toNat * 1 = i by omega]
  exact us_set _ _ _
theorem refCut (w : Nat) (hw : w < 18446744073709551616) : Fx Tryz.prog 94 [wd w] L (fun v L' => v = .int .i64 (cutE w) ∧ L = L') := by
 refine Fx.mk Tryz.func94 k94 nb_ ?_
 dsimp only [c94, kG, kS, kH, kM, kN, kF, kL, envOf, Nat.reduceAdd]
 refine go ?_
 refine Cx.ifp rfl (fun h => ?_) (fun h => ?_)
 ·refine go ?_
  exact Kr.one (.inr rfl) rfl (Ent.refl _) ⟨by unfold cutE; rw [Int.min_eq_right (by omega)], rfl⟩
 ·refine go ?_
  rw [w64 (n := (w : Int)) (by omega) (by omega)]
  exact Kr.one (.inr rfl) rfl (Ent.refl _) ⟨by unfold cutE; rw [Int.min_eq_left (by omega)], rfl⟩
theorem refGetHead (w : Nat) (hw : w < 18446744073709551616) : Fx Tryz.prog 179 [wd w] L (fun v L' => v = hdV (hdI w) (hdT w) ∧ L = L') := by
 refine Fx.mk Tryz.func179 k179 nb_ ?_
 dsimp only [c179, kG, kS, kH, kM, kN, kF, kL, envOf, Nat.reduceAdd]
 refine Cx.sq ?_
 refine Cx.rg ?_
 refine Sx.al fun g => ?_
 refine gg ?_
 have hm : (w : Int).tmod 4294967296 = ((w % 4294967296 : Nat) : Int) := natTmod w 4294967296
 have hdv : (w : Int).tdiv 4294967296 = (hdT w : Int) := (Int.ofNat_tdiv w 4294967296).symm
 have h3 := hdT_lt hw
 rw [hm, hdv, w64 (n := ((w % 4294967296 : Nat) : Int)) (by omega) (by omega), w64 (n := ((w % 4294967296 : Nat) : Int) - 1) (by omega) (by omega), wu64 (n := (hdT w : Int)) (by omega) (by omega), w64 (n := (hdT w : Int)) (by omega) (by omega)]
 refine Sx.st (b := g) rfl rfl rfl rfl rfl rfl ?_
 dsimp only [lay]
 refine go ?_
 exact Kr_cell (b := g) (.inr rfl) rfl rfl (L' := L) Ent.drop ⟨rfl, rfl⟩
theorem refTop {sb rm : Nat} {k : Sk} (w : Nat) (hw : w < 18446744073709551616) [t : Take L (some ⟨sb, 0, none⟩) (RSkO rm k) F] :
  Fx Tryz.prog 86 [.pointer (some ⟨sb, 0, none⟩), wd w] L (fun v L' => v = .int .i64 (k.top w) ∧ L = L') := by
 refine Fx.mk Tryz.func86 k86 nb_ ?_
 dsimp only [c86, kG, kS, kH, kM, kN, kF, kL, envOf, Nat.reduceAdd]
 refine go ?_
 refine Sx.ca rfl (refGetHead w hw) ?_
 rintro v L' ⟨rfl, rfl⟩
 refine go ?_
 refine Cx.ifp rfl (fun h => ?_) (fun h => ?_)
 ·refine go ?_
  exact Kr.one (.inr rfl) rfl (Ent.refl _) ⟨by unfold Sk.top; rw [if_neg (by omega)], rfl⟩
 ·refine go ?_
  exact Kr.one (.inr rfl) rfl (Ent.refl _) ⟨by unfold Sk.top; rw [if_pos (by omega)], rfl⟩
theorem refBelow {sb rm : Nat} {k : Sk} (w : Nat) (hw : w < 18446744073709551616) (hk : k.n ≤ 4096) [t : Take L (some ⟨sb, 0, none⟩) (RSkO rm k) F] :
  Fx Tryz.prog 87 [.pointer (some ⟨sb, 0, none⟩), wd w] L (fun v L' => v = .int .i64 (k.below w) ∧ L = L') := by
 refine Fx.mk Tryz.func87 k87 nb_ ?_
 dsimp only [c87, kG, kS, kH, kM, kN, kF, kL, envOf, Nat.reduceAdd]
 refine go ?_
 rw [wu64 (n := (k.n : Int)) (by omega) (by omega)]
 refine Cx.ifp rfl (fun h => ?_) (fun h => ?_)
 ·refine go ?_
  exact Kr.one (.inr rfl) rfl (Ent.refl _) ⟨by unfold Sk.below; rw [if_pos (by omega)], rfl⟩
 ·refine go ?_
  rw [w64 (n := (w : Int)) (by omega) (by omega), w64 (n := (w : Int) - 1) (by omega) (by omega)]
  exact Kr.one (.inr rfl) rfl (Ent.refl _) ⟨by unfold Sk.below; rw [if_neg (by omega)], rfl⟩
theorem refNextHead (i : Int) (t : Nat) (j : Int) (ht : t < 4294967296) : Fx Tryz.prog 264 [hdV i t, .int .i64 j] L (fun v L' => v = hdV j (laterT t) ∧ L = L') := by
 refine Fx.mk Tryz.func264 k264 nb_ ?_
 dsimp only [c264, kG, kS, kH, kM, kN, kF, kL, envOf, Nat.reduceAdd]
 refine Cx.sq ?_
 refine Cx.rg ?_
 refine Sx.bx rfl rfl fun q => ?_
 refine Sx.al fun g => ?_
 refine go ?_
 refine Cx.ifp rfl (fun h => ?_) (fun h => ?_)
 ·refine go ?_
  refine Sx.st (b := g) rfl rfl rfl rfl rfl rfl ?_
  dsimp only [lay]
  refine go ?_
  refine Kr_cell (b := g) (.inr rfl) rfl rfl (L' := L) (Ent.trans Ent.drop Ent.drop) ⟨?_, rfl⟩
  rw [show laterT t = 0 by unfold laterT; rw [if_neg (by omega)]]
  rfl
 ·refine go ?_
  rw [w64 (n := (t : Int) + 1) (by omega) (by omega)]
  refine Sx.st (b := g) rfl rfl rfl rfl rfl rfl ?_
  dsimp only [lay]
  refine go ?_
  refine Kr_cell (b := g) (.inr rfl) rfl rfl (L' := L) (Ent.trans Ent.drop Ent.drop) ⟨?_, rfl⟩
  rw [show laterT t = t + 1 by unfold laterT; rw [if_pos (by omega)]]
  rfl
theorem refNextW (w : Nat) (i : Int) (hw : w < 18446744073709551616) (h1 : -1 ≤ i) (h2 : i < 4294967295) : Fx Tryz.prog 218 [wd w, .int .i64 i] L (fun v L' => v = wd (nextW w i) ∧ L = L') := by
 refine Fx.mk Tryz.func218 k218 nb_ ?_
 dsimp only [c218, kG, kS, kH, kM, kN, kF, kL, envOf, Nat.reduceAdd]
 refine go ?_
 refine Sx.ca rfl (refGetHead w hw) ?_
 rintro v L' ⟨rfl, rfl⟩
 refine go ?_
 refine Sx.ca rfl (refNextHead _ _ i (hdT_lt hw)) ?_
 rintro v L' ⟨rfl, rfl⟩
 refine go ?_
 refine Sx.ca rfl (refPutHead i (laterT (hdT w)) h1 h2 (laterT_lt (hdT_lt hw))) ?_
 rintro v L' ⟨rfl, rfl⟩
 refine go ?_
 exact Kr.one (.inr rfl) rfl (Ent.refl _) ⟨rfl, rfl⟩
theorem refGetPin (w : Nat) (hw : w < 18446744073709551616) : Fx Tryz.prog 182 [wd w] L (fun v L' => v = .tuple #[.int .i64 (if w % 2 = 1 then pinI w else 0), .bool (decide (w % 2 = 1))] ∧ L = L') := by
 refine Fx.mk Tryz.func182 k182 nb_ ?_
 dsimp only [c182, kG, kS, kH, kM, kN, kF, kL, envOf, Nat.reduceAdd]
 refine gg ?_
 have hm : (w : Int).tmod 2 = ((w % 2 : Nat) : Int) := natTmod w 2
 have hdv : (w : Int).tdiv 2 = ((w / 2 : Nat) : Int) := (Int.ofNat_tdiv w 2).symm
 rw [hm]
 refine Cx.ifp rfl (fun h => ?_) (fun h => ?_)
 ·refine go ?_
  refine Kr.two (.inr rfl) rfl rfl (Ent.refl _) ⟨?_, rfl⟩
  rw [if_neg (by omega), decide_eq_false (by omega)]
 ·refine gg ?_
  rw [hdv, wu64 (n := ((w / 2 : Nat) : Int)) (by omega) (by omega), w64 (n := ((w / 2 : Nat) : Int)) (by omega) (by omega)]
  refine Kr.two (.inr rfl) rfl rfl (Ent.refl _) ⟨?_, rfl⟩
  rw [if_pos (by omega), decide_eq_true (by omega)]
  rfl
end
end Go.Proofs.YtggnbdeokmdjbaaGreat


namespace Go.Proofs.YtggnbdeokmdjbaaGreat
open Go
attribute [local irreducible] Sx Cx Rx Fx Krg Ksq Kbl Klp Kr
section
variable {L F G : St}
theorem stashTakeI {b : Nat} {most : Int} (xs : List Int) {F : St} [t : Take L (some ⟨b, 0, none⟩) (StashO most xs) F] (hb : xs.length ≤ 1000000000) :
  Fx Tryz.prog 221 [.pointer (some ⟨b, 0, none⟩)] L (fun v L' => v = .tuple #[.int .i64 (lastI xs), .bool (decide (xs ≠ []))] ∧ L' = pt (some ⟨b, 0, none⟩) (StashO most xs.dropLast) :: F) := by
 rcases List.eq_nil_or_concat xs with rfl | ⟨ys, x, rfl⟩
 ·exact stashTakeNone
 ·rw [List.concat_eq_append] at t hb ⊢
  refine (stashTakeSome (t := t) (by simp at hb; omega)).mono ?_
  rintro v L' ⟨rfl, rfl⟩
  simp [lastI]
def supL (T : TypeId) (mp pb : Nat) (x : Cn) (s : SupS) (a : Option Addr) (y : Nat × Nat) : St :=
 [pt a (Blk T (.pointer (some ⟨mp, 0, none⟩) :: x.l ++ [.pointer (some ⟨pb, 0, none⟩), .pointer (some ⟨y.1, 0, none⟩), .pointer (some ⟨y.2, 0, none⟩)])), pt (some ⟨y.1, 0, none⟩) (StashO s.most s.xs), pt (some ⟨y.2, 0, none⟩) (LimboO s.lm)]
def SupT (T : TypeId) (mp pb : Nat) (x : Cn) (s : SupS) (a : Option Addr) : As := exs (supL T mp pb x s a)
abbrev SupO := SupT 176
theorem SupO.close {T : TypeId} {mp pb sh lm : Nat} {x : Cn} {a : Option Addr} {m : Int} {xs : List Int} {l : Lm} {F0 F1 G : St} (s : SupS)
  [t : Take L a (Blk T (.pointer (some ⟨mp, 0, none⟩) :: x.l ++ [.pointer (some ⟨pb, 0, none⟩), .pointer (some ⟨sh, 0, none⟩), .pointer (some ⟨lm, 0, none⟩)])) F0] [u : Take F0 (some ⟨sh, 0, none⟩) (StashO m xs) F1] [q : Take F1 (some ⟨lm, 0, none⟩) (LimboO l) G]
  (hm : m = s.most) (hx : xs = s.xs) (hl : l = s.lm) : Ent L (pt a (SupT T mp pb x s) :: G) := by
 subst hm; subst hx; subst hl
 refine Ent.trans (Ent.take1 (t := t) (Ent.trans (Ent.of u.out) (Ent.cons (Ent.of q.out)))) ?_
 exact Ent.close (f := supL T mp pb x s a) rfl (sh, lm)
theorem supNew {mp : Nat} {m : Mm} {x : Cn} (hx : x.ok) (hl : x.len ≤ m.ws.length) [t : Take L (some ⟨mp, 0, none⟩) (MemO m) F] :
  Fx Tryz.prog 54 [.pointer (some ⟨mp, 0, none⟩), x.v] L (fun v L' => ∃ u pb, v = .tuple #[.pointer (some ⟨u, 0, none⟩), .int .i64 0] ∧ L' = pt (some ⟨u, 0, none⟩) (SupO mp pb x (SupS.nil x.ca)) :: pt (some ⟨pb, 0, none⟩) (SkO mp x.pool) :: L) := by
 refine Fx.mk Tryz.func54 k54 nb_ ?_
 dsimp only [c54, kG, kS, kH, kM, kN, kF, kL, envOf, Nat.reduceAdd]
 refine Cx.sq ?_
 refine Cx.rg ?_
 refine Sx.bx rfl rfl fun g => ?_
 refine go ?_
 refine Sx.ca rfl (chainNew (mp := mp) (m := m) hx hl) ?_
 rintro v L' ⟨c, pb, rfl, rfl⟩
 refine go ?_
 refine Cx.ordc rfl kr_ ?_
 refine ge ?_
 refine Ev.cakH kr_ rfl rfl (chainPool (g := c) (mp := mp) (sb := pb) (x := x)) ?_
 refine ge ?_
 refine Ev.caH kr_ rfl rfl (stashNew (x.ca : Int)) (.dep rfl (.dep rfl (.keep (fun v L' ⟨_, _, e⟩ => by subst e; exact Has.blk) .nil))) ?_
 rintro v L' ⟨sh, rfl, rfl⟩
 refine ge ?_
 refine Ev.caH kr_ rfl rfl limboNew (.dep rfl (.dep rfl (.keep (fun v L' ⟨_, _, e⟩ => by subst e; exact Has.blk) .nil))) ?_
 rintro v L' ⟨lm, rfl, rfl⟩
 refine ge ?_
 refine Ev.bxH kr_ rfl rfl rfl (Pres.deps kr_) fun u => ?_
 refine ge ?_
 refine go ?_
 refine Kr.two (.inr rfl) rfl rfl ?_ ⟨u, pb, rfl, rfl⟩
 refine Ent.trans (SupO.close (a := some ⟨u, 0, none⟩) (sh := sh) (lm := lm) (mp := mp) (pb := pb) (x := x) (SupS.nil x.ca) rfl rfl rfl) ?_
 refine Ent.cons ?_
 exact ent
theorem supStash {u mp pb : Nat} {x : Cn} {s : SupS} {F : St} [t : Take L (some ⟨u, 0, none⟩) (SupO mp pb x s) F] (hb : s.xs.length ≤ 1000000000) : Fx Tryz.prog 82 [.pointer (some ⟨u, 0, none⟩)] L (fun v L' => ∃ a c, v = .slice a s.xs.length c ∧ L' = pt a (Row 3 1 s.xs.length c (ints s.xs)) :: pt (some ⟨u, 0, none⟩) (SupO mp pb x s) :: F) := by
 refine Fx.mk Tryz.func82 k82 nb_ ?_
 dsimp only [c82, kG, kS, kH, kM, kN, kF, kL, envOf, Nat.reduceAdd]
 refine Cx.openp (t := t) rfl ?_
 rintro ⟨sh, lm⟩
 simp only [supL, List.cons_append, List.nil_append]
 refine go ?_
 refine Sx.ca rfl (stashList (b := sh) hb) ?_
 rintro v L' ⟨a, c, rfl, rfl⟩
 refine go ?_
 exact Kr.one (.inr rfl) rfl (Ent.cons (SupO.close (a := some ⟨u, 0, none⟩) (sh := sh) (lm := lm) (mp := mp) (pb := pb) (x := x) s rfl rfl rfl)) ⟨a, c, rfl, rfl⟩
theorem supBucket {u mp pb : Nat} {x : Cn} {s : SupS} {F : St} [t : Take L (some ⟨u, 0, none⟩) (SupO mp pb x s) F] (k : Int) (hb : s.lm.size ≤ 1000000000) : Fx Tryz.prog 83 [.pointer (some ⟨u, 0, none⟩), .int .i64 k] L (fun v L' =>
   ((k < 0 ∨ 3 ≤ k ∨ s.lm.items k.toNat = []) ∧ v = .tuple #[.int .i64 0, .slice none 0 0] ∧ L' = pt (some ⟨u, 0, none⟩) (SupO mp pb x s) :: F) ∨
   (¬ (k < 0 ∨ 3 ≤ k ∨ s.lm.items k.toNat = []) ∧ ∃ ro co, v = .tuple #[.int .i64 (s.lm.tag k.toNat), .slice ro (s.lm.items k.toNat).length co] ∧ L' = pt ro (Row 3 1 (s.lm.items k.toNat).length co (ints (s.lm.items k.toNat))) :: pt (some ⟨u, 0, none⟩) (SupO mp pb x s) :: F)) := by
 refine Fx.mk Tryz.func83 k83 nb_ ?_
 dsimp only [c83, kG, kS, kH, kM, kN, kF, kL, envOf, Nat.reduceAdd]
 refine Cx.openp (t := t) rfl ?_
 rintro ⟨sh, lm⟩
 simp only [supL, List.cons_append, List.nil_append]
 refine go ?_
 refine Sx.ca rfl (limboBucket (b := lm) (m := s.lm) (k := k) hb) ?_
 rintro v L' (⟨h, rfl, rfl⟩ | ⟨h, ro, co, rfl, rfl⟩)
 ·refine go ?_
  exact Kr.two (.inr rfl) rfl rfl (SupO.close (a := some ⟨u, 0, none⟩) (sh := sh) (lm := lm) (mp := mp) (pb := pb) (x := x) s rfl rfl rfl) (.inl ⟨h, rfl, rfl⟩)
 ·refine go ?_
  exact Kr.two (.inr rfl) rfl rfl (Ent.cons (SupO.close (a := some ⟨u, 0, none⟩) (sh := sh) (lm := lm) (mp := mp) (pb := pb) (x := x) s rfl rfl rfl)) (.inr ⟨h, ro, co, rfl, rfl⟩)
theorem supPut {u mp pb : Nat} {x : Cn} {s : SupS} {F : St} [t : Take L (some ⟨u, 0, none⟩) (SupO mp pb x s) F] {ys : List Int} {ya : Option Addr} {m c : Nat} (hr : Rd F 1 ya m (ints ys)) (hb : s.xs.length + m ≤ 1000000000) :
  Fx Tryz.prog 30 [.pointer (some ⟨u, 0, none⟩), .slice ya m c] L (fun v L' => v = .tuple #[] ∧ L' = pt (some ⟨u, 0, none⟩) (SupO mp pb x (s.give ys)) :: F) := by
 refine Fx.mk Tryz.func30 k30 nb_ ?_
 dsimp only [c30, kG, kS, kH, kM, kN, kF, kL, envOf, Nat.reduceAdd]
 refine Cx.openp (t := t) rfl ?_
 rintro ⟨sh, lm⟩
 simp only [supL, List.cons_append, List.nil_append]
 refine go ?_
 refine Sx.ca rfl (stashGive (b := sh) (hr.ent (by repeat (first | exact Ent.refl _ | (refine Ent.trans Ent.drop ?_)))) hb) ?_
 rintro v L' ⟨rfl, rfl⟩
 refine go ?_
 exact Kr.none (.inl rfl) (SupO.close (a := some ⟨u, 0, none⟩) (sh := sh) (lm := lm) (mp := mp) (pb := pb) (x := x) (s.give ys) rfl rfl rfl) ⟨rfl, rfl⟩
theorem supRetire {u mp pb : Nat} {x : Cn} {s : SupS} {F : St} [t : Take L (some ⟨u, 0, none⟩) (SupO mp pb x s) F] {tag : Int} {ys : List Int} {ya : Option Addr} {n c : Nat} (hr : Rd F 1 ya n (ints ys)) (hb : s.lm.size + n ≤ 100000000) (hx : s.xs.length ≤ 100000000) :
  Fx Tryz.prog 27 [.pointer (some ⟨u, 0, none⟩), .int .i64 tag, .slice ya n c] L (fun v L' =>
   (refused s.lm tag ys ∧ v = .int .i64 1 ∧ L' = pt (some ⟨u, 0, none⟩) (SupO mp pb x s) :: F) ∨
   (¬ refused s.lm tag ys ∧ v = .int .i64 0 ∧ L' = pt (some ⟨u, 0, none⟩) (SupO mp pb x ⟨s.most, s.xs ++ outM s.lm tag, retireM s.lm tag ys⟩) :: F)) := by
 have hz := size_retire s.lm tag ys
 refine Fx.mk Tryz.func27 k27 nb_ ?_
 dsimp only [c27, kG, kS, kH, kM, kN, kF, kL, envOf, Nat.reduceAdd]
 refine Cx.openp (t := t) rfl ?_
 rintro ⟨sh, lm⟩
 simp only [supL, List.cons_append, List.nil_append]
 refine go ?_
 refine Sx.ca rfl (limboRetire (b := lm) (m := s.lm) (ys := ys) (hr.ent (by repeat (first | exact Ent.refl _ | (refine Ent.trans Ent.drop ?_)))) (by omega)) ?_
 rintro v L' (⟨h, rfl, rfl⟩ | ⟨h, ro, co, rfl, rfl⟩)
 ·refine go ?_
  refine Sx.ca rfl (stashGive (b := sh) (ys := []) (Rd.nil _ _ _) (by omega)) ?_
  rintro v L' ⟨rfl, rfl⟩
  refine go ?_
  exact Kr.one (.inr rfl) rfl (SupO.close (a := some ⟨u, 0, none⟩) (sh := sh) (lm := lm) (mp := mp) (pb := pb) (x := x) s rfl (List.append_nil _) rfl) (.inl ⟨h, rfl, rfl⟩)
 ·refine Sx.rowkey (a := ro) fun hx0 hn0 _ hk0 => ?_
  refine go ?_
  refine Sx.ca rfl (stashGive (b := sh) (Rd.any (a := ro) hx0 (hk0.imp (fun h => h.2.1) id)) (by omega)) ?_
  rintro v L' ⟨rfl, rfl⟩
  refine go ?_
  refine Kr.one (.inr rfl) rfl (Ent.trans (SupO.close (a := some ⟨u, 0, none⟩) (sh := sh) (lm := lm) (mp := mp) (pb := pb) (x := x) ⟨s.most, s.xs ++ outM s.lm tag, retireM s.lm tag ys⟩ rfl rfl rfl) ?_) (.inr ⟨h, rfl, rfl⟩)
  exact ent
theorem supReady {u mp pb : Nat} {x : Cn} {s : SupS} {F : St} [t : Take L (some ⟨u, 0, none⟩) (SupO mp pb x s) F] {now : Int} (hb : s.lm.size ≤ 100000000) (hx : s.xs.length ≤ 100000000) (hn : now ≤ 9223372036854775807) :
  Fx Tryz.prog 79 [.pointer (some ⟨u, 0, none⟩), .int .i64 now] L (fun v L' => v = .int .i64 (readyAll now s.lm).1.length ∧ L' = pt (some ⟨u, 0, none⟩) (SupO mp pb x (s.ready now)) :: F) := by
 have hz := size_ready now s.lm
 refine Fx.mk Tryz.func79 k79 nb_ ?_
 dsimp only [c79, kG, kS, kH, kM, kN, kF, kL, envOf, Nat.reduceAdd]
 refine Cx.openp (t := t) rfl ?_
 rintro ⟨sh, lm⟩
 simp only [supL, List.cons_append, List.nil_append]
 refine go ?_
 refine Sx.ca rfl (limboReady (b := lm) (m := s.lm) (now := now) hb hn) ?_
 rintro v L' ⟨ro, co, rfl, rfl⟩
 refine Sx.rowkey (a := ro) fun hx0 hn0 _ hk0 => ?_
 refine go ?_
 refine Sx.ca rfl (stashGive (b := sh) (Rd.any (a := ro) hx0 (hk0.imp (fun h => h.2.1) id)) (by omega)) ?_
 rintro v L' ⟨rfl, rfl⟩
 refine go ?_
 refine Kr.one (.inr rfl) rfl (Ent.trans (SupO.close (a := some ⟨u, 0, none⟩) (sh := sh) (lm := lm) (mp := mp) (pb := pb) (x := x) (s.ready now) rfl rfl rfl) ?_) ⟨rfl, rfl⟩
 exact ent
end
end Go.Proofs.YtggnbdeokmdjbaaGreat


namespace Go.Proofs.YtggnbdeokmdjbaaGreat
open Go
attribute [local irreducible] Sx Cx Rx Fx Krg Ksq Kbl Klp Kr
section
variable {L F G : St}
abbrev tkB (b u : Nat) (nx n1 n2 n3 : Value) (cnt : Int) (pp : Value) (chunk seen : Int) (is_ : Bool) : As :=
 pt (some ⟨b, 0, none⟩) (Blk 239 [nx, n1, n2, n3, .int .i64 cnt, .pointer (some ⟨u, 0, none⟩), pp, .int .i64 chunk, .int .i64 seen, .bool is_])
def takeDL (T : TypeId) (u : Nat) (t : TakeS) (a : Option Addr) (y : Value × Value × Value × Value × Int) : St :=
 [pt a (Blk T [.nilFunc, y.1, y.2.1, y.2.2.1, .int .i64 y.2.2.2.2, .pointer (some ⟨u, 0, none⟩), y.2.2.2.1, .int .i64 t.chunk, .int .i64 t.seen, .bool t.is_])]
def takeLL (T : TypeId) (u : Nat) (t : TakeS) (a : Option Addr) (y : Value × Value × Value × Value × Int) : St :=
 [pt a (Blk T [.func (.func 148) #[.pointer a] #[], y.1, y.2.1, y.2.2.1, .int .i64 y.2.2.2.2, .pointer (some ⟨u, 0, none⟩), y.2.2.2.1, .int .i64 t.chunk, .int .i64 t.seen, .bool t.is_])]
def takePL (T : TypeId) (u pb : Nat) (k : Sk) (t : TakeS) (a : Option Addr) (y : Nat × Int) : St :=
 [pt a (Blk T [.func (.func 238) #[.pointer a] #[], mth 193 y.1, mth 194 y.1, .func (.func 223) #[.pointer a] #[], .int .i64 y.2, .pointer (some ⟨u, 0, none⟩), .pointer (some ⟨y.1, 0, none⟩), .int .i64 t.chunk, .int .i64 t.seen, .bool t.is_]),
  pt (some ⟨y.1, 0, none⟩) (PopO pb k t.q)]
def TakeT (T : TypeId) (u pb : Nat) (k : Sk) (t : TakeS) (a : Option Addr) : As := bif t.done then exs (takeDL T u t a) else bif Nat.beq t.at_ 0 then exs (takeLL T u t a) else exs (takePL T u pb k t a)
abbrev TakeO := TakeT 239
theorem TakeO.d {T : TypeId} {u pb : Nat} {k : Sk} {t : TakeS} {a : Option Addr} (h : t.done = true) : TakeT T u pb k t a = exs (takeDL T u t a) := by unfold TakeT; rw [h]; rfl
theorem TakeO.l {T : TypeId} {u pb : Nat} {k : Sk} {t : TakeS} {a : Option Addr} (h : t.done = false) (h0 : t.at_ = 0) : TakeT T u pb k t a = exs (takeLL T u t a) := by unfold TakeT; rw [h, h0]; rfl
theorem TakeO.p {T : TypeId} {u pb : Nat} {k : Sk} {t : TakeS} {a : Option Addr} (h : t.done = false) (h0 : t.at_ ≠ 0) : TakeT T u pb k t a = exs (takePL T u pb k t a) := by
 unfold TakeT
 have : Nat.beq t.at_ 0 = false := by
  cases hb : Nat.beq t.at_ 0 with
  | false => rfl
  | true => exact absurd (Nat.eq_of_beq_eq_true hb) h0
 rw [h, this]; rfl
theorem TakeO.closeD {b u pb : Nat} {k : Sk} (t : TakeS) (h : t.done = true) {n1 n2 n3 pp : Value} {cnt chunk seen : Int} {is_ : Bool} (hc : chunk = t.chunk) (hs : seen = t.seen) (hi : is_ = t.is_) : Ent (tkB b u .nilFunc n1 n2 n3 cnt pp chunk seen is_ :: G) (pt (some ⟨b, 0, none⟩) (TakeO u pb k t) :: G) := by
 subst hc; subst hs; subst hi
 exact Ent.close (f := takeDL 239 u t (some ⟨b, 0, none⟩)) (TakeO.d h) (n1, n2, n3, pp, cnt)
theorem TakeO.closeL {b u pb : Nat} {k : Sk} (t : TakeS) (h : t.done = false) (h0 : t.at_ = 0) {n1 n2 n3 pp : Value} {cnt chunk seen : Int} {is_ : Bool} (hc : chunk = t.chunk) (hs : seen = t.seen) (hi : is_ = t.is_) :
  Ent (tkB b u (mth 148 b) n1 n2 n3 cnt pp chunk seen is_ :: G) (pt (some ⟨b, 0, none⟩) (TakeO u pb k t) :: G) := by
 subst hc; subst hs; subst hi
 exact Ent.close (f := takeLL 239 u t (some ⟨b, 0, none⟩)) (TakeO.l h h0) (n1, n2, n3, pp, cnt)
theorem TakeO.closeP {b u pb p : Nat} {k : Sk} (t : TakeS) (h : t.done = false) (h0 : t.at_ ≠ 0) {cnt chunk seen : Int} {is_ : Bool} {q : PopS} (hc : chunk = t.chunk) (hs : seen = t.seen) (hi : is_ = t.is_) (hq : q = t.q) :
  Ent (tkB b u (mth 238 b) (mth 193 p) (mth 194 p) (mth 223 b) cnt (.pointer (some ⟨p, 0, none⟩)) chunk seen is_ :: pt (some ⟨p, 0, none⟩) (PopO pb k q) :: G) (pt (some ⟨b, 0, none⟩) (TakeO u pb k t) :: G) := by
 subst hc; subst hs; subst hi; subst hq
 exact Ent.close (f := takePL 239 u pb k t (some ⟨b, 0, none⟩)) (TakeO.p h h0) (p, cnt)
abbrev tkV (u : Nat) (nx n1 n2 n3 : Value) (cnt : Int) (pp : Value) (chunk seen : Int) (is_ : Bool) : Option Addr → As :=
 Blk 239 [nx, n1, n2, n3, .int .i64 cnt, .pointer (some ⟨u, 0, none⟩), pp, .int .i64 chunk, .int .i64 seen, .bool is_]
theorem takeKept {b u mp pb : Nat} {x : Cn} {s : SupS} {nx n1 n2 n3 pp : Value} {cnt chunk seen : Int} {is_ : Bool} {F1 : St} (hb : s.xs.length ≤ 1000000000) [t1 : Take L (some ⟨b, 0, none⟩) (tkV u nx n1 n2 n3 cnt pp chunk seen is_) F1] [t2 : Take F1 (some ⟨u, 0, none⟩) (SupO mp pb x s) G] :
  Fx Tryz.prog 145 [.pointer (some ⟨b, 0, none⟩)] L
   (fun v L' => v = .bool (decide (s.xs ≠ [])) ∧ L' = tkB b u nx n1 n2 n3 cnt pp (lastI s.xs) seen (decide (s.xs ≠ [])) :: pt (some ⟨u, 0, none⟩) (SupO mp pb x s.kept) :: G) := by
 refine Fx.mk Tryz.func145 k145 nb_ ?_
 dsimp only [c145, kG, kS, kH, kM, kN, kF, kL, envOf, Nat.reduceAdd]
 refine Cx.ent (Ent.trans (Ent.of t1.out) (Ent.cons (Ent.of t2.out))) ?_
 refine Cx.openp (a := some ⟨u, 0, none⟩) rfl ?_
 rintro ⟨sh, lm⟩
 simp only [supL, List.cons_append, List.nil_append]
 refine go ?_
 refine Sx.ca rfl (stashTakeI (b := sh) s.xs hb) ?_
 rintro v L' ⟨rfl, rfl⟩
 refine go ?_
 refine Kr.one (.inr rfl) rfl ?_ ⟨rfl, rfl⟩
 refine Ent.cons ?_
 exact SupO.close (a := some ⟨u, 0, none⟩) (sh := sh) (lm := lm) (mp := mp) (pb := pb) (x := x) s.kept rfl rfl rfl
theorem takeAsk {b u mp pb : Nat} {x : Cn} {s : SupS} {n1 n2 n3 pp : Value} {cnt chunk seen : Int} {is_ : Bool} {F1 : St} (hx : x.ok) [t1 : Take L (some ⟨b, 0, none⟩) (tkV u .nilFunc n1 n2 n3 cnt pp chunk seen is_) F1] [t2 : Take F1 (some ⟨u, 0, none⟩) (SupO mp pb x s) G] :
  Fx Tryz.prog 149 [.pointer (some ⟨b, 0, none⟩)] L
   (fun v L' => L' = pt (some ⟨b, 0, none⟩) (TakeO u pb x.pool ⟨1, chunk, is_, seen, PopS.init x.ba, false⟩) :: pt (some ⟨u, 0, none⟩) (SupO mp pb x s) :: G) := by
 refine Fx.mk Tryz.func149 k149 nb_ ?_
 dsimp only [c149, kG, kS, kH, kM, kN, kF, kL, envOf, Nat.reduceAdd]
 refine Cx.ent (Ent.trans (Ent.of t1.out) (Ent.cons (Ent.of t2.out))) ?_
 refine Cx.openp (a := some ⟨u, 0, none⟩) rfl ?_
 rintro ⟨sh, lm⟩
 simp only [supL, List.cons_append, List.nil_append]
 refine go ?_
 refine Cx.ordc rfl kr_ ?_
 refine ge ?_
 refine Ev.caH kr_ rfl rfl (stackPop (sb := pb) (k := x.pool) (x.ba : Int) (by have := hx.2.1; show 1 ≤ x.c; omega)) (Pres.deps kr_) ?_
 rintro v L' ⟨p, rfl, rfl⟩
 refine ge ?_
 refine Ev.stbH (b := b) kr_ rfl rfl rfl rfl rfl (by rfl) rfl (Pres.deps kr_) ?_
 refine ge ?_
 refine Cx.orde rfl kr_ ?_
 refine ge ?_
 refine Ev.caH kr_ rfl rfl (machThrough (b := b) (machOnNo (b := b) kr_ (popDoneC (b := p) (sb := pb) (k := x.pool) (q := PopS.init x.ba)))) (Pres.deps kr_) ?_
 rintro v L' ⟨rfl, w, rfl, rfl⟩
 refine ge ?_
 refine Kr.none (.inl rfl) ?_ rfl
 refine Ent.trans (Ent.cons ?_) (TakeO.closeP (p := p) ⟨1, chunk, is_, seen, PopS.init x.ba, false⟩ rfl (by simp) rfl rfl rfl rfl)
 refine Ent.cons ?_
 exact SupO.close (a := some ⟨u, 0, none⟩) (sh := sh) (lm := lm) (mp := mp) (pb := pb) (x := x) s rfl rfl rfl
theorem epochCut (w : Nat) (hw : w < 18446744073709551616) : Fx Tryz.prog 180 [wd w] L (fun v L' => v = .int .i64 (cutE w) ∧ L = L') := by
 refine Fx.mk Tryz.func180 k180 nb_ ?_
 dsimp only [c180, kG, kS, kH, kM, kN, kF, kL, envOf, Nat.reduceAdd]
 refine go ?_
 refine Kr.one (.inr rfl) rfl (Ent.refl _) ⟨congrArg (Value.int .i64) ?_, rfl⟩
 rw [cond_false]
 unfold cutE
 refine Eq.trans (congrArg IntKind.i64.wrap (show _ = min (w : Int) 4611686018427387903 by split <;> omega)) ?_
 exact w64 (by omega) (by omega)
theorem takeLook {b u mp pb : Nat} {x : Cn} {s : SupS} {m : Mm} {t : TakeS} {n1 n2 n3 pp : Value} {cnt : Int} {F1 F2 : St} (hx : x.ok) (hm : m.ok) (hl : 2 < m.ws.length) (hd : t.done = false) (h0 : t.at_ = 0) (hi : t.chunk = 0 ∧ t.is_ = false)
  (hb : s.xs.length + s.lm.size ≤ 1000000) [t1 : Take L (some ⟨b, 0, none⟩) (tkV u .nilFunc n1 n2 n3 cnt pp t.chunk t.seen t.is_) F1] [t2 : Take F1 (some ⟨u, 0, none⟩) (SupO mp pb x s) F2] [t3 : Take F2 (some ⟨mp, 0, none⟩) (MemO m) G] :
  Fx Tryz.prog 148 [.pointer (some ⟨b, 0, none⟩)] L
   (fun v L' => L' = pt (some ⟨b, 0, none⟩) (TakeO u pb x.pool (takeStep x.pool x.ba m s t).2.2) :: pt (some ⟨u, 0, none⟩) (SupO mp pb x (takeStep x.pool x.ba m s t).2.1) :: pt (some ⟨mp, 0, none⟩) (MemO (takeStep x.pool x.ba m s t).1) :: G) := by
 have hlt := Mm.at_lt hm 2
 have hz := size_ready (cutE (m.at_ 2)) s.lm
 have hcut : cutE (m.at_ 2) ≤ 9223372036854775807 := by unfold cutE; omega
 refine Fx.mk Tryz.func148 k148 nb_ ?_
 dsimp only [c148, kG, kS, kH, kM, kN, kF, kL, envOf, Nat.reduceAdd]
 refine Cx.ent (Ent.trans (Ent.of t1.out) (Ent.cons (Ent.trans (Ent.of t2.out) (Ent.cons (Ent.of t3.out))))) ?_
 refine Cx.openp (a := some ⟨u, 0, none⟩) rfl ?_
 rintro ⟨sh, lm⟩
 simp only [supL, List.cons_append, List.nil_append]
 refine go ?_
 refine Sx.ca rfl (cellsLoad (b := mp) (m := m) 2 hl) ?_
 rintro v L' ⟨rfl, rfl⟩
 refine go ?_
 refine Sx.ca rfl (epochCut (m.at_ 2) hlt) ?_
 rintro v L' ⟨rfl, rfl⟩
 refine go ?_
 refine Cx.ent (SupO.close (a := some ⟨u, 0, none⟩) (sh := sh) (lm := lm) (mp := mp) (pb := pb) (x := x) s rfl rfl rfl) ?_
 refine Cx.ordc rfl kr_ ?_
 refine ge ?_
 refine Ev.caH kr_ rfl rfl (supReady (u := u) (mp := mp) (pb := pb) (x := x) (s := s) (now := cutE (m.at_ 2)) (by omega) (by omega) hcut) (Pres.deps kr_) ?_
 rintro v L' ⟨rfl, rfl⟩
 refine ge ?_
 refine go ?_
 have hrl : (s.ready (cutE (m.at_ 2))).xs.length ≤ 1000000000 := by simp only [SupS.ready, List.length_append]; omega
 refine Sx.ca rfl (takeKept (b := b) (u := u) (mp := mp) (pb := pb) (x := x) (s := s.ready (cutE (m.at_ 2))) hrl) ?_
 rintro v L' ⟨rfl, rfl⟩
 by_cases hxs : (s.ready (cutE (m.at_ 2))).xs = []
 ·have e : takeStep x.pool x.ba m s t = (m.tick, s.ready (cutE (m.at_ 2)), ⟨1, 0, false, cutE (m.at_ 2), PopS.init x.ba, false⟩) := by
   unfold takeStep
   rw [hd, h0]
   simp only [Bool.false_eq_true, if_false, keepT, if_pos hxs, hi.1, hi.2]
  have hk : (s.ready (cutE (m.at_ 2))).kept = s.ready (cutE (m.at_ 2)) := by unfold SupS.kept; rw [hxs]; simp only [List.dropLast_nil]; rw [← hxs]
  rw [e, decide_eq_false (fun h : (s.ready (cutE (m.at_ 2))).xs ≠ [] => h hxs), hk, hxs]
  refine go ?_
  refine Sx.ca rfl (takeAsk (b := b) (u := u) (mp := mp) (pb := pb) (x := x) (s := s.ready (cutE (m.at_ 2))) hx) ?_
  rintro v L' rfl
  refine go ?_
  exact Kr.none (.inl rfl) (Ent.refl _) rfl
 ·have e : takeStep x.pool x.ba m s t = (m.tick, (s.ready (cutE (m.at_ 2))).kept, ⟨0, lastI (s.ready (cutE (m.at_ 2))).xs, true, cutE (m.at_ 2), t.q, true⟩) := by
   unfold takeStep
   rw [hd, h0]
   simp only [Bool.false_eq_true, if_false, keepT, if_neg hxs]
  rw [e, decide_eq_true (show (s.ready (cutE (m.at_ 2))).xs ≠ [] from hxs)]
  refine go ?_
  exact Kr.none (.inl rfl) (TakeO.closeD _ rfl rfl rfl rfl) rfl
theorem takePopped {b u mp pb p : Nat} {x : Cn} {s : SupS} {t : TakeS} {n1 n2 n3 : Value} {cnt : Int} {F1 F2 : St} {k : Sk} (hq : t.q.done = true) (hi : t.is_ = false) (hb : s.xs.length ≤ 1000000)
  [t1 : Take L (some ⟨b, 0, none⟩) (tkV u .nilFunc n1 n2 n3 cnt (.pointer (some ⟨p, 0, none⟩)) t.chunk t.seen t.is_) F1] [t2 : Take F1 (some ⟨u, 0, none⟩) (SupO mp pb x s) F2] [t3 : Take F2 (some ⟨p, 0, none⟩) (PopO pb k t.q) G] :
  Fx Tryz.prog 223 [.pointer (some ⟨b, 0, none⟩)] L
   (fun v L' => L' = pt (some ⟨b, 0, none⟩) (TakeO u pb k (popped s t).2) :: pt (some ⟨u, 0, none⟩) (SupO mp pb x (popped s t).1) :: G) := by
 refine Fx.mk Tryz.func223 k223 nb_ ?_
 dsimp only [c223, kG, kS, kH, kM, kN, kF, kL, envOf, Nat.reduceAdd]
 refine Cx.ent (Ent.trans (Ent.of t1.out) (Ent.cons (Ent.trans (Ent.of t2.out) (Ent.cons (Ent.of t3.out))))) ?_
 have hlen : ∀ h, holds (tkB b u .nilFunc n1 n2 n3 cnt (.pointer (some ⟨p, 0, none⟩)) t.chunk t.seen t.is_ :: pt (some ⟨u, 0, none⟩) (SupO mp pb x s) :: pt (some ⟨p, 0, none⟩) (PopO pb k t.q) :: G) h → t.q.got.length ≤ 8 := by
  intro h hh
  have h1 := (inferInstance : Take (tkB b u .nilFunc n1 n2 n3 cnt (.pointer (some ⟨p, 0, none⟩)) t.chunk t.seen t.is_ :: pt (some ⟨u, 0, none⟩) (SupO mp pb x s) :: pt (some ⟨p, 0, none⟩) (PopO pb k t.q) :: G) (some ⟨p, 0, none⟩) (PopO pb k t.q) _).out h hh
  obtain ⟨y, hy⟩ := holds_ex.1 h1
  exact (holds_lift.1 hy).1.len
 refine Cx.pure hlen fun h8 => ?_
 refine go ?_
 refine Sx.ca rfl (popGot (b := p) (sb := pb) (k := k) (q := t.q) hq) ?_
 rintro v L' ⟨ro, co, rfl, rfl⟩
 refine go ?_
 cases hg : t.q.got with
 | nil =>
   have e : popped s t = (s, { t with done := true }) := by unfold popped; rw [hg]
   rw [e]
   refine go ?_
   refine Kr.none (.inl rfl) ?_ rfl
   refine Ent.trans ?_ (TakeO.closeD (n1 := n1) (n2 := n2) (n3 := n3) (cnt := cnt) (pp := .pointer (some ⟨p, 0, none⟩)) { t with done := true } rfl rfl rfl rfl)
   exact ent
 | cons y l =>
   have e : popped s t = (s.give l, { t with chunk := y, is_ := true, done := true }) := by unfold popped; rw [hg]
   rw [e]
   rw [hg] at h8
   simp only [List.length_cons] at h8 ⊢
   refine Cx.cyes rfl (decide_eq_true (by omega)) ?_
   refine Cx.rowkey (a := ro) fun hx0 hn0 hc0 hk0 => ?_
   obtain ⟨rg, rfl⟩ : ∃ g, ro = some ⟨g, 0, none⟩ := by
    rcases hk0 with h | h
    ·omega
    ·exact h
   refine go ?_
   refine Sx.pv rfl ⟨by omega, by omega⟩ ?_
   refine Sx.ldr (b := rg) rfl (v := .int .i64 y) rfl ?_
   refine go ?_
   refine Cx.orde rfl kr_ ?_
   refine ge ?_
   refine Ev.caH kr_ rfl rfl (supPut (u := u) (mp := mp) (pb := pb) (x := x) (s := s) (ys := l) (Rd.suffix_ (g := rg) (i := 1) hx0 hn0 (by omega)) (by omega)) (Pres.deps kr_) ?_
   rintro v L' ⟨rfl, rfl⟩
   refine ge ?_
   refine Kr.none (.inl rfl) ?_ rfl
   refine Ent.trans ?_ (TakeO.closeD (n1 := n1) (n2 := n2) (n3 := n3) (cnt := cnt) (pp := .pointer (some ⟨p, 0, none⟩)) { t with chunk := y, is_ := true, done := true } rfl rfl rfl rfl)
   exact ent
structure TakeS.ok (t : TakeS) : Prop where
 a : t.at_ ≤ 1
 i : t.done = false → t.chunk = 0 ∧ t.is_ = false
theorem takeStepC {b u mp pb : Nat} {x : Cn} {s : SupS} {m : Mm} {t : TakeS} {F1 F2 F3 : St} (hx : x.ok) (hl : x.len ≤ m.ws.length) (ht : t.ok) (hb : s.xs.length + s.lm.size ≤ 1000000)
  [t1 : Take L (some ⟨b, 0, none⟩) (TakeO u pb x.pool t) F1] [t2 : Take F1 (some ⟨u, 0, none⟩) (SupO mp pb x s) F2] [t3 : Take F2 (some ⟨mp, 0, none⟩) (MemO m) F3] [t4 : Take F3 (some ⟨pb, 0, none⟩) (SkO mp x.pool) G] :
  Fx Tryz.prog 57 [.pointer (some ⟨b, 0, none⟩)] L
   (fun v L' => v = .bool (!t.done) ∧ L' = pt (some ⟨b, 0, none⟩) (TakeO u pb x.pool (takeStep x.pool x.ba m s t).2.2) :: pt (some ⟨u, 0, none⟩) (SupO mp pb x (takeStep x.pool x.ba m s t).2.1) :: pt (some ⟨mp, 0, none⟩) (MemO (takeStep x.pool x.ba m s t).1) :: F3) := by
 have hl3 : 3 ≤ x.len := by unfold Cn.len; omega
 refine Fx.mk Tryz.func57 k57 nb_ ?_
 dsimp only [c57, kG, kS, kH, kM, kN, kF, kL, envOf, Nat.reduceAdd]
 refine Cx.ent (Ent.trans (Ent.of t1.out) (Ent.cons (Ent.trans (Ent.of t2.out) (Ent.cons (Ent.trans (Ent.of t3.out) (Ent.cons (Ent.of t4.out))))))) ?_
 refine Cx.pure (memKey (b := mp) (m := m)) fun hm => ?_
 cases hd : t.done with
 | true =>
   have e : takeStep x.pool x.ba m s t = (m, s, t) := by unfold takeStep; rw [hd]; rfl
   rw [e]
   refine Cx.openp (a := some ⟨b, 0, none⟩) (TakeO.d hd) ?_
   rintro ⟨n1, n2, n3, pp, cnt⟩
   simp only [takeDL, List.cons_append, List.nil_append]
   refine go ?_
   refine Sx.ca rfl (machStepDone (b := b)) ?_
   rintro v L' ⟨rfl, rfl⟩
   refine go ?_
   exact Kr.one (.inr rfl) rfl (Ent.trans (TakeO.closeD t hd rfl rfl rfl) (Ent.cons (Ent.cons (Ent.cons (Ent.of t4.back))))) ⟨rfl, rfl⟩
 | false =>
   have ha := ht.a
   rcases (show t.at_ = 0 ∨ t.at_ = 1 by omega) with h0 | h0
   ·refine Cx.openp (a := some ⟨b, 0, none⟩) (TakeO.l hd h0) ?_
    rintro ⟨n1, n2, n3, pp, cnt⟩
    simp only [takeLL, List.cons_append, List.nil_append]
    refine go ?_
    refine Sx.ca rfl (machStep (b := b) kr_ (takeLook (b := b) (u := u) (mp := mp) (pb := pb) (x := x) (s := s) (m := m) (t := t) hx hm.1 (by omega) hd h0 (ht.i hd) hb)) ?_
    rintro v L' ⟨rfl, w, rfl⟩
    refine go ?_
    exact Kr.one (.inr rfl) rfl (Ent.cons (Ent.cons (Ent.cons (Ent.of t4.back)))) ⟨rfl, rfl⟩
   ·refine Cx.openp (a := some ⟨b, 0, none⟩) (TakeO.p hd (by omega)) ?_
    rintro ⟨p, cnt⟩
    simp only [takePL, List.cons_append, List.nil_append]
    have hk := hx.pool (n := m.ws.length) hl hm.2
    cases hq : (popStep x.pool m t.q).1.done with
    | true =>
      have e : takeStep x.pool x.ba m s t = ((popStep x.pool m t.q).2, popped s { t with q := (popStep x.pool m t.q).1 }) := by
       unfold takeStep
       rw [hd, h0]
       simp only [Bool.false_eq_true, if_false, hq, if_true]
      rw [e]
      refine go ?_
      refine Sx.ca rfl (machStep (b := b) kr_ (machGoes (b := b) kr_ (popStepC (b := p) (mp := mp) (sb := pb) (k := x.pool) (m := m) (q := t.q) hk) (R2 := fun v L' => v = .tuple #[] ∧ ∃ w : Value, L' = pt (some ⟨b, 0, none⟩) (TakeO u pb x.pool (popped s { t with q := (popStep x.pool m t.q).1 }).2) :: pt (some ⟨u, 0, none⟩) (SupO mp pb x (popped s { t with q := (popStep x.pool m t.q).1 }).1) :: pt (some ⟨mp, 0, none⟩) (MemO (popStep x.pool m t.q).2) :: pt (some ⟨pb, 0, none⟩) (SkO mp x.pool) :: G) ?_)) ?_
      ·rintro v L1 ⟨rfl, rfl⟩
       have hon := machOnYes (b := b) kr_ (fd := 194) (ft := 223) (w := .pointer (some ⟨p, 0, none⟩)) (u := .pointer (some ⟨b, 0, none⟩)) (L := pt (some ⟨p, 0, none⟩) (PopO pb x.pool (popStep x.pool m t.q).1) :: pt (some ⟨mp, 0, none⟩) (MemO (popStep x.pool m t.q).2) :: tkB b u .nilFunc (mth 193 p) (mth 194 p) (mth 223 b) (IntKind.i64.wrap (cnt + 1)) (.pointer (some ⟨p, 0, none⟩)) t.chunk t.seen t.is_ :: pt (some ⟨u, 0, none⟩) (SupO mp pb x s) :: pt (some ⟨pb, 0, none⟩) (SkO mp x.pool) :: G)
        ((popDoneC (b := p) (sb := pb) (k := x.pool) (q := (popStep x.pool m t.q).1)).mono (by rintro v L' ⟨rfl, rfl⟩; exact ⟨by rw [hq], rfl⟩)) kr_
        (takePopped (b := b) (u := u) (mp := mp) (pb := pb) (p := p) (x := x) (s := s) (t := { t with q := (popStep x.pool m t.q).1 }) (k := x.pool) hq (ht.i hd).2 (by omega))
       refine hon.mono ?_
       rintro v L' ⟨rfl, w, rfl⟩
       exact ⟨rfl, w, rfl⟩
      ·rintro v L' ⟨rfl, w, _, w2, _, w3, rfl⟩
       refine go ?_
       exact Kr.one (.inr rfl) rfl (Ent.cons (Ent.cons (Ent.cons (Ent.of t4.back)))) ⟨rfl, rfl⟩
    | false =>
      have e : takeStep x.pool x.ba m s t = ((popStep x.pool m t.q).2, s, { t with q := (popStep x.pool m t.q).1 }) := by
       unfold takeStep
       rw [hd, h0]
       simp only [Bool.false_eq_true, if_false, hq]
      rw [e]
      refine go ?_
      refine Sx.ca rfl (machStep (b := b) kr_ (machGoes (b := b) kr_ (popStepC (b := p) (mp := mp) (sb := pb) (k := x.pool) (m := m) (q := t.q) hk) (R2 := fun v L' => v = .tuple #[] ∧ L' = tkB b u (mth 238 b) (mth 193 p) (mth 194 p) (mth 223 b) (IntKind.i64.wrap (cnt + 1)) (.pointer (some ⟨p, 0, none⟩)) t.chunk t.seen t.is_ ::
       pt (some ⟨p, 0, none⟩) (PopO pb x.pool (popStep x.pool m t.q).1) :: pt (some ⟨mp, 0, none⟩) (MemO (popStep x.pool m t.q).2) :: pt (some ⟨u, 0, none⟩) (SupO mp pb x s) :: pt (some ⟨pb, 0, none⟩) (SkO mp x.pool) :: G) ?_)) ?_
      ·rintro v L1 ⟨rfl, rfl⟩
       have hon := machOnNo (b := b) kr_ (fd := 194) (w := .pointer (some ⟨p, 0, none⟩)) (L := pt (some ⟨p, 0, none⟩) (PopO pb x.pool (popStep x.pool m t.q).1) :: pt (some ⟨mp, 0, none⟩) (MemO (popStep x.pool m t.q).2) :: tkB b u .nilFunc (mth 193 p) (mth 194 p) (mth 223 b) (IntKind.i64.wrap (cnt + 1)) (.pointer (some ⟨p, 0, none⟩)) t.chunk t.seen t.is_ :: pt (some ⟨u, 0, none⟩) (SupO mp pb x s) :: pt (some ⟨pb, 0, none⟩) (SkO mp x.pool) :: G)
        ((popDoneC (b := p) (sb := pb) (k := x.pool) (q := (popStep x.pool m t.q).1)).mono (by rintro v L' ⟨rfl, rfl⟩; exact ⟨by rw [hq], rfl⟩))
       refine hon.mono ?_
       rintro v L' ⟨rfl, rfl⟩
       exact ⟨rfl, rfl⟩
      ·rintro v L' ⟨rfl, w, _, w2, _, rfl⟩
       refine go ?_
       refine Kr.one (.inr rfl) rfl ?_ ⟨rfl, rfl⟩
       refine Ent.trans (TakeO.closeP (p := p) { t with q := (popStep x.pool m t.q).1 } hd (by dsimp only; omega) rfl rfl rfl rfl) ?_
       refine Ent.cons ?_
       refine Ent.trans ?_ (Ent.cons (Ent.cons (Ent.of t4.back)))
       exact ent
theorem takeStep_ok {k : Sk} {ba : Int} {m : Mm} {s : SupS} {t : TakeS} (h : t.ok) : (takeStep k ba m s t).2.2.ok := by
 unfold takeStep
 split
 ·exact h
 ·rename_i hd
  have hd' : t.done = false := by simpa using hd
  have hi := h.i hd'
  split
  ·unfold keepT
   dsimp only
   split
   ·rename_i hr
    split at hr
    ·cases hr
    ·cases hr; exact ⟨by show t.at_ ≤ 1; exact h.a, fun h => by cases h⟩
   ·exact ⟨by simp, fun _ => ⟨hi.1, hi.2⟩⟩
  ·dsimp only
   split
   ·unfold popped
    split
    ·exact ⟨h.a, fun h => by cases h⟩
    ·exact ⟨h.a, fun h => by cases h⟩
   ·exact ⟨h.a, fun _ => hi⟩
theorem takeInit_ok {ba : Int} {s : SupS} : (takeInit ba s).2.ok := by
 unfold takeInit keepT
 split
 ·rename_i r hr
  split at hr
  ·cases hr
  ·cases hr; exact ⟨by simp [TakeS.none_], fun h => by cases h⟩
 ·split
  ·exact ⟨by simp [TakeS.none_], fun _ => ⟨rfl, rfl⟩⟩
  ·exact ⟨by simp, fun _ => ⟨rfl, rfl⟩⟩
theorem takeDone {b u pb : Nat} {k : Sk} {t : TakeS} {F1 : St} (ht : t.ok) [t1 : Take L (some ⟨b, 0, none⟩) (TakeO u pb k t) F1] : Fx Tryz.prog 56 [.pointer (some ⟨b, 0, none⟩)] L (fun v L' => v = .bool t.done ∧ L = L') := by
 refine Fx.kept (t := t1) ?_
 refine Fx.mk Tryz.func56 k56 nb_ ?_
 dsimp only [c56, kG, kS, kH, kM, kN, kF, kL, envOf, Nat.reduceAdd]
 refine Cx.ent (Ent.of t1.out) ?_
 cases hd : t.done with
 | true =>
   refine Cx.openp (a := some ⟨b, 0, none⟩) (TakeO.d hd) ?_
   rintro ⟨n1, n2, n3, pp, cnt⟩
   simp only [takeDL, List.cons_append, List.nil_append]
   refine go ?_
   refine Sx.ca rfl (machDoneYes (b := b)) ?_
   rintro v L' ⟨rfl, rfl⟩
   refine go ?_
   exact Kr.one (.inr rfl) rfl (TakeO.closeD t hd rfl rfl rfl) ⟨rfl, rfl⟩
 | false =>
   have ha := ht.a
   rcases (show t.at_ = 0 ∨ t.at_ = 1 by omega) with h0 | h0
   ·refine Cx.openp (a := some ⟨b, 0, none⟩) (TakeO.l hd h0) ?_
    rintro ⟨n1, n2, n3, pp, cnt⟩
    simp only [takeLL, List.cons_append, List.nil_append]
    refine go ?_
    refine Sx.ca rfl (machDoneNo (b := b)) ?_
    rintro v L' ⟨rfl, rfl⟩
    refine go ?_
    exact Kr.one (.inr rfl) rfl (TakeO.closeL t hd h0 rfl rfl rfl) ⟨rfl, rfl⟩
   ·refine Cx.openp (a := some ⟨b, 0, none⟩) (TakeO.p hd (by omega)) ?_
    rintro ⟨p, cnt⟩
    simp only [takePL, List.cons_append, List.nil_append]
    refine go ?_
    refine Sx.ca rfl (machDoneNo (b := b)) ?_
    rintro v L' ⟨rfl, rfl⟩
    refine go ?_
    exact Kr.one (.inr rfl) rfl (TakeO.closeP (p := p) t hd (by omega) rfl rfl rfl rfl) ⟨rfl, rfl⟩
theorem takeChunk {b u pb : Nat} {k : Sk} {t : TakeS} {F1 : St} (ht : t.ok) [t1 : Take L (some ⟨b, 0, none⟩) (TakeO u pb k t) F1] : Fx Tryz.prog 58 [.pointer (some ⟨b, 0, none⟩)] L (fun v L' => v = .tuple #[.int .i64 t.chunk, .bool t.is_] ∧ L = L') := by
 refine Fx.kept (t := t1) ?_
 refine Fx.mk Tryz.func58 k58 nb_ ?_
 dsimp only [c58, kG, kS, kH, kM, kN, kF, kL, envOf, Nat.reduceAdd]
 refine Cx.ent (Ent.of t1.out) ?_
 refine go ?_
 refine Sx.ca rfl (takeDone (b := b) (u := u) (pb := pb) (k := k) (t := t) ht) ?_
 rintro v L' ⟨rfl, rfl⟩
 cases hd : t.done with
 | false =>
   refine go ?_
   exact Kr.two (.inr rfl) rfl rfl (Ent.refl _) ⟨by rw [(ht.i hd).1, (ht.i hd).2], rfl⟩
 | true =>
   refine go ?_
   refine Cx.openp (a := some ⟨b, 0, none⟩) (TakeO.d hd) ?_
   rintro ⟨n1, n2, n3, pp, cnt⟩
   simp only [takeDL, List.cons_append, List.nil_append]
   refine Cx.ordc rfl kr_ ?_
   refine ge ?_
   refine go ?_
   exact Kr.two (.inr rfl) rfl rfl (TakeO.closeD t hd rfl rfl rfl) ⟨rfl, rfl⟩
end
end Go.Proofs.YtggnbdeokmdjbaaGreat


namespace Go.Proofs.YtggnbdeokmdjbaaGreat
open Go
attribute [local irreducible] Sx Cx Rx Fx Krg Ksq Kbl Klp Kr
section
variable {L F G : St}
theorem layPinN {x : Cn} (h : x.ok) (n : Nat) (hn : n < x.w) : Fx Tryz.prog 35 [x.v, .int .i64 n] L (fun v L' => v = .int .i64 ((3 + n : Nat) : Int) ∧ L = L') := by
 refine (layPin _ _ _ _ _ _ h (n : Int)).mono ?_
 rintro v L' ⟨rfl, rfl⟩
 refine ⟨congrArg (Value.int .i64) ?_, rfl⟩
 unfold cellC
 rw [if_pos ⟨by omega, by simp only [manyC]; omega⟩]
 simp only [startC]
 push_cast; rfl
abbrev EpO (mp : Nat) (x : Cn) : Option Addr → As := Blk 265 [.pointer (some ⟨mp, 0, none⟩), .int .i64 2, .int .i64 3, .int .i64 (x.w : Nat)]
abbrev GaO (mp e : Nat) : Option Addr → As := Blk 164 [.pointer (some ⟨mp, 0, none⟩), .pointer (some ⟨e, 0, none⟩)]
theorem epochCell {g mp : Nat} {T : TypeId} {m : Mm} (i : Int) {F G : St} [t : Take L (some ⟨mp, 0, none⟩) (MemO m) F] [s : Take L (some ⟨g, 0, none⟩) (Blk T [.pointer (some ⟨mp, 0, none⟩)]) G] :
  Fx Tryz.prog 181 [.int .i64 i, .pointer (some ⟨g, 0, none⟩)] L (fun v L' => v = .bool (decide (0 ≤ i ∧ i < m.ws.length)) ∧ L = L') := by
 refine Fx.mk Tryz.func181 k181 nb_ ?_
 dsimp only [c181, kG, kS, kH, kM, kN, kF, kL, envOf, Nat.reduceAdd]
 refine go ?_
 refine Sx.ifp rfl (fun h => ?_) (fun h => ?_)
 ·refine go ?_
  refine Sx.ca rfl (cellsLen (b := mp) (m := m)) ?_
  rintro v L' ⟨rfl, rfl⟩
  refine go ?_
  exact Kr.one (.inr rfl) rfl (Ent.refl _) ⟨congrArg Value.bool (decide_eq_decide.2 (by omega)), rfl⟩
 ·refine go ?_
  exact Kr.one (.inr rfl) rfl (Ent.refl _) ⟨congrArg Value.bool (decide_eq_false (fun hh => h hh.1)).symm, rfl⟩
theorem epochNew {mp : Nat} {m : Mm} {x : Cn} (hx : x.ok) (hl : x.len ≤ m.ws.length) [t : Take L (some ⟨mp, 0, none⟩) (MemO m) F] :
  Fx Tryz.prog 91 [.pointer (some ⟨mp, 0, none⟩), .int .i64 2, .int .i64 3, .int .i64 (x.w : Nat)] L (fun v L' => ∃ e, v = .tuple #[.pointer (some ⟨e, 0, none⟩), .int .i64 0] ∧ L' = pt (some ⟨e, 0, none⟩) (EpO mp x) :: L) := by
 have hb1 := hx.1
 have hlen : 3 + x.w ≤ x.len := by unfold Cn.len; omega
 refine Fx.mk Tryz.func91 k91 nb_ ?_
 dsimp only [c91, kG, kS, kH, kM, kN, kF, kL, envOf, Nat.reduceAdd]
 refine Cx.pure (memKey (b := mp) (m := m)) fun hm => ?_
 refine Cx.sq ?_
 refine Cx.rg ?_
 refine Sx.bx rfl rfl fun g => ?_
 refine go ?_
 refine Sx.gyes rfl (decide_eq_false (by omega)) ?_
 refine go ?_
 refine Sx.gyes rfl (decide_eq_false (by omega)) ?_
 refine go ?_
 refine Sx.cl (p := []) (q := [.pointer (some ⟨g, 0, none⟩)]) rfl kr_ rfl (epochCell (mp := mp) (m := m) 2) ?_
 rintro v L' ⟨rfl, rfl⟩
 rw [decide_eq_true (show (0 : Int) ≤ 2 ∧ (2 : Int) < m.ws.length by omega)]
 refine go ?_
 refine Sx.cl (p := []) (q := [.pointer (some ⟨g, 0, none⟩)]) rfl kr_ rfl (epochCell (mp := mp) (m := m) 3) ?_
 rintro v L' ⟨rfl, rfl⟩
 rw [decide_eq_true (show (0 : Int) ≤ 3 ∧ (3 : Int) < m.ws.length by omega)]
 refine go ?_
 rw [w64 (n := (3 : Int) + x.w) (by omega) (by omega), w64 (n := (3 : Int) + x.w - 1) (by omega) (by omega)]
 refine Sx.cl (p := []) (q := [.pointer (some ⟨g, 0, none⟩)]) rfl kr_ rfl (epochCell (mp := mp) (m := m) ((3 : Int) + x.w - 1)) ?_
 rintro v L' ⟨rfl, rfl⟩
 rw [decide_eq_true (show (0 : Int) ≤ (3 : Int) + x.w - 1 ∧ (3 : Int) + x.w - 1 < m.ws.length by omega)]
 refine go ?_
 refine Sx.bx rfl rfl fun q => ?_
 refine go ?_
 exact Kr.two (.inr rfl) rfl rfl (Ent.cons Ent.drop) ⟨q, rfl, rfl⟩
set_option maxHeartbeats 1000000 in
theorem gatherNew {mp : Nat} {m : Mm} {x : Cn} (hx : x.ok) (hl : x.len ≤ m.ws.length) [t : Take L (some ⟨mp, 0, none⟩) (MemO m) F] :
  Fx Tryz.prog 90 [.pointer (some ⟨mp, 0, none⟩), x.v] L (fun v L' => ∃ g e, v = .tuple #[.pointer (some ⟨g, 0, none⟩), .int .i64 0] ∧ L' = pt (some ⟨g, 0, none⟩) (GaO mp e) :: pt (some ⟨e, 0, none⟩) (EpO mp x) :: L) := by
 refine Fx.mk Tryz.func90 k90 nb_ ?_
 dsimp only [c90, kG, kS, kH, kM, kN, kF, kL, envOf, Nat.reduceAdd]
 refine Cx.sq ?_
 refine Cx.rg ?_
 refine Sx.bx rfl rfl fun g => ?_
 refine go ?_
 refine Cx.ordc rfl kr_ ?_
 refine ge ?_
 refine Ev.cakH kr_ rfl rfl (may_ (x.w : Int) x.c x.wd x.sl x.ca x.ba) ?_
 rw [decide_eq_true (show MayC (x.w : Int) x.c x.wd x.sl x.ca x.ba from hx)]
 refine ge ?_
 refine Ev.cakH kr_ rfl rfl (cellsLen (b := mp) (m := m)) ?_
 refine ge ?_
 refine Ev.cakH kr_ rfl rfl (layLen (x.w : Int) x.c x.wd x.sl x.ca x.ba hx) ?_
 rw [x.lenC]
 refine ge ?_
 refine Cx.cno rfl (decide_eq_false (by omega)) ?_
 refine go ?_
 refine Cx.ordc rfl kr_ ?_
 refine ge ?_
 refine Ev.cakH kr_ rfl rfl (layPinN hx 0 (by have := hx.1; omega)) ?_
 refine ge ?_
 refine Ev.caH kr_ rfl rfl (epochNew (mp := mp) (m := m) (x := x) hx hl) (Pres.deps kr_) ?_
 rintro v L' ⟨e, rfl, rfl⟩
 refine ge ?_
 refine go ?_
 refine Sx.bx rfl rfl fun q => ?_
 refine go ?_
 exact Kr.two (.inr rfl) rfl rfl (Ent.cons (Ent.cons Ent.drop)) ⟨q, e, rfl, rfl⟩
end
end Go.Proofs.YtggnbdeokmdjbaaGreat


namespace Go.Proofs.YtggnbdeokmdjbaaGreat
open Go
attribute [local irreducible] Sx Cx Rx Fx Krg Ksq Kbl Klp Kr
section
variable {L F G : St}
theorem getPin (w : Nat) (hw : w < 18446744073709551616) : Fx Tryz.prog 273 [wd w] L (fun v L' => v = .tuple #[.int .i64 (if w % 2 = 1 then pinI w else 0), .bool (decide (w % 2 = 1))] ∧ L = L') := by
 refine Fx.mk Tryz.func273 k273 nb_ ?_
 dsimp only [c273, kG, kS, kH, kM, kN, kF, kL, envOf, Nat.reduceAdd]
 refine go ?_
 refine Sx.ca rfl (bitsGet w 0 1 hw (by omega) (by omega)) ?_
 rintro v L' ⟨rfl, rfl⟩
 rw [show w / 2 ^ 0 % 2 ^ 1 = w % 2 by omega]
 refine go ?_
 refine Cx.ifp rfl (fun h => ?_) (fun h => ?_)
 ·refine go ?_
  refine Kr.two (.inr rfl) rfl rfl (Ent.refl _) ⟨?_, rfl⟩
  rw [if_neg (by omega), decide_eq_false (by omega)]
 ·refine go ?_
  refine Sx.ca rfl (bitsGet w 1 63 hw (by omega) (by omega)) ?_
  rintro v L' ⟨rfl, rfl⟩
  rw [show w / 2 ^ 1 % 2 ^ 63 = w / 2 by omega]
  refine go ?_
  rw [w64 (n := ((w / 2 : Nat) : Int)) (by omega) (by omega)]
  refine Kr.two (.inr rfl) rfl rfl (Ent.refl _) ⟨?_, rfl⟩
  rw [if_pos (by omega), decide_eq_true (by omega)]
  rfl
structure AdvS.ok (n : Nat) (s : AdvS) : Prop where
 w : s.was < 18446744073709551616
 k : s.worker ≤ n
 a : s.at_ ≤ 2
 l : s.done = false → s.at_ = 1 → s.worker < n
 z : s.at_ = 0 → s.worker = 0
theorem AdvS.ok_init {n : Nat} : AdvS.init.ok n := ⟨by simp [AdvS.init], by simp [AdvS.init], by simp [AdvS.init], by simp [AdvS.init], by simp [AdvS.init]⟩
theorem advStep_ok {n : Nat} {m : Mm} {s : AdvS} (hn : 1 ≤ n) (hm : m.ok) (h : s.ok n) : (advStep n m s).1.ok n := by
 have hw := h.w; have hk := h.k; have ha := h.a
 unfold advStep
 split
 ·exact h
 ·rename_i hd
  split
  ·rename_i e
   exact ⟨Mm.at_lt hm _, hk, by simp, fun _ _ => by have := h.z e; dsimp only; omega, by simp⟩
  ·rename_i e
   have hl := h.l (by simpa using hd) e
   split
   ·exact ⟨hw, hk, ha, (fun h => by cases h), h.z⟩
   ·refine ⟨hw, by dsimp only; omega, by dsimp only; split <;> omega, fun _ h1 => ?_, by dsimp only; split <;> intro h <;> cases h⟩
    dsimp only at h1 ⊢
    split at h1
    ·assumption
    ·omega
  ·exact ⟨hw, hk, ha, (fun h => by cases h), h.z⟩
def advFn (s : AdvS) : FuncId := match s.at_ with | 0 => 185 | 1 => 237 | _ => 274
def advNx (a : Option Addr) (s : AdvS) : Value := bif s.done then .nilFunc else .func (.func (advFn s)) #[.pointer a] #[]
def advL (T : TypeId) (e : Nat) (x : Cn) (s : AdvS) (a : Option Addr) (y : Int) : St :=
 [lift (s.ok x.w), pt a (Blk T [advNx a s, .nilFunc, .nilFunc, .nilFunc, .int .i64 y, .pointer (some ⟨e, 0, none⟩), wd s.was, .int .i64 (s.worker : Nat), .bool s.won])]
def AdvT (T : TypeId) (e : Nat) (x : Cn) (s : AdvS) (a : Option Addr) : As := exs (advL T e x s a)
abbrev AdvO := AdvT 270
theorem AdvO.close {T : TypeId} {e : Nat} {x : Cn} {a : Option Addr} {cnt : Int} {v0 v1 v2 v3 : Value} {F : St} (s : AdvS) (hs : s.ok x.w) [t : Take L a (Blk T [v0, .nilFunc, .nilFunc, .nilFunc, .int .i64 cnt, .pointer (some ⟨e, 0, none⟩), v1, v2, v3]) F]
  (h0 : v0 = advNx a s) (h1 : v1 = wd s.was) (h2 : v2 = .int .i64 (s.worker : Nat)) (h3 : v3 = .bool s.won) : Ent L (pt a (AdvT T e x s) :: F) := by
 subst h0; subst h1; subst h2; subst h3
 refine Ent.trans (Ent.of t.out) ?_
 refine Ent.trans (Ent.lift hs (Ent.refl _)) ?_
 exact Ent.close (f := advL T e x s a) rfl cnt
end
end Go.Proofs.YtggnbdeokmdjbaaGreat


namespace Go.Proofs.YtggnbdeokmdjbaaGreat
open Go
attribute [local irreducible] Sx Cx Rx Fx Krg Ksq Kbl Klp Kr
def adAt (n : Nat) (a : AdvS) : Nat := if a.at_ = 0 then 0 else if a.at_ = 1 then a.worker + 1 else n + 1
section
variable {L F G : St}
def radvL (T : TypeId) (e n : Nat) (s : AdvS) (a : Option Addr) (y : Nat) : St :=
 [lift (s.ok n ∧ (s.done = false → y = adAt n s ∧ s.won = false)), pt a (Blk T [.pointer (some ⟨e, 0, none⟩), .int .i64 (y : Nat), wd s.was, .bool s.won, .bool s.done])]
def RAdvT (T : TypeId) (e n : Nat) (s : AdvS) (a : Option Addr) : As := exs (radvL T e n s a)
abbrev RAdvO := RAdvT 160
theorem RAdvO.close {e n b y : Nat} {v1 v2 v3 v4 : Value} (s : AdvS) (hs : s.ok n) (hy : s.done = false → y = adAt n s ∧ s.won = false) (h1 : v1 = .int .i64 (y : Nat)) (h2 : v2 = wd s.was) (h3 : v3 = .bool s.won) (h4 : v4 = .bool s.done) :
  Ent (pt (some ⟨b, 0, none⟩) (Blk 160 [.pointer (some ⟨e, 0, none⟩), v1, v2, v3, v4]) :: G) (pt (some ⟨b, 0, none⟩) (RAdvO e n s) :: G) := by
 subst h1; subst h2; subst h3; subst h4
 refine Ent.trans (Ent.lift (p := s.ok n ∧ (s.done = false → y = adAt n s ∧ s.won = false)) ⟨hs, hy⟩ (Ent.refl _)) ?_
 exact Ent.close (f := radvL 160 e n s (some ⟨b, 0, none⟩)) rfl y
set_option maxHeartbeats 2000000 in
theorem refAdvStep {b re rm : Nat} {x : Cn} {m : Mm} {s : AdvS} {F1 F2 : St} (hx : x.ok) (hm : m.ok) (hl : x.len ≤ m.ws.length)
  [t1 : Take L (some ⟨b, 0, none⟩) (RAdvO re x.w s) F1] [t2 : Take F1 (some ⟨rm, 0, none⟩) (RMemO m) F2] [t3 : Take F2 (some ⟨re, 0, none⟩) (REpO x rm) G] :
  Fx Tryz.prog 93 [.pointer (some ⟨b, 0, none⟩)] L
   (fun v L' => v = .bool (!s.done) ∧ L' = pt (some ⟨b, 0, none⟩) (RAdvO re x.w (advStep x.w m s).1) :: pt (some ⟨rm, 0, none⟩) (RMemO (advStep x.w m s).2) :: F2) := by
 have hlenle := hx.len_le
 have hw64 : x.w ≤ 64 := by obtain ⟨b1, b2, b3, b4, b5, b6, b7⟩ := hx.b; omega
 have hl3 : 3 + x.w ≤ x.len := by unfold Cn.len; omega
 have hwp : 1 ≤ x.w := by obtain ⟨b1, b2, b3, b4, b5, b6, b7⟩ := hx.b; omega
 have hok' := fun (h : s.ok x.w) => advStep_ok (n := x.w) (m := m) (s := s) hwp hm h
 refine Fx.mk Tryz.func93 k93 nb_ ?_
 dsimp only [c93, kG, kS, kH, kM, kN, kF, kL, envOf, Nat.reduceAdd]
 refine Cx.ent (Ent.trans (Ent.of t1.out) (Ent.cons (Ent.trans (Ent.of t2.out) (Ent.cons (Ent.of t3.out))))) ?_
 refine Cx.openp (a := some ⟨b, 0, none⟩) rfl ?_
 intro y
 simp only [radvL, List.cons_append, List.nil_append]
 refine Cx.liftp fun hso => ?_
 obtain ⟨hs, hy⟩ := hso
 have hok' := hok' hs
 have hlw := hs.w
 cases hd : s.done with
 | true =>
   have e1 : advStep x.w m s = (s, m) := by unfold advStep; rw [hd]; rfl
   rw [e1]
   refine go ?_
   exact Kr.one (.inr rfl) rfl (Ent.trans (RAdvO.close s hs hy rfl rfl rfl (by rw [hd])) (Ent.cons (Ent.cons (Ent.of t3.back)))) ⟨rfl, rfl⟩
 | false =>
   obtain ⟨hy1, hwn⟩ := hy hd
   have ha := hs.a
   rcases (show s.at_ = 0 ∨ s.at_ = 1 ∨ s.at_ = 2 by omega) with h0 | h0 | h0
   ·have e1 : advStep x.w m s = ({ s with was := m.at_ 2, at_ := 1 }, m.tick) := by unfold advStep; rw [hd, h0]; rfl
    have hz := hs.z h0
    have hy0 : y = 0 := by rw [hy1]; unfold adAt; rw [if_pos h0]
    subst hy0
    rw [e1] at hok' ⊢
    refine go ?_
    refine Sx.ca rfl (refLoad (rm := rm) (m := m) 2 (by omega)) ?_
    rintro v L' ⟨rfl, rfl⟩
    refine go ?_
    refine Kr.one (.inr rfl) rfl ?_ ⟨rfl, rfl⟩
    refine Ent.trans (Ent.take (a := some ⟨b, 0, none⟩)) (Ent.trans (RAdvO.close (y := 1) { s with was := m.at_ 2, at_ := 1 } hok' (fun _ => ⟨by unfold adAt; dsimp only; rw [if_neg (by omega), if_pos rfl, hz], hwn⟩) rfl rfl (by rw [hwn]) (by rw [hd])) (Ent.cons ?_))
    exact Ent.cons (Ent.of t3.back)
   ·have hlk := hs.l hd h0
    have hyw : y = s.worker + 1 := by rw [hy1]; unfold adAt; rw [if_neg (by omega), if_pos h0]
    subst hyw
    have hpl := Mm.at_lt hm (3 + s.worker)
    have hval : Value.int .i64 (IntKind.i64.wrap (((s.worker + 1 : Nat) : Int) + 1)) = .int .i64 ((s.worker + 2 : Nat) : Int) := congrArg (Value.int .i64) (by rw [w64 (by omega) (by omega)]; omega)
    have hnext : s.worker + 2 = adAt x.w { s with worker := s.worker + 1, at_ := if s.worker + 1 < x.w then 1 else 2 } := by
     unfold adAt
     dsimp only
     by_cases hlt : s.worker + 1 < x.w
     ·rw [if_pos hlt, if_neg (by omega), if_pos rfl]
     ·rw [if_neg hlt, if_neg (by omega), if_neg (by omega)]; omega
    refine go ?_
    refine Cx.ordc rfl kr_ ?_
    refine ge ?_
    rw [decide_eq_true (show ((s.worker + 1 : Nat) : Int) ≤ (x.w : Int) by omega)]
    refine go ?_
    refine Cx.ordc rfl kr_ ?_
    refine ge ?_
    rw [w64 (n := (3 : Int) + ((s.worker + 1 : Nat) : Int)) (by omega) (by omega), w64 (n := (3 : Int) + ((s.worker + 1 : Nat) : Int) - 1) (by omega) (by omega), show (3 : Int) + ((s.worker + 1 : Nat) : Int) - 1 = ((3 + s.worker : Nat) : Int) by omega]
    refine Ev.caH kr_ rfl rfl (refLoad (rm := rm) (m := m) (3 + s.worker) (by omega)) (Pres.deps kr_) ?_
    rintro v L' ⟨rfl, rfl⟩
    refine ge ?_
    refine Ev.cakH kr_ rfl rfl (refGetPin (m.at_ (3 + s.worker)) hpl) ?_
    refine ge ?_
    refine go ?_
    by_cases hpb : m.at_ (3 + s.worker) % 2 = 1
    ·rw [decide_eq_true hpb, if_pos hpb]
     refine go ?_
     refine Sx.ca rfl (refCut s.was hlw) ?_
     rintro v L' ⟨rfl, rfl⟩
     by_cases hne : pinI (m.at_ (3 + s.worker)) = cutE s.was
     ·have e1 : advStep x.w m s = ({ s with worker := s.worker + 1, at_ := if s.worker + 1 < x.w then 1 else 2 }, m.tick) := by
       unfold advStep; rw [hd, h0]; simp only [Bool.false_eq_true, if_false]; rw [if_neg (fun h => h.2 hne)]
      rw [e1] at hok' ⊢
      refine go ?_
      refine Kr.one (.inr rfl) rfl ?_ ⟨rfl, rfl⟩
      refine Ent.trans (Ent.take (a := some ⟨b, 0, none⟩)) (Ent.trans (RAdvO.close (y := s.worker + 2) { s with worker := s.worker + 1, at_ := if s.worker + 1 < x.w then 1 else 2 } hok' (fun _ => ⟨hnext, hwn⟩) hval rfl (by rw [hwn]) (by rw [hd]; simp [hne])) (Ent.cons (Ent.cons (Ent.of t3.back))))
     ·have e1 : advStep x.w m s = ({ s with done := true }, m.tick) := by
       unfold advStep; rw [hd, h0]; simp only [Bool.false_eq_true, if_false]; rw [if_pos ⟨hpb, hne⟩]
      rw [e1] at hok' ⊢
      refine go ?_
      refine Kr.one (.inr rfl) rfl ?_ ⟨rfl, rfl⟩
      refine Ent.trans (Ent.take (a := some ⟨b, 0, none⟩)) (Ent.trans (RAdvO.close (y := s.worker + 2) { s with done := true } hok' (fun h => by cases h) hval rfl (by rw [hwn]) (by simp [hne])) (Ent.cons (Ent.cons (Ent.of t3.back))))
    ·rw [decide_eq_false hpb, if_neg hpb]
     have e1 : advStep x.w m s = ({ s with worker := s.worker + 1, at_ := if s.worker + 1 < x.w then 1 else 2 }, m.tick) := by
      unfold advStep; rw [hd, h0]; simp only [Bool.false_eq_true, if_false]; rw [if_neg (fun h => hpb h.1)]
     rw [e1] at hok' ⊢
     refine go ?_
     refine Kr.one (.inr rfl) rfl ?_ ⟨rfl, rfl⟩
     refine Ent.trans (Ent.take (a := some ⟨b, 0, none⟩)) (Ent.trans (RAdvO.close (y := s.worker + 2) { s with worker := s.worker + 1, at_ := if s.worker + 1 < x.w then 1 else 2 } hok' (fun _ => ⟨hnext, hwn⟩) hval rfl (by rw [hwn]) (by rw [hd])) (Ent.cons (Ent.cons (Ent.of t3.back))))
   ·have e1 : advStep x.w m s = ({ s with won := decide (m.at_ 2 = s.was), done := true }, m.cas 2 s.was ((s.was + 1) % 18446744073709551616)) := by
     unfold advStep; rw [hd, h0]; rfl
    have hyw : y = x.w + 1 := by rw [hy1]; unfold adAt; rw [if_neg (by omega), if_neg (by omega)]
    subst hyw
    rw [e1] at hok' ⊢
    refine go ?_
    refine Cx.ordc rfl kr_ ?_
    refine ge ?_
    rw [decide_eq_false (show ¬ ((x.w + 1 : Nat) : Int) ≤ (x.w : Int) by omega)]
    refine go ?_
    refine Cx.ordc rfl kr_ ?_
    refine ge ?_
    rw [show IntKind.u64.wrap ((s.was : Int) + 1) = (((s.was + 1) % 18446744073709551616 : Nat) : Int) by
     show ((s.was : Int) + 1) % 18446744073709551616 = _; omega]
    refine Ev.caH kr_ rfl rfl (refCas (rm := rm) (m := m) 2 s.was ((s.was + 1) % 18446744073709551616) (by omega) hlw (by omega)) (Pres.deps kr_) ?_
    rintro v L' ⟨rfl, rfl⟩
    refine ge ?_
    refine Ev.stbH (b := b) kr_ rfl rfl rfl rfl rfl (by rfl) rfl (Pres.deps kr_) ?_
    refine ge ?_
    refine go ?_
    refine Kr.one (.inr rfl) rfl ?_ ⟨rfl, rfl⟩
    refine Ent.trans (Ent.take (a := some ⟨b, 0, none⟩)) (Ent.trans (RAdvO.close (y := x.w + 2) { s with won := decide (m.at_ 2 = s.was), done := true } hok' (fun h => by cases h) (congrArg (Value.int .i64) (by rw [w64 (by omega) (by omega)]; omega)) rfl rfl rfl) (Ent.cons (Ent.cons (Ent.of t3.back))))
end
end Go.Proofs.YtggnbdeokmdjbaaGreat
