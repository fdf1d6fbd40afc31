/-
  Cells: the memory.
-/
import Derived.Test.YtnbkjcmmjgkdaaaGreatMaB
import Derived.Test.YtnbkjcmmjgkdaaaGreatStB
set_option linter.unusedVariables false
set_option linter.unusedSimpArgs false
namespace Go.Proofs.YtnbkjcmmjgkdaaaGreat
open Go
attribute [local irreducible] Sx Cx Rx Fx Krg Ksq Kbl Klp Kr

/-- Words as values. -/
def us (l : List Nat) : List Value := l.map wd
theorem length_us (l : List Nat) : (us l).length = l.length := by simp [us]
theorem us_get {l : List Nat} {i w : Nat} (h : l[i]? = some w) : (us l)[i]? = some (wd w) := by simp [us, h]
theorem us_set (l : List Nat) (i w : Nat) : (us l).set i (wd w) = us (l.set i w) := by simp [us, List.map_set]
theorem lay_one {cs : List Value} {off : Nat} {u : Value} (h : off < cs.length) : lay cs off [u] = cs.set off u := by
  have := lay_cons cs off u [] (by simp; omega)
  rw [← this, lay_nil]
theorem wrap_succ (n : Nat) : IntKind.i64.wrap (IntKind.i64.wrap (n : Int) + 1) = IntKind.i64.wrap ((n + 1 : Nat) : Int) := by
  have hw : ∀ x : Int, IntKind.i64.wrap x = if x % 18446744073709551616 ≥ 9223372036854775808 then x % 18446744073709551616 - 18446744073709551616 else x % 18446744073709551616 := fun x => by
    unfold IntKind.wrap
    simp only [IntKind.bits, IntKind.signed]
    simp
  rw [hw, hw, hw]
  push_cast
  (repeat' split) <;> omega
section
variable {L F : St}
def memL (T : TypeId) (m : Mm) (a : Option Addr) (y : (Option Addr × Nat) × (Value × Value × Value × Value × Value)) : St :=
  [lift (m.ok ∧ m.ws.length ≤ 8388608 ∧ ones [y.2.1, y.2.2.1, y.2.2.2.1, y.2.2.2.2.1, y.2.2.2.2.2] = true), pt a (Blk T [.slice y.1.1 m.ws.length y.1.2, .int .i64 (IntKind.i64.wrap (m.n : Int)), y.2.1, y.2.2.1, y.2.2.2.1, y.2.2.2.2.1, y.2.2.2.2.2]), pt y.1.1 (Row 103 1 m.ws.length y.1.2 (us m.ws))]
def MemT (T : TypeId) (m : Mm) (a : Option Addr) : As := exs (memL T m a)
abbrev MemO := MemT 122
theorem MemO.close {T : TypeId} {a r : Option Addr} {c n : Nat} {v x0 x1 x2 x3 x4 : Value} {w : List Value} {F G : St} (m : Mm) (hm : m.ok ∧ m.ws.length ≤ 8388608 ∧ ones [x0, x1, x2, x3, x4] = true) [t : Take L a (Blk T [.slice r n c, v, x0, x1, x2, x3, x4]) F] [u : Take F r (Row 103 1 n c w) G]
    (hv : v = .int .i64 (IntKind.i64.wrap (m.n : Int))) (hn : n = m.ws.length) (hw : w = us m.ws) : Ent L (pt a (MemT T m) :: G) := by
  subst hv; subst hn; subst hw
  refine Ent.trans (Ent.take1 (t := t) (Ent.of u.out)) ?_
  refine Ent.trans (Ent.lift hm (Ent.refl _)) ?_
  exact Ent.close (f := memL T m a) rfl ((r, c), (x0, x1, x2, x3, x4))
theorem cellsNew (n : Nat) (h1 : 1 ≤ n) (h2 : n ≤ 8388608) : Fx Tryz.prog 11 [.int .i64 n] L (fun v L' => ∃ g, v = .tuple #[.pointer (some ⟨g, 0, none⟩), .int .i64 0] ∧ L' = pt (some ⟨g, 0, none⟩) (MemO ⟨List.replicate n 0, 0⟩) :: L) := by
  refine Fx.mk Tryz.func11 k11 (Nat.le_of_ble_eq_true rfl) ?_
  dsimp only [c11, envOf, Nat.reduceAdd]
  repeat' (first|refine Zo0 rfl ?_|refine Zo1 ?_|refine Zo2 ?_|refine Zo3 ?_|refine Zo4 ?_|refine Zo5 ?_|refine Zo6 ?_|refine Zo7 ?_|refine Zo8 rfl ?_|refine Zo9 rfl ?_|refine Zoa ?_|refine Zob ?_|refine Zoc ?_|refine Zod ?_|refine Zoe ?_|refine Zof ?_|refine Zog ?_|refine Zoh ?_|refine Zoi rfl ?_|refine Zoj rfl ?_|refine Zok rfl ?_|refine Zol rfl ?_|refine Zom rfl (by rfl) ?_|refine Zon rfl rfl ?_|refine Zoo rfl rfl rfl rfl (by rfl) (by rfl) ?_|refine Zop rfl trivial ?_|refine Zoq rfl rfl rfl ?_)
  refine Sx.gyes rfl (decide_eq_false (by omega)) ?_
  repeat' (first|refine Zo0 rfl ?_|refine Zo1 ?_|refine Zo2 ?_|refine Zo3 ?_|refine Zo4 ?_|refine Zo5 ?_|refine Zo6 ?_|refine Zo7 ?_|refine Zo8 rfl ?_|refine Zo9 rfl ?_|refine Zoa ?_|refine Zob ?_|refine Zoc ?_|refine Zod ?_|refine Zoe ?_|refine Zof ?_|refine Zog ?_|refine Zoh ?_|refine Zoi rfl ?_|refine Zoj rfl ?_|refine Zok rfl ?_|refine Zol rfl ?_|refine Zom rfl (by rfl) ?_|refine Zon rfl rfl ?_|refine Zoo rfl rfl rfl rfl (by rfl) (by rfl) ?_|refine Zop rfl trivial ?_|refine Zoq rfl rfl rfl ?_)
  refine Cx.cno rfl (decide_eq_false (by omega)) ?_
  repeat' (first|refine Zo0 rfl ?_|refine Zo1 ?_|refine Zo2 ?_|refine Zo3 ?_|refine Zo4 ?_|refine Zo5 ?_|refine Zo6 ?_|refine Zo7 ?_|refine Zo8 rfl ?_|refine Zo9 rfl ?_|refine Zoa ?_|refine Zob ?_|refine Zoc ?_|refine Zod ?_|refine Zoe ?_|refine Zof ?_|refine Zog ?_|refine Zoh ?_|refine Zoi rfl ?_|refine Zoj rfl ?_|refine Zok rfl ?_|refine Zol rfl ?_|refine Zom rfl (by rfl) ?_|refine Zon rfl rfl ?_|refine Zoo rfl rfl rfl rfl (by rfl) (by rfl) ?_|refine Zop rfl trivial ?_|refine Zoq rfl rfl rfl ?_)
  refine Sx.mk rfl rfl (by omega) (by omega) (by omega) (by omega) fun g => ?_
  repeat' (first|refine Zo0 rfl ?_|refine Zo1 ?_|refine Zo2 ?_|refine Zo3 ?_|refine Zo4 ?_|refine Zo5 ?_|refine Zo6 ?_|refine Zo7 ?_|refine Zo8 rfl ?_|refine Zo9 rfl ?_|refine Zoa ?_|refine Zob ?_|refine Zoc ?_|refine Zod ?_|refine Zoe ?_|refine Zof ?_|refine Zog ?_|refine Zoh ?_|refine Zoi rfl ?_|refine Zoj rfl ?_|refine Zok rfl ?_|refine Zol rfl ?_|refine Zom rfl (by rfl) ?_|refine Zon rfl rfl ?_|refine Zoo rfl rfl rfl rfl (by rfl) (by rfl) ?_|refine Zop rfl trivial ?_|refine Zoq rfl rfl rfl ?_)
  refine Sx.bx rfl rfl fun q => ?_
  repeat' (first|refine Zo0 rfl ?_|refine Zo1 ?_|refine Zo2 ?_|refine Zo3 ?_|refine Zo4 ?_|refine Zo5 ?_|refine Zo6 ?_|refine Zo7 ?_|refine Zo8 rfl ?_|refine Zo9 rfl ?_|refine Zoa ?_|refine Zob ?_|refine Zoc ?_|refine Zod ?_|refine Zoe ?_|refine Zof ?_|refine Zog ?_|refine Zoh ?_|refine Zoi rfl ?_|refine Zoj rfl ?_|refine Zok rfl ?_|refine Zol rfl ?_|refine Zom rfl (by rfl) ?_|refine Zon rfl rfl ?_|refine Zoo rfl rfl rfl rfl (by rfl) (by rfl) ?_|refine Zop rfl trivial ?_|refine Zoq rfl rfl rfl ?_)
  refine Kr.two (.inr rfl) rfl rfl ?_ ⟨q, rfl, rfl⟩
  have hu : us (List.replicate n 0) = List.replicate n (.int .u64 0) := by simp [us, wd]
  refine MemO.close (a := some ⟨q, 0, none⟩) (r := some ⟨g, 0, none⟩) ⟨List.replicate n 0, 0⟩ ⟨fun w hw => ?_, ?_, rfl⟩ rfl (by simp) ?_
  · rw [List.eq_of_mem_replicate hw]; omega
  · simpa using h2
  · rw [hu, made_one]; simp
theorem cellsNewNot (n : Int) (h : n < 1 ∨ 8388608 < n) : Fx Tryz.prog 11 [.int .i64 n] L (fun v L' => v = .tuple #[.pointer none, .int .i64 1] ∧ L = L') := by
  refine Fx.mk Tryz.func11 k11 (Nat.le_of_ble_eq_true rfl) ?_
  dsimp only [c11, envOf, Nat.reduceAdd]
  repeat' (first|refine Zo0 rfl ?_|refine Zo1 ?_|refine Zo2 ?_|refine Zo3 ?_|refine Zo4 ?_|refine Zo5 ?_|refine Zo6 ?_|refine Zo7 ?_|refine Zo8 rfl ?_|refine Zo9 rfl ?_|refine Zoa ?_|refine Zob ?_|refine Zoc ?_|refine Zod ?_|refine Zoe ?_|refine Zof ?_|refine Zog ?_|refine Zoh ?_|refine Zoi rfl ?_|refine Zoj rfl ?_|refine Zok rfl ?_|refine Zol rfl ?_|refine Zom rfl (by rfl) ?_|refine Zon rfl rfl ?_|refine Zoo rfl rfl rfl rfl (by rfl) (by rfl) ?_|refine Zop rfl trivial ?_|refine Zoq rfl rfl rfl ?_)
  refine Sx.ifp rfl (fun h1 => ?_) (fun h1 => ?_)
  · repeat' (first|refine Zo0 rfl ?_|refine Zo1 ?_|refine Zo2 ?_|refine Zo3 ?_|refine Zo4 ?_|refine Zo5 ?_|refine Zo6 ?_|refine Zo7 ?_|refine Zo8 rfl ?_|refine Zo9 rfl ?_|refine Zoa ?_|refine Zob ?_|refine Zoc ?_|refine Zod ?_|refine Zoe ?_|refine Zof ?_|refine Zog ?_|refine Zoh ?_|refine Zoi rfl ?_|refine Zoj rfl ?_|refine Zok rfl ?_|refine Zol rfl ?_|refine Zom rfl (by rfl) ?_|refine Zon rfl rfl ?_|refine Zoo rfl rfl rfl rfl (by rfl) (by rfl) ?_|refine Zop rfl trivial ?_|refine Zoq rfl rfl rfl ?_)
    exact Kr.two (.inr rfl) rfl rfl (Ent.refl _) ⟨rfl, rfl⟩
  · repeat' (first|refine Zo0 rfl ?_|refine Zo1 ?_|refine Zo2 ?_|refine Zo3 ?_|refine Zo4 ?_|refine Zo5 ?_|refine Zo6 ?_|refine Zo7 ?_|refine Zo8 rfl ?_|refine Zo9 rfl ?_|refine Zoa ?_|refine Zob ?_|refine Zoc ?_|refine Zod ?_|refine Zoe ?_|refine Zof ?_|refine Zog ?_|refine Zoh ?_|refine Zoi rfl ?_|refine Zoj rfl ?_|refine Zok rfl ?_|refine Zol rfl ?_|refine Zom rfl (by rfl) ?_|refine Zon rfl rfl ?_|refine Zoo rfl rfl rfl rfl (by rfl) (by rfl) ?_|refine Zop rfl trivial ?_|refine Zoq rfl rfl rfl ?_)
    refine Cx.cyes rfl (decide_eq_true (by omega)) ?_
    repeat' (first|refine Zo0 rfl ?_|refine Zo1 ?_|refine Zo2 ?_|refine Zo3 ?_|refine Zo4 ?_|refine Zo5 ?_|refine Zo6 ?_|refine Zo7 ?_|refine Zo8 rfl ?_|refine Zo9 rfl ?_|refine Zoa ?_|refine Zob ?_|refine Zoc ?_|refine Zod ?_|refine Zoe ?_|refine Zof ?_|refine Zog ?_|refine Zoh ?_|refine Zoi rfl ?_|refine Zoj rfl ?_|refine Zok rfl ?_|refine Zol rfl ?_|refine Zom rfl (by rfl) ?_|refine Zon rfl rfl ?_|refine Zoo rfl rfl rfl rfl (by rfl) (by rfl) ?_|refine Zop rfl trivial ?_|refine Zoq rfl rfl rfl ?_)
    exact Kr.two (.inr rfl) rfl rfl (Ent.refl _) ⟨rfl, rfl⟩
/-- The number of cells. -/
theorem cellsLen {b : Nat} {m : Mm} {F : St} [t : Take L (some ⟨b, 0, none⟩) (MemO m) F] : Fx Tryz.prog 58 [.pointer (some ⟨b, 0, none⟩)] L (fun v L' => v = .int .i64 m.ws.length ∧ L = L') := by
  refine Fx.kept (t := t) ?_
  refine Fx.mk Tryz.func58 k58 (Nat.le_of_ble_eq_true rfl) ?_
  dsimp only [c58, envOf, Nat.reduceAdd]
  refine Cx.openp (t := t) rfl ?_
  rintro ⟨⟨r, c⟩, ⟨x0, x1, x2, x3, x4⟩⟩
  simp only [memL, List.cons_append, List.nil_append]
  refine Cx.liftp fun hm => ?_
  repeat' (first|refine Zo0 rfl ?_|refine Zo1 ?_|refine Zo2 ?_|refine Zo3 ?_|refine Zo4 ?_|refine Zo5 ?_|refine Zo6 ?_|refine Zo7 ?_|refine Zo8 rfl ?_|refine Zo9 rfl ?_|refine Zoa ?_|refine Zob ?_|refine Zoc ?_|refine Zod ?_|refine Zoe ?_|refine Zof ?_|refine Zog ?_|refine Zoh ?_|refine Zoi rfl ?_|refine Zoj rfl ?_|refine Zok rfl ?_|refine Zol rfl ?_|refine Zom rfl (by rfl) ?_|refine Zon rfl rfl ?_|refine Zoo rfl rfl rfl rfl (by rfl) (by rfl) ?_|refine Zop rfl trivial ?_|refine Zoq rfl rfl rfl ?_)
  exact Kr.one (.inr rfl) rfl (MemO.close (a := some ⟨b, 0, none⟩) (r := r) m hm rfl rfl rfl) ⟨rfl, rfl⟩
theorem cellsCount {b : Nat} {m : Mm} {F : St} [t : Take L (some ⟨b, 0, none⟩) (MemO m) F] (hn : m.n ≤ 1000000000000) : Fx Tryz.prog 15 [.pointer (some ⟨b, 0, none⟩)] L (fun v L' => v = .int .i64 m.n ∧ L = L') := by
  refine Fx.kept (t := t) ?_
  refine Fx.mk Tryz.func15 k15 (Nat.le_of_ble_eq_true rfl) ?_
  dsimp only [c15, envOf, Nat.reduceAdd]
  refine Cx.openp (t := t) rfl ?_
  rintro ⟨⟨r, c⟩, ⟨x0, x1, x2, x3, x4⟩⟩
  simp only [memL, List.cons_append, List.nil_append]
  refine Cx.liftp fun hm => ?_
  repeat' (first|refine Zo0 rfl ?_|refine Zo1 ?_|refine Zo2 ?_|refine Zo3 ?_|refine Zo4 ?_|refine Zo5 ?_|refine Zo6 ?_|refine Zo7 ?_|refine Zo8 rfl ?_|refine Zo9 rfl ?_|refine Zoa ?_|refine Zob ?_|refine Zoc ?_|refine Zod ?_|refine Zoe ?_|refine Zof ?_|refine Zog ?_|refine Zoh ?_|refine Zoi rfl ?_|refine Zoj rfl ?_|refine Zok rfl ?_|refine Zol rfl ?_|refine Zom rfl (by rfl) ?_|refine Zon rfl rfl ?_|refine Zoo rfl rfl rfl rfl (by rfl) (by rfl) ?_|refine Zop rfl trivial ?_|refine Zoq rfl rfl rfl ?_)
  exact Kr.one (.inr rfl) rfl (MemO.close (a := some ⟨b, 0, none⟩) (r := r) m hm rfl rfl rfl) ⟨congrArg (Value.int .i64) (w64 (by omega) (by omega)), rfl⟩
theorem cellsIs {b : Nat} {m : Mm} {F : St} (i : Int) [t : Take L (some ⟨b, 0, none⟩) (MemO m) F] : Fx Tryz.prog 110 [.pointer (some ⟨b, 0, none⟩), .int .i64 i] L (fun v L' => v = .bool (decide (0 ≤ i ∧ i < m.ws.length)) ∧ L = L') := by
  refine Fx.kept (t := t) ?_
  refine Fx.mk Tryz.func110 k110 (Nat.le_of_ble_eq_true rfl) ?_
  dsimp only [c110, envOf, Nat.reduceAdd]
  refine Cx.openp (t := t) rfl ?_
  rintro ⟨⟨r, c⟩, ⟨x0, x1, x2, x3, x4⟩⟩
  simp only [memL, List.cons_append, List.nil_append]
  refine Cx.liftp fun hm => ?_
  repeat' (first|refine Zo0 rfl ?_|refine Zo1 ?_|refine Zo2 ?_|refine Zo3 ?_|refine Zo4 ?_|refine Zo5 ?_|refine Zo6 ?_|refine Zo7 ?_|refine Zo8 rfl ?_|refine Zo9 rfl ?_|refine Zoa ?_|refine Zob ?_|refine Zoc ?_|refine Zod ?_|refine Zoe ?_|refine Zof ?_|refine Zog ?_|refine Zoh ?_|refine Zoi rfl ?_|refine Zoj rfl ?_|refine Zok rfl ?_|refine Zol rfl ?_|refine Zom rfl (by rfl) ?_|refine Zon rfl rfl ?_|refine Zoo rfl rfl rfl rfl (by rfl) (by rfl) ?_|refine Zop rfl trivial ?_|refine Zoq rfl rfl rfl ?_)
  refine Sx.ifp rfl (fun h => ?_) (fun h => ?_)
  · repeat' (first|refine Zo0 rfl ?_|refine Zo1 ?_|refine Zo2 ?_|refine Zo3 ?_|refine Zo4 ?_|refine Zo5 ?_|refine Zo6 ?_|refine Zo7 ?_|refine Zo8 rfl ?_|refine Zo9 rfl ?_|refine Zoa ?_|refine Zob ?_|refine Zoc ?_|refine Zod ?_|refine Zoe ?_|refine Zof ?_|refine Zog ?_|refine Zoh ?_|refine Zoi rfl ?_|refine Zoj rfl ?_|refine Zok rfl ?_|refine Zol rfl ?_|refine Zom rfl (by rfl) ?_|refine Zon rfl rfl ?_|refine Zoo rfl rfl rfl rfl (by rfl) (by rfl) ?_|refine Zop rfl trivial ?_|refine Zoq rfl rfl rfl ?_)
    exact Kr.one (.inr rfl) rfl (MemO.close (a := some ⟨b, 0, none⟩) (r := r) m hm rfl rfl rfl) ⟨congrArg Value.bool (decide_eq_decide.2 (by omega)), rfl⟩
  · repeat' (first|refine Zo0 rfl ?_|refine Zo1 ?_|refine Zo2 ?_|refine Zo3 ?_|refine Zo4 ?_|refine Zo5 ?_|refine Zo6 ?_|refine Zo7 ?_|refine Zo8 rfl ?_|refine Zo9 rfl ?_|refine Zoa ?_|refine Zob ?_|refine Zoc ?_|refine Zod ?_|refine Zoe ?_|refine Zof ?_|refine Zog ?_|refine Zoh ?_|refine Zoi rfl ?_|refine Zoj rfl ?_|refine Zok rfl ?_|refine Zol rfl ?_|refine Zom rfl (by rfl) ?_|refine Zon rfl rfl ?_|refine Zoo rfl rfl rfl rfl (by rfl) (by rfl) ?_|refine Zop rfl trivial ?_|refine Zoq rfl rfl rfl ?_)
    exact Kr.one (.inr rfl) rfl (MemO.close (a := some ⟨b, 0, none⟩) (r := r) m hm rfl rfl rfl) ⟨congrArg Value.bool (decide_eq_false (fun hh => h hh.1)).symm, rfl⟩
theorem cellsPeek {b : Nat} {m : Mm} {F : St} (i : Nat) (hi : i < m.ws.length) [t : Take L (some ⟨b, 0, none⟩) (MemO m) F] : Fx Tryz.prog 78 [.pointer (some ⟨b, 0, none⟩), .int .i64 i] L (fun v L' => v = wd (m.at_ i) ∧ L = L') := by
  refine Fx.kept (t := t) ?_
  refine Fx.mk Tryz.func78 k78 (Nat.le_of_ble_eq_true rfl) ?_
  dsimp only [c78, envOf, Nat.reduceAdd]
  repeat' (first|refine Zo0 rfl ?_|refine Zo1 ?_|refine Zo2 ?_|refine Zo3 ?_|refine Zo4 ?_|refine Zo5 ?_|refine Zo6 ?_|refine Zo7 ?_|refine Zo8 rfl ?_|refine Zo9 rfl ?_|refine Zoa ?_|refine Zob ?_|refine Zoc ?_|refine Zod ?_|refine Zoe ?_|refine Zof ?_|refine Zog ?_|refine Zoh ?_|refine Zoi rfl ?_|refine Zoj rfl ?_|refine Zok rfl ?_|refine Zol rfl ?_|refine Zom rfl (by rfl) ?_|refine Zon rfl rfl ?_|refine Zoo rfl rfl rfl rfl (by rfl) (by rfl) ?_|refine Zop rfl trivial ?_|refine Zoq rfl rfl rfl ?_)
  refine Sx.ca rfl (cellsIs (b := b) (m := m) (i : Int)) ?_
  rintro v L' ⟨rfl, rfl⟩
  rw [decide_eq_true (show (0 : Int) ≤ i ∧ (i : Int) < m.ws.length by omega)]
  repeat' (first|refine Zo0 rfl ?_|refine Zo1 ?_|refine Zo2 ?_|refine Zo3 ?_|refine Zo4 ?_|refine Zo5 ?_|refine Zo6 ?_|refine Zo7 ?_|refine Zo8 rfl ?_|refine Zo9 rfl ?_|refine Zoa ?_|refine Zob ?_|refine Zoc ?_|refine Zod ?_|refine Zoe ?_|refine Zof ?_|refine Zog ?_|refine Zoh ?_|refine Zoi rfl ?_|refine Zoj rfl ?_|refine Zok rfl ?_|refine Zol rfl ?_|refine Zom rfl (by rfl) ?_|refine Zon rfl rfl ?_|refine Zoo rfl rfl rfl rfl (by rfl) (by rfl) ?_|refine Zop rfl trivial ?_|refine Zoq rfl rfl rfl ?_)
  refine Sx.openp (t := t) rfl ?_
  rintro ⟨⟨r, c⟩, ⟨x0, x1, x2, x3, x4⟩⟩
  simp only [memL, List.cons_append, List.nil_append]
  refine Sx.liftp fun hm => ?_
  repeat' (first|refine Zo0 rfl ?_|refine Zo1 ?_|refine Zo2 ?_|refine Zo3 ?_|refine Zo4 ?_|refine Zo5 ?_|refine Zo6 ?_|refine Zo7 ?_|refine Zo8 rfl ?_|refine Zo9 rfl ?_|refine Zoa ?_|refine Zob ?_|refine Zoc ?_|refine Zod ?_|refine Zoe ?_|refine Zof ?_|refine Zog ?_|refine Zoh ?_|refine Zoi rfl ?_|refine Zoj rfl ?_|refine Zok rfl ?_|refine Zol rfl ?_|refine Zom rfl (by rfl) ?_|refine Zon rfl rfl ?_|refine Zoo rfl rfl rfl rfl (by rfl) (by rfl) ?_|refine Zop rfl trivial ?_|refine Zoq rfl rfl rfl ?_)
  refine Sx.rowsome (a := r) (by omega) fun g hr => ?_
  subst hr
  refine Sx.pv rfl ⟨by omega, by omega⟩ ?_
  refine Sx.ldr rfl (v := wd (m.at_ i)) (by simpa using us_get (Mm.get hi)) ?_
  repeat' (first|refine Zo0 rfl ?_|refine Zo1 ?_|refine Zo2 ?_|refine Zo3 ?_|refine Zo4 ?_|refine Zo5 ?_|refine Zo6 ?_|refine Zo7 ?_|refine Zo8 rfl ?_|refine Zo9 rfl ?_|refine Zoa ?_|refine Zob ?_|refine Zoc ?_|refine Zod ?_|refine Zoe ?_|refine Zof ?_|refine Zog ?_|refine Zoh ?_|refine Zoi rfl ?_|refine Zoj rfl ?_|refine Zok rfl ?_|refine Zol rfl ?_|refine Zom rfl (by rfl) ?_|refine Zon rfl rfl ?_|refine Zoo rfl rfl rfl rfl (by rfl) (by rfl) ?_|refine Zop rfl trivial ?_|refine Zoq rfl rfl rfl ?_)
  exact Kr.one (.inr rfl) rfl (MemO.close (a := some ⟨b, 0, none⟩) (r := some ⟨g, 0, none⟩) m hm rfl rfl rfl) ⟨rfl, rfl⟩
theorem cellsLay {b : Nat} {m : Mm} {F : St} (i w : Nat) (hi : i < m.ws.length) (hw : w < 18446744073709551616) [t : Take L (some ⟨b, 0, none⟩) (MemO m) F] : Fx Tryz.prog 48 [.pointer (some ⟨b, 0, none⟩), .int .i64 i, wd w] L (fun v L' => v = .int .i64 0 ∧ L' = pt (some ⟨b, 0, none⟩) (MemO (m.lay i w)) :: F) := by
  refine Fx.mk Tryz.func48 k48 (Nat.le_of_ble_eq_true rfl) ?_
  dsimp only [c48, envOf, Nat.reduceAdd]
  repeat' (first|refine Zo0 rfl ?_|refine Zo1 ?_|refine Zo2 ?_|refine Zo3 ?_|refine Zo4 ?_|refine Zo5 ?_|refine Zo6 ?_|refine Zo7 ?_|refine Zo8 rfl ?_|refine Zo9 rfl ?_|refine Zoa ?_|refine Zob ?_|refine Zoc ?_|refine Zod ?_|refine Zoe ?_|refine Zof ?_|refine Zog ?_|refine Zoh ?_|refine Zoi rfl ?_|refine Zoj rfl ?_|refine Zok rfl ?_|refine Zol rfl ?_|refine Zom rfl (by rfl) ?_|refine Zon rfl rfl ?_|refine Zoo rfl rfl rfl rfl (by rfl) (by rfl) ?_|refine Zop rfl trivial ?_|refine Zoq rfl rfl rfl ?_)
  refine Sx.ca rfl (cellsIs (b := b) (m := m) (i : Int)) ?_
  rintro v L' ⟨rfl, rfl⟩
  rw [decide_eq_true (show (0 : Int) ≤ i ∧ (i : Int) < m.ws.length by omega)]
  repeat' (first|refine Zo0 rfl ?_|refine Zo1 ?_|refine Zo2 ?_|refine Zo3 ?_|refine Zo4 ?_|refine Zo5 ?_|refine Zo6 ?_|refine Zo7 ?_|refine Zo8 rfl ?_|refine Zo9 rfl ?_|refine Zoa ?_|refine Zob ?_|refine Zoc ?_|refine Zod ?_|refine Zoe ?_|refine Zof ?_|refine Zog ?_|refine Zoh ?_|refine Zoi rfl ?_|refine Zoj rfl ?_|refine Zok rfl ?_|refine Zol rfl ?_|refine Zom rfl (by rfl) ?_|refine Zon rfl rfl ?_|refine Zoo rfl rfl rfl rfl (by rfl) (by rfl) ?_|refine Zop rfl trivial ?_|refine Zoq rfl rfl rfl ?_)
  refine Sx.openp (t := t) rfl ?_
  rintro ⟨⟨r, c⟩, ⟨x0, x1, x2, x3, x4⟩⟩
  simp only [memL, List.cons_append, List.nil_append]
  refine Sx.liftp fun hm => ?_
  repeat' (first|refine Zo0 rfl ?_|refine Zo1 ?_|refine Zo2 ?_|refine Zo3 ?_|refine Zo4 ?_|refine Zo5 ?_|refine Zo6 ?_|refine Zo7 ?_|refine Zo8 rfl ?_|refine Zo9 rfl ?_|refine Zoa ?_|refine Zob ?_|refine Zoc ?_|refine Zod ?_|refine Zoe ?_|refine Zof ?_|refine Zog ?_|refine Zoh ?_|refine Zoi rfl ?_|refine Zoj rfl ?_|refine Zok rfl ?_|refine Zol rfl ?_|refine Zom rfl (by rfl) ?_|refine Zon rfl rfl ?_|refine Zoo rfl rfl rfl rfl (by rfl) (by rfl) ?_|refine Zop rfl trivial ?_|refine Zoq rfl rfl rfl ?_)
  refine Sx.rowsome (a := r) (by omega) fun g hr => ?_
  subst hr
  refine Sx.pv rfl ⟨by omega, by omega⟩ ?_
  refine Sx.str (b := g) rfl rfl rfl rfl rfl (by rw [length_us]; simp; omega) (lay_one (by rw [length_us]; simpa using hi)) ?_
  repeat' (first|refine Zo0 rfl ?_|refine Zo1 ?_|refine Zo2 ?_|refine Zo3 ?_|refine Zo4 ?_|refine Zo5 ?_|refine Zo6 ?_|refine Zo7 ?_|refine Zo8 rfl ?_|refine Zo9 rfl ?_|refine Zoa ?_|refine Zob ?_|refine Zoc ?_|refine Zod ?_|refine Zoe ?_|refine Zof ?_|refine Zog ?_|refine Zoh ?_|refine Zoi rfl ?_|refine Zoj rfl ?_|refine Zok rfl ?_|refine Zol rfl ?_|refine Zom rfl (by rfl) ?_|refine Zon rfl rfl ?_|refine Zoo rfl rfl rfl rfl (by rfl) (by rfl) ?_|refine Zop rfl trivial ?_|refine Zoq rfl rfl rfl ?_)
  refine Kr.one (.inr rfl) rfl (MemO.close (a := some ⟨b, 0, none⟩) (r := some ⟨g, 0, none⟩) (m.lay i w) ⟨Mm.ok_lay hm.1 hw, by rw [Mm.len_lay]; exact hm.2.1, hm.2.2⟩ rfl Mm.len_lay.symm ?_) ⟨rfl, rfl⟩
  simp only [Nat.zero_add, Nat.mul_one, Int.toNat_natCast]
  exact us_set m.ws i w
set_option maxHeartbeats 1000000 in
theorem cellsStroke {b : Nat} {m : Mm} {F : St} (kd : Int) (i w : Nat) (ok : Bool) (hi : i < m.ws.length) (hw : w < 18446744073709551616) [t : Take L (some ⟨b, 0, none⟩) (MemO m) F] :
    Fx Tryz.prog 185 [.pointer (some ⟨b, 0, none⟩), .int .i64 kd, .int .i64 i, wd w, .bool ok] L (fun v L' => v = wd (m.at_ i) ∧ L' = pt (some ⟨b, 0, none⟩) (MemO (m.put i w)) :: F) := by
  refine Fx.mk Tryz.func185 k185 (Nat.le_of_ble_eq_true rfl) ?_
  dsimp only [c185, envOf, Nat.reduceAdd]
  refine Cx.openp (t := t) rfl ?_
  rintro ⟨⟨r, c⟩, ⟨x0, x1, x2, x3, x4⟩⟩
  simp only [memL, List.cons_append, List.nil_append]
  refine Cx.liftp fun hm => ?_
  refine Cx.rowkey (a := r) fun hx0 hn0 _ hk0 => ?_
  obtain ⟨g, rfl⟩ : ∃ g, r = some ⟨g, 0, none⟩ := by
    rcases hk0 with h | h
    · omega
    · exact h
  repeat' (first|refine Zo0 rfl ?_|refine Zo1 ?_|refine Zo2 ?_|refine Zo3 ?_|refine Zo4 ?_|refine Zo5 ?_|refine Zo6 ?_|refine Zo7 ?_|refine Zo8 rfl ?_|refine Zo9 rfl ?_|refine Zoa ?_|refine Zob ?_|refine Zoc ?_|refine Zod ?_|refine Zoe ?_|refine Zof ?_|refine Zog ?_|refine Zoh ?_|refine Zoi rfl ?_|refine Zoj rfl ?_|refine Zok rfl ?_|refine Zol rfl ?_|refine Zom rfl (by rfl) ?_|refine Zon rfl rfl ?_|refine Zoo rfl rfl rfl rfl (by rfl) (by rfl) ?_|refine Zop rfl trivial ?_|refine Zoq rfl rfl rfl ?_)
  refine Sx.pv rfl ⟨by omega, by omega⟩ ?_
  refine Sx.ldr rfl (v := wd (m.at_ i)) (by simpa using us_get (Mm.get hi)) ?_
  repeat' (first|refine Zo0 rfl ?_|refine Zo1 ?_|refine Zo2 ?_|refine Zo3 ?_|refine Zo4 ?_|refine Zo5 ?_|refine Zo6 ?_|refine Zo7 ?_|refine Zo8 rfl ?_|refine Zo9 rfl ?_|refine Zoa ?_|refine Zob ?_|refine Zoc ?_|refine Zod ?_|refine Zoe ?_|refine Zof ?_|refine Zog ?_|refine Zoh ?_|refine Zoi rfl ?_|refine Zoj rfl ?_|refine Zok rfl ?_|refine Zol rfl ?_|refine Zom rfl (by rfl) ?_|refine Zon rfl rfl ?_|refine Zoo rfl rfl rfl rfl (by rfl) (by rfl) ?_|refine Zop rfl trivial ?_|refine Zoq rfl rfl rfl ?_)
  refine Sx.pv rfl ⟨by omega, by omega⟩ ?_
  refine Sx.str (b := g) rfl rfl rfl rfl rfl (by rw [length_us]; simp; omega) (lay_one (by rw [length_us]; simpa using hi)) ?_
  repeat' (first|refine Zo0 rfl ?_|refine Zo1 ?_|refine Zo2 ?_|refine Zo3 ?_|refine Zo4 ?_|refine Zo5 ?_|refine Zo6 ?_|refine Zo7 ?_|refine Zo8 rfl ?_|refine Zo9 rfl ?_|refine Zoa ?_|refine Zob ?_|refine Zoc ?_|refine Zod ?_|refine Zoe ?_|refine Zof ?_|refine Zog ?_|refine Zoh ?_|refine Zoi rfl ?_|refine Zoj rfl ?_|refine Zok rfl ?_|refine Zol rfl ?_|refine Zom rfl (by rfl) ?_|refine Zon rfl rfl ?_|refine Zoo rfl rfl rfl rfl (by rfl) (by rfl) ?_|refine Zop rfl trivial ?_|refine Zoq rfl rfl rfl ?_)
  rw [wrap_succ]
  refine Sx.st (b := b) rfl rfl rfl rfl rfl rfl ?_
  dsimp only [lay]
  repeat' (first|refine Zo0 rfl ?_|refine Zo1 ?_|refine Zo2 ?_|refine Zo3 ?_|refine Zo4 ?_|refine Zo5 ?_|refine Zo6 ?_|refine Zo7 ?_|refine Zo8 rfl ?_|refine Zo9 rfl ?_|refine Zoa ?_|refine Zob ?_|refine Zoc ?_|refine Zod ?_|refine Zoe ?_|refine Zof ?_|refine Zog ?_|refine Zoh ?_|refine Zoi rfl ?_|refine Zoj rfl ?_|refine Zok rfl ?_|refine Zol rfl ?_|refine Zom rfl (by rfl) ?_|refine Zon rfl rfl ?_|refine Zoo rfl rfl rfl rfl (by rfl) (by rfl) ?_|refine Zop rfl trivial ?_|refine Zoq rfl rfl rfl ?_)
  refine Kr.one (.inr rfl) rfl (MemO.close (a := some ⟨b, 0, none⟩) (r := some ⟨g, 0, none⟩) (m.put i w) ⟨Mm.ok_put hm.1 hw, by rw [Mm.len_put]; exact hm.2.1, rfl⟩ rfl Mm.len_put.symm ?_) ⟨rfl, rfl⟩
  simp only [Nat.zero_add, Nat.mul_one, Int.toNat_natCast]
  exact us_set m.ws i w
theorem putSame (m : Mm) (i : Nat) (hi : i < m.ws.length) : m.put i (m.at_ i) = m.tick := by
  unfold Mm.put Mm.tick
  congr 1
  have := Mm.get hi
  rw [List.getElem?_eq_getElem hi, Option.some.injEq] at this
  rw [← this]
  exact List.set_getElem_self hi
end
end Go.Proofs.YtnbkjcmmjgkdaaaGreat
