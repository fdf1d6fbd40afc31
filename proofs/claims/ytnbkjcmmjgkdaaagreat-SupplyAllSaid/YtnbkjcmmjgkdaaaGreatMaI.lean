/-
  Stacks: Fill, List; chains: New, Fill, Pool.
-/
import Derived.Test.YtnbkjcmmjgkdaaaGreatMaH
import Derived.Test.YtnbkjcmmjgkdaaaGreatPuC
import Derived.Test.YtnbkjcmmjgkdaaaGreatMaC
set_option linter.unusedVariables false
set_option linter.unusedSimpArgs false
namespace Go.Proofs.YtnbkjcmmjgkdaaaGreat
open Go
attribute [local irreducible] Sx Cx Rx Fx Krg Ksq Kbl Klp Kr

section
variable {L F G : St}
theorem fillM_ok {k : Sk} {m : Mm} (h : m.ok) (hn : k.n ≤ 4096) : (fillM k m).ok := Mm.ok_lay (Mm.ok_lay (fillUp_ok h _ (by omega)) (by omega)) (by omega)
set_option maxHeartbeats 1000000 in
theorem stackFill {sb mp : Nat} {k : Sk} {m : Mm} (hk : k.ok m.ws.length) [t : Take L (some ⟨mp, 0, none⟩) (MemO m) F] [s : Take F (some ⟨sb, 0, none⟩) (SkO mp k) G] :
    Fx Tryz.prog 127 [.pointer (some ⟨sb, 0, none⟩)] L (fun v L' => L' = pt (some ⟨mp, 0, none⟩) (MemO (fillM k m)) :: F) := by
  obtain ⟨k1, k2, k3, k4, k5, k6⟩ := hk
  have hul := fillUp_len k m k.n
  refine Fx.mk Tryz.func127 k127 (Nat.le_of_ble_eq_true rfl) ?_
  dsimp only [c127, envOf, Nat.reduceAdd]
  refine Cx.ent (Ent.trans (Ent.of t.out) (Ent.cons (Ent.of s.out))) ?_
  repeat' (first|refine Zo0 rfl ?_|refine Zo1 ?_|refine Zo2 ?_|refine Zo3 ?_|refine Zo4 ?_|refine Zo5 ?_|refine Zo6 ?_|refine Zo7 ?_|refine Zo8 rfl ?_|refine Zo9 rfl ?_|refine Zoa ?_|refine Zob ?_|refine Zoc ?_|refine Zod ?_|refine Zoe ?_|refine Zof ?_|refine Zog ?_|refine Zoh ?_|refine Zoi rfl ?_|refine Zoj rfl ?_|refine Zok rfl ?_|refine Zol rfl ?_|refine Zom rfl (by rfl) ?_|refine Zon rfl rfl ?_|refine Zoo rfl rfl rfl rfl (by rfl) (by rfl) ?_|refine Zop rfl trivial ?_|refine Zoq rfl rfl rfl ?_)
  refine Cx.lp (α := {i : Nat // i ≤ k.n}) (fun i => [(0, .pointer (some ⟨sb, 0, none⟩)), (8, .int .i64 k.n), (9, .int .i64 i.1)]) (fun i => pt (some ⟨mp, 0, none⟩) (MemO (fillUp k m i.1)) :: pt (some ⟨sb, 0, none⟩) (SkO mp k) :: G)
    (fun i => k.n - i.1) ⟨0, by omega⟩ (sub.cons rfl (sub.cons rfl (sub.cons rfl sub.nil))) (Ent.refl _) ?_
  rintro ⟨i, hi⟩
  dsimp only
  repeat' (first|refine Zo0 rfl ?_|refine Zo1 ?_|refine Zo2 ?_|refine Zo3 ?_|refine Zo4 ?_|refine Zo5 ?_|refine Zo6 ?_|refine Zo7 ?_|refine Zo8 rfl ?_|refine Zo9 rfl ?_|refine Zoa ?_|refine Zob ?_|refine Zoc ?_|refine Zod ?_|refine Zoe ?_|refine Zof ?_|refine Zog ?_|refine Zoh ?_|refine Zoi rfl ?_|refine Zoj rfl ?_|refine Zok rfl ?_|refine Zol rfl ?_|refine Zom rfl (by rfl) ?_|refine Zon rfl rfl ?_|refine Zoo rfl rfl rfl rfl (by rfl) (by rfl) ?_|refine Zop rfl trivial ?_|refine Zoq rfl rfl rfl ?_)
  refine Cx.ifp rfl (fun h => ?_) (fun h => ?_)
  · have hil := fillUp_len k m i
    repeat' (first|refine Zo0 rfl ?_|refine Zo1 ?_|refine Zo2 ?_|refine Zo3 ?_|refine Zo4 ?_|refine Zo5 ?_|refine Zo6 ?_|refine Zo7 ?_|refine Zo8 rfl ?_|refine Zo9 rfl ?_|refine Zoa ?_|refine Zob ?_|refine Zoc ?_|refine Zod ?_|refine Zoe ?_|refine Zof ?_|refine Zog ?_|refine Zoh ?_|refine Zoi rfl ?_|refine Zoj rfl ?_|refine Zok rfl ?_|refine Zol rfl ?_|refine Zom rfl (by rfl) ?_|refine Zon rfl rfl ?_|refine Zoo rfl rfl rfl rfl (by rfl) (by rfl) ?_|refine Zop rfl trivial ?_|refine Zoq rfl rfl rfl ?_)
    refine Cx.orde rfl (by kernel_rfl) ?_
    repeat' (first|refine Ze0 0 rfl (by kernel_rfl) ?_|refine Ze1 (by kernel_rfl) rfl rfl ?_|refine Ze2 ?_|refine Ze3 ?_|refine Ze4 (by kernel_rfl) rfl rfl (by rfl) ?_|refine Ze5 (by kernel_rfl) rfl rfl rfl ?_|refine Ev.pvH (by kernel_rfl) rfl rfl ⟨by omega, by omega⟩ ?_|refine Ev.pvH (by kernel_rfl) rfl rfl (by decide) ?_|fail)
    rw [w64 (n := (k.links : Int) + i) (by omega) (by omega), w64 (n := (i : Int) + 2) (by omega) (by omega), wu64 (n := (i : Int) + 2) (by omega) (by omega), show (k.links : Int) + i = ((k.links + i : Nat) : Int) by omega, show (i : Int) + 2 = ((i + 2 : Nat) : Int) by omega]
    refine Ev.caH (by kernel_rfl) rfl rfl (cellsLay (b := mp) (m := fillUp k m i) (k.links + i) (i + 2) (by omega) (by omega)) (Pres.deps (by kernel_rfl)) ?_
    rintro v L' ⟨rfl, rfl⟩
    repeat' (first|refine Ze0 0 rfl (by kernel_rfl) ?_|refine Ze1 (by kernel_rfl) rfl rfl ?_|refine Ze2 ?_|refine Ze3 ?_|refine Ze4 (by kernel_rfl) rfl rfl (by rfl) ?_|refine Ze5 (by kernel_rfl) rfl rfl rfl ?_|refine Ev.pvH (by kernel_rfl) rfl rfl ⟨by omega, by omega⟩ ?_|refine Ev.pvH (by kernel_rfl) rfl rfl (by decide) ?_|fail)
    repeat' (first|refine Zo0 rfl ?_|refine Zo1 ?_|refine Zo2 ?_|refine Zo3 ?_|refine Zo4 ?_|refine Zo5 ?_|refine Zo6 ?_|refine Zo7 ?_|refine Zo8 rfl ?_|refine Zo9 rfl ?_|refine Zoa ?_|refine Zob ?_|refine Zoc ?_|refine Zod ?_|refine Zoe ?_|refine Zof ?_|refine Zog ?_|refine Zoh ?_|refine Zoi rfl ?_|refine Zoj rfl ?_|refine Zok rfl ?_|refine Zol rfl ?_|refine Zom rfl (by rfl) ?_|refine Zon rfl rfl ?_|refine Zoo rfl rfl rfl rfl (by rfl) (by rfl) ?_|refine Zop rfl trivial ?_|refine Zoq rfl rfl rfl ?_)
    rw [w64 (n := (i : Int) + 1) (by omega) (by omega)]
    exact Klp.nm ⟨i + 1, by omega⟩ (sub.cons rfl (sub.cons rfl (sub.cons rfl sub.nil))) (Ent.refl _) (by dsimp only; omega)
  · have hin : i = k.n := by omega
    subst hin
    repeat' (first|refine Zo0 rfl ?_|refine Zo1 ?_|refine Zo2 ?_|refine Zo3 ?_|refine Zo4 ?_|refine Zo5 ?_|refine Zo6 ?_|refine Zo7 ?_|refine Zo8 rfl ?_|refine Zo9 rfl ?_|refine Zoa ?_|refine Zob ?_|refine Zoc ?_|refine Zod ?_|refine Zoe ?_|refine Zof ?_|refine Zog ?_|refine Zoh ?_|refine Zoi rfl ?_|refine Zoj rfl ?_|refine Zok rfl ?_|refine Zol rfl ?_|refine Zom rfl (by rfl) ?_|refine Zon rfl rfl ?_|refine Zoo rfl rfl rfl rfl (by rfl) (by rfl) ?_|refine Zop rfl trivial ?_|refine Zoq rfl rfl rfl ?_)
    refine Cx.ordc rfl (by kernel_rfl) ?_
    repeat' (first|refine Ze0 0 rfl (by kernel_rfl) ?_|refine Ze1 (by kernel_rfl) rfl rfl ?_|refine Ze2 ?_|refine Ze3 ?_|refine Ze4 (by kernel_rfl) rfl rfl (by rfl) ?_|refine Ze5 (by kernel_rfl) rfl rfl rfl ?_|refine Ev.pvH (by kernel_rfl) rfl rfl ⟨by omega, by omega⟩ ?_|refine Ev.pvH (by kernel_rfl) rfl rfl (by decide) ?_|fail)
    rw [w64 (n := (k.links : Int) + k.n) (by omega) (by omega), w64 (n := (k.links : Int) + k.n - 1) (by omega) (by omega), show (k.links : Int) + k.n - 1 = ((k.links + k.n - 1 : Nat) : Int) by omega]
    refine Ev.caH (by kernel_rfl) rfl rfl (cellsLay (b := mp) (m := fillUp k m k.n) (k.links + k.n - 1) 0 (by omega) (by omega)) (Pres.deps (by kernel_rfl)) ?_
    rintro v L' ⟨rfl, rfl⟩
    repeat' (first|refine Ze0 0 rfl (by kernel_rfl) ?_|refine Ze1 (by kernel_rfl) rfl rfl ?_|refine Ze2 ?_|refine Ze3 ?_|refine Ze4 (by kernel_rfl) rfl rfl (by rfl) ?_|refine Ze5 (by kernel_rfl) rfl rfl rfl ?_|refine Ev.pvH (by kernel_rfl) rfl rfl ⟨by omega, by omega⟩ ?_|refine Ev.pvH (by kernel_rfl) rfl rfl (by decide) ?_|fail)
    repeat' (first|refine Zo0 rfl ?_|refine Zo1 ?_|refine Zo2 ?_|refine Zo3 ?_|refine Zo4 ?_|refine Zo5 ?_|refine Zo6 ?_|refine Zo7 ?_|refine Zo8 rfl ?_|refine Zo9 rfl ?_|refine Zoa ?_|refine Zob ?_|refine Zoc ?_|refine Zod ?_|refine Zoe ?_|refine Zof ?_|refine Zog ?_|refine Zoh ?_|refine Zoi rfl ?_|refine Zoj rfl ?_|refine Zok rfl ?_|refine Zol rfl ?_|refine Zom rfl (by rfl) ?_|refine Zon rfl rfl ?_|refine Zoo rfl rfl rfl rfl (by rfl) (by rfl) ?_|refine Zop rfl trivial ?_|refine Zoq rfl rfl rfl ?_)
    refine Sx.ca rfl (putHead 0 0 (by omega) (by omega) (by omega)) ?_
    rintro v L' ⟨rfl, rfl⟩
    repeat' (first|refine Zo0 rfl ?_|refine Zo1 ?_|refine Zo2 ?_|refine Zo3 ?_|refine Zo4 ?_|refine Zo5 ?_|refine Zo6 ?_|refine Zo7 ?_|refine Zo8 rfl ?_|refine Zo9 rfl ?_|refine Zoa ?_|refine Zob ?_|refine Zoc ?_|refine Zod ?_|refine Zoe ?_|refine Zof ?_|refine Zog ?_|refine Zoh ?_|refine Zoi rfl ?_|refine Zoj rfl ?_|refine Zok rfl ?_|refine Zol rfl ?_|refine Zom rfl (by rfl) ?_|refine Zon rfl rfl ?_|refine Zoo rfl rfl rfl rfl (by rfl) (by rfl) ?_|refine Zop rfl trivial ?_|refine Zoq rfl rfl rfl ?_)
    refine Cx.orde rfl (by kernel_rfl) ?_
    repeat' (first|refine Ze0 0 rfl (by kernel_rfl) ?_|refine Ze1 (by kernel_rfl) rfl rfl ?_|refine Ze2 ?_|refine Ze3 ?_|refine Ze4 (by kernel_rfl) rfl rfl (by rfl) ?_|refine Ze5 (by kernel_rfl) rfl rfl rfl ?_|refine Ev.pvH (by kernel_rfl) rfl rfl ⟨by omega, by omega⟩ ?_|refine Ev.pvH (by kernel_rfl) rfl rfl (by decide) ?_|fail)
    refine Ev.caH (by kernel_rfl) rfl rfl (cellsLay (b := mp) (m := (fillUp k m k.n).lay (k.links + k.n - 1) 0) k.head 1 (by rw [Mm.len_lay]; omega) (by omega)) (Pres.deps (by kernel_rfl)) ?_
    rintro v L' ⟨rfl, rfl⟩
    repeat' (first|refine Ze0 0 rfl (by kernel_rfl) ?_|refine Ze1 (by kernel_rfl) rfl rfl ?_|refine Ze2 ?_|refine Ze3 ?_|refine Ze4 (by kernel_rfl) rfl rfl (by rfl) ?_|refine Ze5 (by kernel_rfl) rfl rfl rfl ?_|refine Ev.pvH (by kernel_rfl) rfl rfl ⟨by omega, by omega⟩ ?_|refine Ev.pvH (by kernel_rfl) rfl rfl (by decide) ?_|fail)
    exact Kr.none (.inl rfl) (Ent.cons (Ent.of s.back)) rfl
/-- What is in a stack. -/
theorem stackList {sb mp : Nat} {k : Sk} {m : Mm} (hk : k.ok m.ws.length) [t : Take L (some ⟨mp, 0, none⟩) (MemO m) F] [s : Take F (some ⟨sb, 0, none⟩) (SkO mp k) G] :
    Fx Tryz.prog 23 [.pointer (some ⟨sb, 0, none⟩)] L (fun v L' => ∃ ro co, v = .slice ro (listK k m).length co ∧ L' = pt ro (Row 3 1 (listK k m).length co (ints (listK k m))) :: L) := by
  obtain ⟨k1, k2, k3, k4, k5, k6⟩ := hk
  refine Fx.mk Tryz.func23 k23 (Nat.le_of_ble_eq_true rfl) ?_
  dsimp only [c23, envOf, Nat.reduceAdd]
  refine Cx.pure (memKey (b := mp) (m := m)) fun hm => ?_
  have hlt := Mm.at_lt hm.1 k.head
  refine Cx.ent (Ent.trans (Ent.of t.out) (Ent.cons (Ent.of s.out))) ?_
  repeat' (first|refine Zo0 rfl ?_|refine Zo1 ?_|refine Zo2 ?_|refine Zo3 ?_|refine Zo4 ?_|refine Zo5 ?_|refine Zo6 ?_|refine Zo7 ?_|refine Zo8 rfl ?_|refine Zo9 rfl ?_|refine Zoa ?_|refine Zob ?_|refine Zoc ?_|refine Zod ?_|refine Zoe ?_|refine Zof ?_|refine Zog ?_|refine Zoh ?_|refine Zoi rfl ?_|refine Zoj rfl ?_|refine Zok rfl ?_|refine Zol rfl ?_|refine Zom rfl (by rfl) ?_|refine Zon rfl rfl ?_|refine Zoo rfl rfl rfl rfl (by rfl) (by rfl) ?_|refine Zop rfl trivial ?_|refine Zoq rfl rfl rfl ?_)
  refine Cx.ordc rfl (by kernel_rfl) ?_
  repeat' (first|refine Ze0 0 rfl (by kernel_rfl) ?_|refine Ze1 (by kernel_rfl) rfl rfl ?_|refine Ze2 ?_|refine Ze3 ?_|refine Ze4 (by kernel_rfl) rfl rfl (by rfl) ?_|refine Ze5 (by kernel_rfl) rfl rfl rfl ?_|refine Ev.pvH (by kernel_rfl) rfl rfl ⟨by omega, by omega⟩ ?_|refine Ev.pvH (by kernel_rfl) rfl rfl (by decide) ?_|fail)
  refine Ev.cakH (by kernel_rfl) rfl rfl (cellsPeek (b := mp) (m := m) k.head k3) ?_
  repeat' (first|refine Ze0 0 rfl (by kernel_rfl) ?_|refine Ze1 (by kernel_rfl) rfl rfl ?_|refine Ze2 ?_|refine Ze3 ?_|refine Ze4 (by kernel_rfl) rfl rfl (by rfl) ?_|refine Ze5 (by kernel_rfl) rfl rfl rfl ?_|refine Ev.pvH (by kernel_rfl) rfl rfl ⟨by omega, by omega⟩ ?_|refine Ev.pvH (by kernel_rfl) rfl rfl (by decide) ?_|fail)
  refine Ev.cakH (by kernel_rfl) rfl rfl (stackTop (sb := sb) (mp := mp) (k := k) (m.at_ k.head) hlt) ?_
  repeat' (first|refine Ze0 0 rfl (by kernel_rfl) ?_|refine Ze1 (by kernel_rfl) rfl rfl ?_|refine Ze2 ?_|refine Ze3 ?_|refine Ze4 (by kernel_rfl) rfl rfl (by rfl) ?_|refine Ze5 (by kernel_rfl) rfl rfl rfl ?_|refine Ev.pvH (by kernel_rfl) rfl rfl ⟨by omega, by omega⟩ ?_|refine Ev.pvH (by kernel_rfl) rfl rfl (by decide) ?_|fail)
  repeat' (first|refine Zo0 rfl ?_|refine Zo1 ?_|refine Zo2 ?_|refine Zo3 ?_|refine Zo4 ?_|refine Zo5 ?_|refine Zo6 ?_|refine Zo7 ?_|refine Zo8 rfl ?_|refine Zo9 rfl ?_|refine Zoa ?_|refine Zob ?_|refine Zoc ?_|refine Zod ?_|refine Zoe ?_|refine Zof ?_|refine Zog ?_|refine Zoh ?_|refine Zoi rfl ?_|refine Zoj rfl ?_|refine Zok rfl ?_|refine Zol rfl ?_|refine Zom rfl (by rfl) ?_|refine Zon rfl rfl ?_|refine Zoo rfl rfl rfl rfl (by rfl) (by rfl) ?_|refine Zop rfl trivial ?_|refine Zoq rfl rfl rfl ?_)
  refine Cx.lp (α := {p : (List Int × Int) × (Option Addr × Nat) // p.1.1.length ≤ k.n ∧ -1 ≤ p.1.2 ∧ p.1.2 < k.n ∧ p.1.1 ++ walkL k m (k.n - p.1.1.length) p.1.2 = listK k m})
    (fun p => [(0, .pointer (some ⟨sb, 0, none⟩)), (3, .slice p.1.2.1 p.1.1.1.length p.1.2.2), (4, .int .i64 p.1.1.2)])
    (fun p => pt p.1.2.1 (Row 3 1 p.1.1.1.length p.1.2.2 (ints p.1.1.1)) :: pt (some ⟨mp, 0, none⟩) (MemO m) :: pt (some ⟨sb, 0, none⟩) (SkO mp k) :: G)
    (fun p => k.n - p.1.1.1.length) ⟨(([], k.top (m.at_ k.head)), (none, 0)), by simp, k.top_ge _, k.top_lt _, by simp [listK]⟩ (sub.cons rfl (sub.cons rfl (sub.cons rfl sub.nil))) (Ent.rownil 3 1) ?_
  rintro ⟨⟨⟨out, i⟩, ⟨r, c⟩⟩, hol, hi1, hi2, he⟩
  dsimp only at hol hi1 hi2 he ⊢
  have fin : (i < 0 ∨ k.n ≤ out.length) → out = listK k m := by
    intro h
    rw [← he]
    rcases h with h | h
    · cases hf : k.n - out.length with
      | zero => simp [walkL]
      | succ f => simp [walkL, show ¬ 0 ≤ i by omega]
    · rw [show k.n - out.length = 0 by omega]; simp [walkL]
  repeat' (first|refine Zo0 rfl ?_|refine Zo1 ?_|refine Zo2 ?_|refine Zo3 ?_|refine Zo4 ?_|refine Zo5 ?_|refine Zo6 ?_|refine Zo7 ?_|refine Zo8 rfl ?_|refine Zo9 rfl ?_|refine Zoa ?_|refine Zob ?_|refine Zoc ?_|refine Zod ?_|refine Zoe ?_|refine Zof ?_|refine Zog ?_|refine Zoh ?_|refine Zoi rfl ?_|refine Zoj rfl ?_|refine Zok rfl ?_|refine Zol rfl ?_|refine Zom rfl (by rfl) ?_|refine Zon rfl rfl ?_|refine Zoo rfl rfl rfl rfl (by rfl) (by rfl) ?_|refine Zop rfl trivial ?_|refine Zoq rfl rfl rfl ?_)
  refine Sx.ifp rfl (fun h => ?_) (fun h => ?_)
  · repeat' (first|refine Zo0 rfl ?_|refine Zo1 ?_|refine Zo2 ?_|refine Zo3 ?_|refine Zo4 ?_|refine Zo5 ?_|refine Zo6 ?_|refine Zo7 ?_|refine Zo8 rfl ?_|refine Zo9 rfl ?_|refine Zoa ?_|refine Zob ?_|refine Zoc ?_|refine Zod ?_|refine Zoe ?_|refine Zof ?_|refine Zog ?_|refine Zoh ?_|refine Zoi rfl ?_|refine Zoj rfl ?_|refine Zok rfl ?_|refine Zol rfl ?_|refine Zom rfl (by rfl) ?_|refine Zon rfl rfl ?_|refine Zoo rfl rfl rfl rfl (by rfl) (by rfl) ?_|refine Zop rfl trivial ?_|refine Zoq rfl rfl rfl ?_)
    refine Cx.ifp rfl (fun h2 => ?_) (fun h2 => ?_)
    · obtain ⟨x, rfl⟩ : ∃ x : Nat, i = x := ⟨i.toNat, by omega⟩
      have hlx := Mm.at_lt hm.1 (k.links + x)
      have hbl := k.below_lt (m.at_ (k.links + x))
      have hbg := k.below_ge (m.at_ (k.links + x))
      repeat' (first|refine Zo0 rfl ?_|refine Zo1 ?_|refine Zo2 ?_|refine Zo3 ?_|refine Zo4 ?_|refine Zo5 ?_|refine Zo6 ?_|refine Zo7 ?_|refine Zo8 rfl ?_|refine Zo9 rfl ?_|refine Zoa ?_|refine Zob ?_|refine Zoc ?_|refine Zod ?_|refine Zoe ?_|refine Zof ?_|refine Zog ?_|refine Zoh ?_|refine Zoi rfl ?_|refine Zoj rfl ?_|refine Zok rfl ?_|refine Zol rfl ?_|refine Zom rfl (by rfl) ?_|refine Zon rfl rfl ?_|refine Zoo rfl rfl rfl rfl (by rfl) (by rfl) ?_|refine Zop rfl trivial ?_|refine Zoq rfl rfl rfl ?_)
      refine Sx.bs (sz := 1) rfl rfl fun g => ?_
      refine Sx.ap (ra := r) rfl rfl (Rd.row (b := g) (E := 3) (cap := 1) rfl) rfl (by simp [maxLen]; omega) (by omega) fun ra ca hc => ?_
      repeat' (first|refine Zo0 rfl ?_|refine Zo1 ?_|refine Zo2 ?_|refine Zo3 ?_|refine Zo4 ?_|refine Zo5 ?_|refine Zo6 ?_|refine Zo7 ?_|refine Zo8 rfl ?_|refine Zo9 rfl ?_|refine Zoa ?_|refine Zob ?_|refine Zoc ?_|refine Zod ?_|refine Zoe ?_|refine Zof ?_|refine Zog ?_|refine Zoh ?_|refine Zoi rfl ?_|refine Zoj rfl ?_|refine Zok rfl ?_|refine Zol rfl ?_|refine Zom rfl (by rfl) ?_|refine Zon rfl rfl ?_|refine Zoo rfl rfl rfl rfl (by rfl) (by rfl) ?_|refine Zop rfl trivial ?_|refine Zoq rfl rfl rfl ?_)
      refine Cx.ordu rfl rfl (by kernel_rfl) (by kernel_rfl) ?_
      repeat' (first|refine Ze0 0 rfl (by kernel_rfl) ?_|refine Ze1 (by kernel_rfl) rfl rfl ?_|refine Ze2 ?_|refine Ze3 ?_|refine Ze4 (by kernel_rfl) rfl rfl (by rfl) ?_|refine Ze5 (by kernel_rfl) rfl rfl rfl ?_|refine Ev.pvH (by kernel_rfl) rfl rfl ⟨by omega, by omega⟩ ?_|refine Ev.pvH (by kernel_rfl) rfl rfl (by decide) ?_|fail)
      rw [w64 (n := (k.links : Int) + x) (by omega) (by omega), show (k.links : Int) + x = ((k.links + x : Nat) : Int) by omega]
      refine Ev.cakH (by kernel_rfl) rfl rfl (cellsPeek (b := mp) (m := m) (k.links + x) (by omega)) ?_
      repeat' (first|refine Ze0 0 rfl (by kernel_rfl) ?_|refine Ze1 (by kernel_rfl) rfl rfl ?_|refine Ze2 ?_|refine Ze3 ?_|refine Ze4 (by kernel_rfl) rfl rfl (by rfl) ?_|refine Ze5 (by kernel_rfl) rfl rfl rfl ?_|refine Ev.pvH (by kernel_rfl) rfl rfl ⟨by omega, by omega⟩ ?_|refine Ev.pvH (by kernel_rfl) rfl rfl (by decide) ?_|fail)
      refine Ev.cakH (by kernel_rfl) rfl rfl (stackBelow (sb := sb) (mp := mp) (k := k) (m.at_ (k.links + x)) hlx k2) ?_
      repeat' (first|refine Ze0 0 rfl (by kernel_rfl) ?_|refine Ze1 (by kernel_rfl) rfl rfl ?_|refine Ze2 ?_|refine Ze3 ?_|refine Ze4 (by kernel_rfl) rfl rfl (by rfl) ?_|refine Ze5 (by kernel_rfl) rfl rfl rfl ?_|refine Ev.pvH (by kernel_rfl) rfl rfl ⟨by omega, by omega⟩ ?_|refine Ev.pvH (by kernel_rfl) rfl rfl (by decide) ?_|fail)
      repeat' (first|refine Zo0 rfl ?_|refine Zo1 ?_|refine Zo2 ?_|refine Zo3 ?_|refine Zo4 ?_|refine Zo5 ?_|refine Zo6 ?_|refine Zo7 ?_|refine Zo8 rfl ?_|refine Zo9 rfl ?_|refine Zoa ?_|refine Zob ?_|refine Zoc ?_|refine Zod ?_|refine Zoe ?_|refine Zof ?_|refine Zog ?_|refine Zoh ?_|refine Zoi rfl ?_|refine Zoj rfl ?_|refine Zok rfl ?_|refine Zol rfl ?_|refine Zom rfl (by rfl) ?_|refine Zon rfl rfl ?_|refine Zoo rfl rfl rfl rfl (by rfl) (by rfl) ?_|refine Zop rfl trivial ?_|refine Zoq rfl rfl rfl ?_)
      refine Klp.nm ⟨((out ++ [(x : Int)], k.below (m.at_ (k.links + x))), (ra, ca)), by simp; omega, hbg, hbl, ?_⟩ (sub.cons rfl (sub.cons (by simp; rfl) (sub.cons rfl sub.nil))) ?_ (by simp; omega)
      · dsimp only
        rw [← he, show k.n - out.length = (k.n - (out ++ [(x : Int)]).length) + 1 by simp; omega]
        simp only [walkL, if_pos h, List.append_assoc, List.cons_append, List.nil_append, Int.toNat_natCast]
      · simp only [List.length_append, List.length_singleton, ints_append]
        repeat (first | exact Ent.refl _ | (refine Ent.take1 ?_) | (refine Ent.trans Ent.drop ?_))
    · repeat' (first|refine Zo0 rfl ?_|refine Zo1 ?_|refine Zo2 ?_|refine Zo3 ?_|refine Zo4 ?_|refine Zo5 ?_|refine Zo6 ?_|refine Zo7 ?_|refine Zo8 rfl ?_|refine Zo9 rfl ?_|refine Zoa ?_|refine Zob ?_|refine Zoc ?_|refine Zod ?_|refine Zoe ?_|refine Zof ?_|refine Zog ?_|refine Zoh ?_|refine Zoi rfl ?_|refine Zoj rfl ?_|refine Zok rfl ?_|refine Zol rfl ?_|refine Zom rfl (by rfl) ?_|refine Zon rfl rfl ?_|refine Zoo rfl rfl rfl rfl (by rfl) (by rfl) ?_|refine Zop rfl trivial ?_|refine Zoq rfl rfl rfl ?_)
      have hf := fin (.inr (by omega))
      subst hf
      exact Kr.one (.inr rfl) rfl (Ent.cons (Ent.trans (Ent.cons (Ent.of s.back)) (Ent.of t.back))) ⟨r, c, rfl, rfl⟩
  · repeat' (first|refine Zo0 rfl ?_|refine Zo1 ?_|refine Zo2 ?_|refine Zo3 ?_|refine Zo4 ?_|refine Zo5 ?_|refine Zo6 ?_|refine Zo7 ?_|refine Zo8 rfl ?_|refine Zo9 rfl ?_|refine Zoa ?_|refine Zob ?_|refine Zoc ?_|refine Zod ?_|refine Zoe ?_|refine Zof ?_|refine Zog ?_|refine Zoh ?_|refine Zoi rfl ?_|refine Zoj rfl ?_|refine Zok rfl ?_|refine Zol rfl ?_|refine Zom rfl (by rfl) ?_|refine Zon rfl rfl ?_|refine Zoo rfl rfl rfl rfl (by rfl) (by rfl) ?_|refine Zop rfl trivial ?_|refine Zoq rfl rfl rfl ?_)
    have hf := fin (.inl (by omega))
    subst hf
    exact Kr.one (.inr rfl) rfl (Ent.cons (Ent.trans (Ent.cons (Ent.of s.back)) (Ent.of t.back))) ⟨r, c, rfl, rfl⟩
end
end Go.Proofs.YtnbkjcmmjgkdaaaGreat
