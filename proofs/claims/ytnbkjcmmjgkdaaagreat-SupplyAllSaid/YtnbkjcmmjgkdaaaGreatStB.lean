/-
  Plain helpers of the statements (numbers, lists of numbers), and the reference's stash.
-/
import Derived.Test.YtnbkjcmmjgkdaaaGreatStA
set_option linter.unusedVariables false
namespace Go.Proofs.YtnbkjcmmjgkdaaaGreat
open Go
attribute [local irreducible] Sx Cx Rx Fx Krg Ksq Kbl Klp Kr

section
variable {P : Program} {N : Nat} {e : En} {K : En → St → Prop} {L F : St} {l : List G}
/-- Appending to nothing. -/
theorem Sx.apn {d : Option Nat} {T E sz by_ : Nat} {z : List Value} {x y : X} {ya : Option Addr} {m c : Nat} {ys : List Value}
    (hx : x.get e = some (.slice none 0 0)) (hy : y.get e = some (.slice ya m c)) (hr : Rd L sz ya m ys) (h1 : ones ys = true) (hm : m ≤ maxLen) (hb : m * by_ ≤ 140737488355328)
    (k : ∀ ra' cap', m ≤ cap' → Sx P N l (e.put d (.slice ra' m cap')) K (pt ra' (Row E sz m cap' ys) :: L)) : Sx P N (⟨d, none, .ap T E sz by_ z x y⟩ :: l) e K L := by
  refine Sx.ent (Ent.rownil E sz) ?_
  refine Sx.ap (ra := none) (n := 0) (cap := 0) (xs := []) hx hy (hr.ent Ent.drop) h1 (by omega) (by simpa using hb) fun ra ca hc => ?_
  simp only [Nat.zero_add, List.nil_append] at hc ⊢
  exact k ra ca hc
/-- One element read through. -/
theorem Has.at_ {b o i : Nat} {vs : List Value} {v : Value} (h : Has L b o vs) (hv : vs[i]? = some v) : Has L b (o + i) [v] := by
  have := Has.sub (i := i) (n := 1) h
  rwa [take_one hv] at this
end

section
variable {L F : St}
theorem number (v n : Int) (hn : 0 < n) (hn2 : n ≤ 4611686018427387904) : Fx Tryz.prog 12 [.int .i64 v, .int .i64 n] L (fun r L' => r = .int .i64 (v % n) ∧ L = L') := by
  have h1 := Int.tmod_lt_of_pos v hn
  have h2 : v % n = if v.tmod n < 0 then v.tmod n + n else v.tmod n := by
    rw [Int.tmod_eq_emod]
    have h3 := Int.emod_nonneg v (show n ≠ 0 by omega)
    have h4 := Int.emod_lt_of_pos v hn
    have h5 : (n.natAbs : Int) = n := by omega
    split <;> split <;> omega
  have h6 : -n < v.tmod n := by
    rw [Int.tmod_eq_emod]
    have h3 := Int.emod_nonneg v (show n ≠ 0 by omega)
    have h4 := Int.emod_lt_of_pos v hn
    have h5 : (n.natAbs : Int) = n := by omega
    split <;> omega
  refine Fx.mk Tryz.func12 k12 (Nat.le_of_ble_eq_true rfl) ?_
  dsimp only [c12, envOf, Nat.reduceAdd]
  repeat' (first|refine Zo0 rfl ?_|refine Zo1 ?_|refine Zo2 ?_|refine Zo3 ?_|refine Zo4 ?_|refine Zo5 ?_|refine Zo6 ?_|refine Zo7 ?_|refine Zo8 rfl ?_|refine Zo9 rfl ?_|refine Zoa ?_|refine Zob ?_|refine Zoc ?_|refine Zod ?_|refine Zoe ?_|refine Zof ?_|refine Zog ?_|refine Zoh ?_|refine Zoi rfl ?_|refine Zoj rfl ?_|refine Zok rfl ?_|refine Zol rfl ?_|refine Zom rfl (by rfl) ?_|refine Zon rfl rfl ?_|refine Zoo rfl rfl rfl rfl (by rfl) (by rfl) ?_|refine Zop rfl trivial ?_|refine Zoq rfl rfl rfl ?_)
  refine Sx.pv rfl (by omega) ?_
  repeat' (first|refine Zo0 rfl ?_|refine Zo1 ?_|refine Zo2 ?_|refine Zo3 ?_|refine Zo4 ?_|refine Zo5 ?_|refine Zo6 ?_|refine Zo7 ?_|refine Zo8 rfl ?_|refine Zo9 rfl ?_|refine Zoa ?_|refine Zob ?_|refine Zoc ?_|refine Zod ?_|refine Zoe ?_|refine Zof ?_|refine Zog ?_|refine Zoh ?_|refine Zoi rfl ?_|refine Zoj rfl ?_|refine Zok rfl ?_|refine Zol rfl ?_|refine Zom rfl (by rfl) ?_|refine Zon rfl rfl ?_|refine Zoo rfl rfl rfl rfl (by rfl) (by rfl) ?_|refine Zop rfl trivial ?_|refine Zoq rfl rfl rfl ?_)
  refine Cx.ifp rfl (fun h => ?_) (fun h => ?_)
  · repeat' (first|refine Zo0 rfl ?_|refine Zo1 ?_|refine Zo2 ?_|refine Zo3 ?_|refine Zo4 ?_|refine Zo5 ?_|refine Zo6 ?_|refine Zo7 ?_|refine Zo8 rfl ?_|refine Zo9 rfl ?_|refine Zoa ?_|refine Zob ?_|refine Zoc ?_|refine Zod ?_|refine Zoe ?_|refine Zof ?_|refine Zog ?_|refine Zoh ?_|refine Zoi rfl ?_|refine Zoj rfl ?_|refine Zok rfl ?_|refine Zol rfl ?_|refine Zom rfl (by rfl) ?_|refine Zon rfl rfl ?_|refine Zoo rfl rfl rfl rfl (by rfl) (by rfl) ?_|refine Zop rfl trivial ?_|refine Zoq rfl rfl rfl ?_)
    refine Kr.one (.inr rfl) rfl (Ent.refl _) ⟨?_, rfl⟩
    rw [w64 (by omega) (by omega), h2, if_pos h]
  · repeat' (first|refine Zo0 rfl ?_|refine Zo1 ?_|refine Zo2 ?_|refine Zo3 ?_|refine Zo4 ?_|refine Zo5 ?_|refine Zo6 ?_|refine Zo7 ?_|refine Zo8 rfl ?_|refine Zo9 rfl ?_|refine Zoa ?_|refine Zob ?_|refine Zoc ?_|refine Zod ?_|refine Zoe ?_|refine Zof ?_|refine Zog ?_|refine Zoh ?_|refine Zoi rfl ?_|refine Zoj rfl ?_|refine Zok rfl ?_|refine Zol rfl ?_|refine Zom rfl (by rfl) ?_|refine Zon rfl rfl ?_|refine Zoo rfl rfl rfl rfl (by rfl) (by rfl) ?_|refine Zop rfl trivial ?_|refine Zoq rfl rfl rfl ?_)
    refine Kr.one (.inr rfl) rfl (Ent.refl _) ⟨?_, rfl⟩
    rw [h2, if_neg h]

theorem sameInts {xs ys : List Int} {a b : Option Addr} {n m c d : Nat} (h1 : Rd L 1 a n (ints xs)) (h2 : Rd L 1 b m (ints ys)) (hb : n ≤ 1000000000) :
    Fx Tryz.prog 27 [.slice a n c, .slice b m d] L (fun v L' => v = .bool (decide (xs = ys)) ∧ L = L') := by
  have hn : n = xs.length := by have := h1.1; simp [ints] at this; omega
  have hm : m = ys.length := by have := h2.1; simp [ints] at this; omega
  refine Fx.mk Tryz.func27 k27 (Nat.le_of_ble_eq_true rfl) ?_
  dsimp only [c27, envOf, Nat.reduceAdd]
  repeat' (first|refine Zo0 rfl ?_|refine Zo1 ?_|refine Zo2 ?_|refine Zo3 ?_|refine Zo4 ?_|refine Zo5 ?_|refine Zo6 ?_|refine Zo7 ?_|refine Zo8 rfl ?_|refine Zo9 rfl ?_|refine Zoa ?_|refine Zob ?_|refine Zoc ?_|refine Zod ?_|refine Zoe ?_|refine Zof ?_|refine Zog ?_|refine Zoh ?_|refine Zoi rfl ?_|refine Zoj rfl ?_|refine Zok rfl ?_|refine Zol rfl ?_|refine Zom rfl (by rfl) ?_|refine Zon rfl rfl ?_|refine Zoo rfl rfl rfl rfl (by rfl) (by rfl) ?_|refine Zop rfl trivial ?_|refine Zoq rfl rfl rfl ?_)
  refine Cx.ifn rfl (fun h => ?_) (fun h => ?_)
  · repeat' (first|refine Zo0 rfl ?_|refine Zo1 ?_|refine Zo2 ?_|refine Zo3 ?_|refine Zo4 ?_|refine Zo5 ?_|refine Zo6 ?_|refine Zo7 ?_|refine Zo8 rfl ?_|refine Zo9 rfl ?_|refine Zoa ?_|refine Zob ?_|refine Zoc ?_|refine Zod ?_|refine Zoe ?_|refine Zof ?_|refine Zog ?_|refine Zoh ?_|refine Zoi rfl ?_|refine Zoj rfl ?_|refine Zok rfl ?_|refine Zol rfl ?_|refine Zom rfl (by rfl) ?_|refine Zon rfl rfl ?_|refine Zoo rfl rfl rfl rfl (by rfl) (by rfl) ?_|refine Zop rfl trivial ?_|refine Zoq rfl rfl rfl ?_)
    have hne : xs ≠ ys := fun he => h (by rw [hn, hm, he])
    exact Kr.one (.inr rfl) rfl (Ent.refl _) ⟨by simp [hne], rfl⟩
  · repeat' (first|refine Zo0 rfl ?_|refine Zo1 ?_|refine Zo2 ?_|refine Zo3 ?_|refine Zo4 ?_|refine Zo5 ?_|refine Zo6 ?_|refine Zo7 ?_|refine Zo8 rfl ?_|refine Zo9 rfl ?_|refine Zoa ?_|refine Zob ?_|refine Zoc ?_|refine Zod ?_|refine Zoe ?_|refine Zof ?_|refine Zog ?_|refine Zoh ?_|refine Zoi rfl ?_|refine Zoj rfl ?_|refine Zok rfl ?_|refine Zol rfl ?_|refine Zom rfl (by rfl) ?_|refine Zon rfl rfl ?_|refine Zoo rfl rfl rfl rfl (by rfl) (by rfl) ?_|refine Zop rfl trivial ?_|refine Zoq rfl rfl rfl ?_)
    have hnm : n = m := by omega
    refine Cx.lp (α := {i : Nat // i ≤ n ∧ xs.take i = ys.take i}) (fun i => [(0, .slice a n c), (1, .slice b m d), (5, .int .i64 i.1)]) (fun _ => L) (fun i => n - i.1) ⟨0, by omega, rfl⟩ (sub.cons rfl (sub.cons rfl (sub.cons rfl sub.nil))) (Ent.refl _) ?_
    rintro ⟨i, hi, heq⟩
    dsimp only
    repeat' (first|refine Zo0 rfl ?_|refine Zo1 ?_|refine Zo2 ?_|refine Zo3 ?_|refine Zo4 ?_|refine Zo5 ?_|refine Zo6 ?_|refine Zo7 ?_|refine Zo8 rfl ?_|refine Zo9 rfl ?_|refine Zoa ?_|refine Zob ?_|refine Zoc ?_|refine Zod ?_|refine Zoe ?_|refine Zof ?_|refine Zog ?_|refine Zoh ?_|refine Zoi rfl ?_|refine Zoj rfl ?_|refine Zok rfl ?_|refine Zol rfl ?_|refine Zom rfl (by rfl) ?_|refine Zon rfl rfl ?_|refine Zoo rfl rfl rfl rfl (by rfl) (by rfl) ?_|refine Zop rfl trivial ?_|refine Zoq rfl rfl rfl ?_)
    refine Cx.ifp rfl (fun h => ?_) (fun h => ?_)
    · have hlt : i < n := by omega
      obtain ⟨_, h0 | ⟨ga, oa, rfl, ha⟩⟩ := h1
      · omega
      obtain ⟨_, h0 | ⟨gb, ob, rfl, hbb⟩⟩ := h2
      · omega
      have hx : (ints xs)[i]? = some (.int .i64 xs[i]) := by simp [ints]
      have hy : (ints ys)[i]? = some (.int .i64 ys[i]) := by simp [ints]
      repeat' (first|refine Zo0 rfl ?_|refine Zo1 ?_|refine Zo2 ?_|refine Zo3 ?_|refine Zo4 ?_|refine Zo5 ?_|refine Zo6 ?_|refine Zo7 ?_|refine Zo8 rfl ?_|refine Zo9 rfl ?_|refine Zoa ?_|refine Zob ?_|refine Zoc ?_|refine Zod ?_|refine Zoe ?_|refine Zof ?_|refine Zog ?_|refine Zoh ?_|refine Zoi rfl ?_|refine Zoj rfl ?_|refine Zok rfl ?_|refine Zol rfl ?_|refine Zom rfl (by rfl) ?_|refine Zon rfl rfl ?_|refine Zoo rfl rfl rfl rfl (by rfl) (by rfl) ?_|refine Zop rfl trivial ?_|refine Zoq rfl rfl rfl ?_)
      refine Cx.rd ?_
      refine Rx.pvs rfl ?_
      refine Rx.pv 0 rfl rfl rfl ⟨by omega, by omega⟩ rfl rfl ?_
      refine Rx.pv 1 rfl rfl rfl ⟨by omega, by omega⟩ rfl rfl ?_
      refine Rx.ldS 0 rfl rfl rfl (by simpa using ha.at_ hx) rfl rfl rfl ?_
      refine Rx.ldS 0 rfl rfl rfl (by simpa using hbb.at_ hy) rfl rfl rfl ?_
      refine Rx.pvs rfl ?_
      refine Rx.nil ?_
      repeat' (first|refine Zo0 rfl ?_|refine Zo1 ?_|refine Zo2 ?_|refine Zo3 ?_|refine Zo4 ?_|refine Zo5 ?_|refine Zo6 ?_|refine Zo7 ?_|refine Zo8 rfl ?_|refine Zo9 rfl ?_|refine Zoa ?_|refine Zob ?_|refine Zoc ?_|refine Zod ?_|refine Zoe ?_|refine Zof ?_|refine Zog ?_|refine Zoh ?_|refine Zoi rfl ?_|refine Zoj rfl ?_|refine Zok rfl ?_|refine Zol rfl ?_|refine Zom rfl (by rfl) ?_|refine Zon rfl rfl ?_|refine Zoo rfl rfl rfl rfl (by rfl) (by rfl) ?_|refine Zop rfl trivial ?_|refine Zoq rfl rfl rfl ?_)
      refine Cx.ifn rfl (fun hne => ?_) (fun he => ?_)
      · repeat' (first|refine Zo0 rfl ?_|refine Zo1 ?_|refine Zo2 ?_|refine Zo3 ?_|refine Zo4 ?_|refine Zo5 ?_|refine Zo6 ?_|refine Zo7 ?_|refine Zo8 rfl ?_|refine Zo9 rfl ?_|refine Zoa ?_|refine Zob ?_|refine Zoc ?_|refine Zod ?_|refine Zoe ?_|refine Zof ?_|refine Zog ?_|refine Zoh ?_|refine Zoi rfl ?_|refine Zoj rfl ?_|refine Zok rfl ?_|refine Zol rfl ?_|refine Zom rfl (by rfl) ?_|refine Zon rfl rfl ?_|refine Zoo rfl rfl rfl rfl (by rfl) (by rfl) ?_|refine Zop rfl trivial ?_|refine Zoq rfl rfl rfl ?_)
        have hxy : xs ≠ ys := fun he => by subst he; exact hne rfl
        exact Kr.one (.inr rfl) rfl (Ent.refl _) ⟨by simp [hxy], rfl⟩
      · repeat' (first|refine Zo0 rfl ?_|refine Zo1 ?_|refine Zo2 ?_|refine Zo3 ?_|refine Zo4 ?_|refine Zo5 ?_|refine Zo6 ?_|refine Zo7 ?_|refine Zo8 rfl ?_|refine Zo9 rfl ?_|refine Zoa ?_|refine Zob ?_|refine Zoc ?_|refine Zod ?_|refine Zoe ?_|refine Zof ?_|refine Zog ?_|refine Zoh ?_|refine Zoi rfl ?_|refine Zoj rfl ?_|refine Zok rfl ?_|refine Zol rfl ?_|refine Zom rfl (by rfl) ?_|refine Zon rfl rfl ?_|refine Zoo rfl rfl rfl rfl (by rfl) (by rfl) ?_|refine Zop rfl trivial ?_|refine Zoq rfl rfl rfl ?_)
        rw [w64 (by omega) (by omega)]
        refine Klp.nm ⟨i + 1, by omega, ?_⟩ (sub.cons rfl (sub.cons rfl (sub.cons (by simp [En.get, En.put]) sub.nil))) (Ent.refl _) (by simp; omega)
        rw [List.take_succ_eq_append_getElem (by omega), List.take_succ_eq_append_getElem (by omega), heq, he]
    · repeat' (first|refine Zo0 rfl ?_|refine Zo1 ?_|refine Zo2 ?_|refine Zo3 ?_|refine Zo4 ?_|refine Zo5 ?_|refine Zo6 ?_|refine Zo7 ?_|refine Zo8 rfl ?_|refine Zo9 rfl ?_|refine Zoa ?_|refine Zob ?_|refine Zoc ?_|refine Zod ?_|refine Zoe ?_|refine Zof ?_|refine Zog ?_|refine Zoh ?_|refine Zoi rfl ?_|refine Zoj rfl ?_|refine Zok rfl ?_|refine Zol rfl ?_|refine Zom rfl (by rfl) ?_|refine Zon rfl rfl ?_|refine Zoo rfl rfl rfl rfl (by rfl) (by rfl) ?_|refine Zop rfl trivial ?_|refine Zoq rfl rfl rfl ?_)
      have hin : i = n := by omega
      subst hin
      have hxy : xs = ys := by
        rw [hn, List.take_length] at heq
        rw [heq, ← hn, hnm, hm, List.take_length]
      exact Kr.one (.inr rfl) rfl (Ent.refl _) ⟨by simp [hxy], rfl⟩

/-- The reference's stash. -/
abbrev RefO := StashT 154
theorem refNew (m : Int) : Fx Tryz.prog 132 [.int .i64 m] L (fun v L' => ∃ g, v = .pointer (some ⟨g, 0, none⟩) ∧ L' = pt (some ⟨g, 0, none⟩) (RefO (min (max m 0) 64) []) :: L) := by
  refine Fx.mk Tryz.func132 k132 (Nat.le_of_ble_eq_true rfl) ?_
  dsimp only [c132, envOf, Nat.reduceAdd]
  repeat' (first|refine Zo0 rfl ?_|refine Zo1 ?_|refine Zo2 ?_|refine Zo3 ?_|refine Zo4 ?_|refine Zo5 ?_|refine Zo6 ?_|refine Zo7 ?_|refine Zo8 rfl ?_|refine Zo9 rfl ?_|refine Zoa ?_|refine Zob ?_|refine Zoc ?_|refine Zod ?_|refine Zoe ?_|refine Zof ?_|refine Zog ?_|refine Zoh ?_|refine Zoi rfl ?_|refine Zoj rfl ?_|refine Zok rfl ?_|refine Zol rfl ?_|refine Zom rfl (by rfl) ?_|refine Zon rfl rfl ?_|refine Zoo rfl rfl rfl rfl (by rfl) (by rfl) ?_|refine Zop rfl trivial ?_|refine Zoq rfl rfl rfl ?_)
  refine Sx.bx rfl rfl fun g => ?_
  repeat' (first|refine Zo0 rfl ?_|refine Zo1 ?_|refine Zo2 ?_|refine Zo3 ?_|refine Zo4 ?_|refine Zo5 ?_|refine Zo6 ?_|refine Zo7 ?_|refine Zo8 rfl ?_|refine Zo9 rfl ?_|refine Zoa ?_|refine Zob ?_|refine Zoc ?_|refine Zod ?_|refine Zoe ?_|refine Zof ?_|refine Zog ?_|refine Zoh ?_|refine Zoi rfl ?_|refine Zoj rfl ?_|refine Zok rfl ?_|refine Zol rfl ?_|refine Zom rfl (by rfl) ?_|refine Zon rfl rfl ?_|refine Zoo rfl rfl rfl rfl (by rfl) (by rfl) ?_|refine Zop rfl trivial ?_|refine Zoq rfl rfl rfl ?_)
  refine Kr.one (.inr rfl) rfl (Ent.trans (Ent.rownil 3 1) (StashO.close (xs := []) rfl ?_ rfl)) ⟨g, rfl, rfl⟩
  simp only [cond_true, cond_false]
  congr 1
  omega
theorem refGive {b : Nat} {most : Int} {xs ys : List Int} {ya : Option Addr} {m c : Nat} [t : Take L (some ⟨b, 0, none⟩) (RefO most xs) F] (hr : Rd F 1 ya m (ints ys)) (hb : xs.length + m ≤ 1000000000) :
    Fx Tryz.prog 45 [.pointer (some ⟨b, 0, none⟩), .slice ya m c] L (fun v L' => v = .tuple #[] ∧ L' = pt (some ⟨b, 0, none⟩) (RefO most (xs ++ ys)) :: F) := by
  refine Fx.mk Tryz.func45 k45 (Nat.le_of_ble_eq_true rfl) ?_
  dsimp only [c45, envOf, Nat.reduceAdd]
  refine Cx.openp (t := t) rfl ?_
  rintro ⟨r, cap⟩
  simp only [List.cons_append, List.nil_append]
  refine Cx.rowkey (a := r) fun hx hnc _ hkey => ?_
  repeat' (first|refine Zo0 rfl ?_|refine Zo1 ?_|refine Zo2 ?_|refine Zo3 ?_|refine Zo4 ?_|refine Zo5 ?_|refine Zo6 ?_|refine Zo7 ?_|refine Zo8 rfl ?_|refine Zo9 rfl ?_|refine Zoa ?_|refine Zob ?_|refine Zoc ?_|refine Zod ?_|refine Zoe ?_|refine Zof ?_|refine Zog ?_|refine Zoh ?_|refine Zoi rfl ?_|refine Zoj rfl ?_|refine Zok rfl ?_|refine Zol rfl ?_|refine Zom rfl (by rfl) ?_|refine Zon rfl rfl ?_|refine Zoo rfl rfl rfl rfl (by rfl) (by rfl) ?_|refine Zop rfl trivial ?_|refine Zoq rfl rfl rfl ?_)
  refine Sx.apn rfl rfl (Rd.any (a := r) hx (hkey.imp (fun h => h.2.1) id)) (ones_ints xs) (by simp [maxLen]; omega) (by omega) fun r1 c1 h1 => ?_
  repeat' (first|refine Zo0 rfl ?_|refine Zo1 ?_|refine Zo2 ?_|refine Zo3 ?_|refine Zo4 ?_|refine Zo5 ?_|refine Zo6 ?_|refine Zo7 ?_|refine Zo8 rfl ?_|refine Zo9 rfl ?_|refine Zoa ?_|refine Zob ?_|refine Zoc ?_|refine Zod ?_|refine Zoe ?_|refine Zof ?_|refine Zog ?_|refine Zoh ?_|refine Zoi rfl ?_|refine Zoj rfl ?_|refine Zok rfl ?_|refine Zol rfl ?_|refine Zom rfl (by rfl) ?_|refine Zon rfl rfl ?_|refine Zoo rfl rfl rfl rfl (by rfl) (by rfl) ?_|refine Zop rfl trivial ?_|refine Zoq rfl rfl rfl ?_)
  refine Sx.ap rfl rfl (hr.ent (Ent.drop.trans (Ent.drop.trans Ent.drop))) (ones_ints ys) (by simp [maxLen]; omega) (by omega) fun r2 c2 h2 => ?_
  repeat' (first|refine Zo0 rfl ?_|refine Zo1 ?_|refine Zo2 ?_|refine Zo3 ?_|refine Zo4 ?_|refine Zo5 ?_|refine Zo6 ?_|refine Zo7 ?_|refine Zo8 rfl ?_|refine Zo9 rfl ?_|refine Zoa ?_|refine Zob ?_|refine Zoc ?_|refine Zod ?_|refine Zoe ?_|refine Zof ?_|refine Zog ?_|refine Zoh ?_|refine Zoi rfl ?_|refine Zoj rfl ?_|refine Zok rfl ?_|refine Zol rfl ?_|refine Zom rfl (by rfl) ?_|refine Zon rfl rfl ?_|refine Zoo rfl rfl rfl rfl (by rfl) (by rfl) ?_|refine Zop rfl trivial ?_|refine Zoq rfl rfl rfl ?_)
  have hm : m = ys.length := by have := hr.1; simp [length_ints] at this; omega
  refine Kr.none (.inl rfl) ?_ ⟨rfl, rfl⟩
  refine Ent.trans (StashO.close (a := some ⟨b, 0, none⟩) (r := r2) (xs := xs ++ ys) (by simp [hm]) rfl (by simp [ints])) ?_
  repeat (first | exact Ent.refl _ | (refine Ent.take1 ?_) | (refine Ent.trans Ent.drop ?_))
theorem refTakeNone {b : Nat} {most : Int} [t : Take L (some ⟨b, 0, none⟩) (RefO most []) F] :
    Fx Tryz.prog 174 [.pointer (some ⟨b, 0, none⟩)] L (fun v L' => v = .tuple #[.int .i64 0, .bool false] ∧ L' = pt (some ⟨b, 0, none⟩) (RefO most []) :: F) := by
  refine Fx.mk Tryz.func174 k174 (Nat.le_of_ble_eq_true rfl) ?_
  dsimp only [c174, envOf, Nat.reduceAdd]
  refine Cx.openp (t := t) rfl ?_
  rintro ⟨r, cap⟩
  simp only [List.cons_append, List.nil_append]
  repeat' (first|refine Zo0 rfl ?_|refine Zo1 ?_|refine Zo2 ?_|refine Zo3 ?_|refine Zo4 ?_|refine Zo5 ?_|refine Zo6 ?_|refine Zo7 ?_|refine Zo8 rfl ?_|refine Zo9 rfl ?_|refine Zoa ?_|refine Zob ?_|refine Zoc ?_|refine Zod ?_|refine Zoe ?_|refine Zof ?_|refine Zog ?_|refine Zoh ?_|refine Zoi rfl ?_|refine Zoj rfl ?_|refine Zok rfl ?_|refine Zol rfl ?_|refine Zom rfl (by rfl) ?_|refine Zon rfl rfl ?_|refine Zoo rfl rfl rfl rfl (by rfl) (by rfl) ?_|refine Zop rfl trivial ?_|refine Zoq rfl rfl rfl ?_)
  exact Kr.two (.inr rfl) rfl rfl (StashO.close rfl rfl rfl) ⟨rfl, rfl⟩
theorem refTakeSome {b : Nat} {most : Int} {xs : List Int} {x : Int} [t : Take L (some ⟨b, 0, none⟩) (RefO most (xs ++ [x])) F] (hb : xs.length ≤ 100000000) :
    Fx Tryz.prog 174 [.pointer (some ⟨b, 0, none⟩)] L (fun v L' => v = .tuple #[.int .i64 x, .bool true] ∧ L' = pt (some ⟨b, 0, none⟩) (RefO most xs) :: F) := by
  refine Fx.mk Tryz.func174 k174 (Nat.le_of_ble_eq_true rfl) ?_
  dsimp only [c174, envOf, Nat.reduceAdd]
  refine Cx.openp (t := t) rfl ?_
  rintro ⟨r, cap⟩
  simp only [List.cons_append, List.nil_append]
  generalize hn : (xs ++ [x]).length = n
  have hn' : n = xs.length + 1 := by simp at hn; omega
  clear hn
  refine Cx.rowkey (a := r) fun hx hnc _ hk => ?_
  obtain ⟨g, rfl⟩ : ∃ g, r = some ⟨g, 0, none⟩ := by
    rcases hk with h | h
    · exfalso; omega
    · exact h
  have hw : IntKind.i64.wrap ((n : Int) - 1) = (xs.length : Int) := by rw [w64 (by omega) (by omega)]; omega
  repeat' (first|refine Zo0 rfl ?_|refine Zo1 ?_|refine Zo2 ?_|refine Zo3 ?_|refine Zo4 ?_|refine Zo5 ?_|refine Zo6 ?_|refine Zo7 ?_|refine Zo8 rfl ?_|refine Zo9 rfl ?_|refine Zoa ?_|refine Zob ?_|refine Zoc ?_|refine Zod ?_|refine Zoe ?_|refine Zof ?_|refine Zog ?_|refine Zoh ?_|refine Zoi rfl ?_|refine Zoj rfl ?_|refine Zok rfl ?_|refine Zol rfl ?_|refine Zom rfl (by rfl) ?_|refine Zon rfl rfl ?_|refine Zoo rfl rfl rfl rfl (by rfl) (by rfl) ?_|refine Zop rfl trivial ?_|refine Zoq rfl rfl rfl ?_)
  refine Cx.cno rfl (by simp; omega) ?_
  repeat' (first|refine Zo0 rfl ?_|refine Zo1 ?_|refine Zo2 ?_|refine Zo3 ?_|refine Zo4 ?_|refine Zo5 ?_|refine Zo6 ?_|refine Zo7 ?_|refine Zo8 rfl ?_|refine Zo9 rfl ?_|refine Zoa ?_|refine Zob ?_|refine Zoc ?_|refine Zod ?_|refine Zoe ?_|refine Zof ?_|refine Zog ?_|refine Zoh ?_|refine Zoi rfl ?_|refine Zoj rfl ?_|refine Zok rfl ?_|refine Zol rfl ?_|refine Zom rfl (by rfl) ?_|refine Zon rfl rfl ?_|refine Zoo rfl rfl rfl rfl (by rfl) (by rfl) ?_|refine Zop rfl trivial ?_|refine Zoq rfl rfl rfl ?_)
  rw [hw]
  repeat' (first|refine Zo0 rfl ?_|refine Zo1 ?_|refine Zo2 ?_|refine Zo3 ?_|refine Zo4 ?_|refine Zo5 ?_|refine Zo6 ?_|refine Zo7 ?_|refine Zo8 rfl ?_|refine Zo9 rfl ?_|refine Zoa ?_|refine Zob ?_|refine Zoc ?_|refine Zod ?_|refine Zoe ?_|refine Zof ?_|refine Zog ?_|refine Zoh ?_|refine Zoi rfl ?_|refine Zoj rfl ?_|refine Zok rfl ?_|refine Zol rfl ?_|refine Zom rfl (by rfl) ?_|refine Zon rfl rfl ?_|refine Zoo rfl rfl rfl rfl (by rfl) (by rfl) ?_|refine Zop rfl trivial ?_|refine Zoq rfl rfl rfl ?_)
  refine Sx.pv rfl ⟨by omega, by omega⟩ ?_
  refine Sx.ldr rfl (v := .int .i64 x) ?_ ?_
  · simp [ints]
  repeat' (first|refine Zo0 rfl ?_|refine Zo1 ?_|refine Zo2 ?_|refine Zo3 ?_|refine Zo4 ?_|refine Zo5 ?_|refine Zo6 ?_|refine Zo7 ?_|refine Zo8 rfl ?_|refine Zo9 rfl ?_|refine Zoa ?_|refine Zob ?_|refine Zoc ?_|refine Zod ?_|refine Zoe ?_|refine Zof ?_|refine Zog ?_|refine Zoh ?_|refine Zoi rfl ?_|refine Zoj rfl ?_|refine Zok rfl ?_|refine Zol rfl ?_|refine Zom rfl (by rfl) ?_|refine Zon rfl rfl ?_|refine Zoo rfl rfl rfl rfl (by rfl) (by rfl) ?_|refine Zop rfl trivial ?_|refine Zoq rfl rfl rfl ?_)
  rw [hw]
  repeat' (first|refine Zo0 rfl ?_|refine Zo1 ?_|refine Zo2 ?_|refine Zo3 ?_|refine Zo4 ?_|refine Zo5 ?_|refine Zo6 ?_|refine Zo7 ?_|refine Zo8 rfl ?_|refine Zo9 rfl ?_|refine Zoa ?_|refine Zob ?_|refine Zoc ?_|refine Zod ?_|refine Zoe ?_|refine Zof ?_|refine Zog ?_|refine Zoh ?_|refine Zoi rfl ?_|refine Zoj rfl ?_|refine Zok rfl ?_|refine Zol rfl ?_|refine Zom rfl (by rfl) ?_|refine Zon rfl rfl ?_|refine Zoo rfl rfl rfl rfl (by rfl) (by rfl) ?_|refine Zop rfl trivial ?_|refine Zoq rfl rfl rfl ?_)
  refine Sx.pv rfl ⟨by omega, by omega⟩ ?_
  have h1 := Rd.prefix_ (L := pt (some ⟨b, 0, none⟩) (Blk 154 [.int .i64 most, .slice (some ⟨g, 0, none⟩) n cap]) :: pt (some ⟨g, 0, none⟩) (Row 3 1 n cap (ints (xs ++ [x]))) :: F) (m := xs.length) (a := some ⟨g, 0, none⟩) hx (.inr ⟨g, rfl⟩) (by omega)
  have h2 : (ints (xs ++ [x])).take (xs.length * 1) = ints xs := by simp [ints]
  rw [h2] at h1
  refine Sx.apn rfl rfl (by simpa using h1) (ones_ints xs) (by simp [maxLen]; omega) (by omega) fun r1 c1 h3 => ?_
  repeat' (first|refine Zo0 rfl ?_|refine Zo1 ?_|refine Zo2 ?_|refine Zo3 ?_|refine Zo4 ?_|refine Zo5 ?_|refine Zo6 ?_|refine Zo7 ?_|refine Zo8 rfl ?_|refine Zo9 rfl ?_|refine Zoa ?_|refine Zob ?_|refine Zoc ?_|refine Zod ?_|refine Zoe ?_|refine Zof ?_|refine Zog ?_|refine Zoh ?_|refine Zoi rfl ?_|refine Zoj rfl ?_|refine Zok rfl ?_|refine Zol rfl ?_|refine Zom rfl (by rfl) ?_|refine Zon rfl rfl ?_|refine Zoo rfl rfl rfl rfl (by rfl) (by rfl) ?_|refine Zop rfl trivial ?_|refine Zoq rfl rfl rfl ?_)
  refine Kr.two (.inr rfl) rfl rfl ?_ ⟨rfl, rfl⟩
  refine Ent.trans (StashO.close (a := some ⟨b, 0, none⟩) (r := r1) (xs := xs) (by simp) rfl rfl) ?_
  repeat (first | exact Ent.refl _ | (refine Ent.take1 ?_) | (refine Ent.trans Ent.drop ?_))
theorem refAll {b : Nat} {most : Int} {xs : List Int} [t : Take L (some ⟨b, 0, none⟩) (RefO most xs) F] :
    Fx Tryz.prog 150 [.pointer (some ⟨b, 0, none⟩)] L (fun v L' => ∃ a c, v = .slice a xs.length c ∧ L' = pt a (Row 3 1 xs.length c (ints xs)) :: pt (some ⟨b, 0, none⟩) (RefO most []) :: F) := by
  refine Fx.mk Tryz.func150 k150 (Nat.le_of_ble_eq_true rfl) ?_
  dsimp only [c150, envOf, Nat.reduceAdd]
  refine Cx.openp (t := t) rfl ?_
  rintro ⟨r, cap⟩
  simp only [List.cons_append, List.nil_append]
  repeat' (first|refine Zo0 rfl ?_|refine Zo1 ?_|refine Zo2 ?_|refine Zo3 ?_|refine Zo4 ?_|refine Zo5 ?_|refine Zo6 ?_|refine Zo7 ?_|refine Zo8 rfl ?_|refine Zo9 rfl ?_|refine Zoa ?_|refine Zob ?_|refine Zoc ?_|refine Zod ?_|refine Zoe ?_|refine Zof ?_|refine Zog ?_|refine Zoh ?_|refine Zoi rfl ?_|refine Zoj rfl ?_|refine Zok rfl ?_|refine Zol rfl ?_|refine Zom rfl (by rfl) ?_|refine Zon rfl rfl ?_|refine Zoo rfl rfl rfl rfl (by rfl) (by rfl) ?_|refine Zop rfl trivial ?_|refine Zoq rfl rfl rfl ?_)
  refine Kr.one (.inr rfl) rfl ?_ ⟨r, cap, rfl, rfl⟩
  refine Ent.trans (Ent.rownil 3 1) ?_
  refine Ent.trans (StashO.close (a := some ⟨b, 0, none⟩) (r := none) (xs := []) rfl rfl rfl) ?_
  repeat (first | exact Ent.refl _ | (refine Ent.take1 ?_) | (refine Ent.trans Ent.drop ?_))
theorem refOver {b : Nat} {most : Int} {xs : List Int} [t : Take L (some ⟨b, 0, none⟩) (RefO most xs) F] (hb : xs.length ≤ 100000000) (hm : 0 ≤ most) (hm2 : most ≤ 64) :
    Fx Tryz.prog 149 [.pointer (some ⟨b, 0, none⟩)] L (fun v L' => ∃ a c, v = .slice a (overK most xs) c ∧ L' = pt a (Row 3 1 (overK most xs) c (ints (xs.take (overK most xs)))) :: pt (some ⟨b, 0, none⟩) (RefO most (xs.drop (overK most xs))) :: F) := by
  refine Fx.mk Tryz.func149 k149 (Nat.le_of_ble_eq_true rfl) ?_
  dsimp only [c149, envOf, Nat.reduceAdd]
  refine Cx.openp (t := t) rfl ?_
  rintro ⟨r, cap⟩
  simp only [List.cons_append, List.nil_append]
  refine Cx.rowkey (a := r) fun hx hnc _ hkey => ?_
  repeat' (first|refine Zo0 rfl ?_|refine Zo1 ?_|refine Zo2 ?_|refine Zo3 ?_|refine Zo4 ?_|refine Zo5 ?_|refine Zo6 ?_|refine Zo7 ?_|refine Zo8 rfl ?_|refine Zo9 rfl ?_|refine Zoa ?_|refine Zob ?_|refine Zoc ?_|refine Zod ?_|refine Zoe ?_|refine Zof ?_|refine Zog ?_|refine Zoh ?_|refine Zoi rfl ?_|refine Zoj rfl ?_|refine Zok rfl ?_|refine Zol rfl ?_|refine Zom rfl (by rfl) ?_|refine Zon rfl rfl ?_|refine Zoo rfl rfl rfl rfl (by rfl) (by rfl) ?_|refine Zop rfl trivial ?_|refine Zoq rfl rfl rfl ?_)
  refine Cx.rd ?_
  refine Rx.pvs rfl ?_
  refine Rx.ldbS 0 rfl rfl rfl (by rfl) rfl rfl ?_
  refine Rx.pvs rfl ?_
  refine Rx.ldbS 0 rfl rfl rfl (by rfl) rfl rfl ?_
  refine Rx.pvs rfl ?_
  refine Rx.nil ?_
  have hw : IntKind.i64.wrap ((xs.length : Int) - most) = (xs.length : Int) - most := w64 (by omega) (by omega)
  have hk : (if (xs.length : Int) - most < 0 then 0 else (xs.length : Int) - most) = (overK most xs : Int) := by unfold overK; omega
  have hkl : overK most xs ≤ xs.length := by unfold overK; omega
  rw [hw]
  simp only [cond_true, hk]
  repeat' (first|refine Zo0 rfl ?_|refine Zo1 ?_|refine Zo2 ?_|refine Zo3 ?_|refine Zo4 ?_|refine Zo5 ?_|refine Zo6 ?_|refine Zo7 ?_|refine Zo8 rfl ?_|refine Zo9 rfl ?_|refine Zoa ?_|refine Zob ?_|refine Zoc ?_|refine Zod ?_|refine Zoe ?_|refine Zof ?_|refine Zog ?_|refine Zoh ?_|refine Zoi rfl ?_|refine Zoj rfl ?_|refine Zok rfl ?_|refine Zol rfl ?_|refine Zom rfl (by rfl) ?_|refine Zon rfl rfl ?_|refine Zoo rfl rfl rfl rfl (by rfl) (by rfl) ?_|refine Zop rfl trivial ?_|refine Zoq rfl rfl rfl ?_)
  refine Sx.pv rfl ⟨by omega, by omega⟩ ?_
  have h1 := Rd.prefix_ (L := pt (some ⟨b, 0, none⟩) (Blk 154 [.int .i64 most, .slice r xs.length cap]) :: pt r (Row 3 1 xs.length cap (ints xs)) :: F) (a := r) hx hkey hkl
  simp only [Nat.mul_one, ints_take] at h1
  refine Sx.apn rfl rfl (by simpa using h1) (ones_ints _) (by simp [maxLen]; omega) (by omega) fun r1 c1 h3 => ?_
  repeat' (first|refine Zo0 rfl ?_|refine Zo1 ?_|refine Zo2 ?_|refine Zo3 ?_|refine Zo4 ?_|refine Zo5 ?_|refine Zo6 ?_|refine Zo7 ?_|refine Zo8 rfl ?_|refine Zo9 rfl ?_|refine Zoa ?_|refine Zob ?_|refine Zoc ?_|refine Zod ?_|refine Zoe ?_|refine Zof ?_|refine Zog ?_|refine Zoh ?_|refine Zoi rfl ?_|refine Zoj rfl ?_|refine Zok rfl ?_|refine Zol rfl ?_|refine Zom rfl (by rfl) ?_|refine Zon rfl rfl ?_|refine Zoo rfl rfl rfl rfl (by rfl) (by rfl) ?_|refine Zop rfl trivial ?_|refine Zoq rfl rfl rfl ?_)
  rcases hkey with ⟨rfl, h0, rfl⟩ | ⟨g, rfl⟩
  · have hx0 : xs = [] := List.eq_nil_of_length_eq_zero h0
    subst hx0
    have hk0 : overK most [] = 0 := by simpa using hkl
    rw [hk0] at h3 ⊢
    refine Sx.pv rfl (by simp) ?_
    refine Sx.apn rfl rfl (Rd.nil _ _ _) rfl (by simp) (by simp) fun r2 c2 h4 => ?_
    repeat' (first|refine Zo0 rfl ?_|refine Zo1 ?_|refine Zo2 ?_|refine Zo3 ?_|refine Zo4 ?_|refine Zo5 ?_|refine Zo6 ?_|refine Zo7 ?_|refine Zo8 rfl ?_|refine Zo9 rfl ?_|refine Zoa ?_|refine Zob ?_|refine Zoc ?_|refine Zod ?_|refine Zoe ?_|refine Zof ?_|refine Zog ?_|refine Zoh ?_|refine Zoi rfl ?_|refine Zoj rfl ?_|refine Zok rfl ?_|refine Zol rfl ?_|refine Zom rfl (by rfl) ?_|refine Zon rfl rfl ?_|refine Zoo rfl rfl rfl rfl (by rfl) (by rfl) ?_|refine Zop rfl trivial ?_|refine Zoq rfl rfl rfl ?_)
    refine Kr.one (.inr rfl) rfl ?_ ⟨r1, c1, rfl, rfl⟩
    refine Ent.trans (StashO.close (a := some ⟨b, 0, none⟩) (r := r2) (xs := []) rfl rfl rfl) ?_
    simp only [Int.toNat_natCast, List.take_nil, List.drop_nil, ints, List.map_nil]
    repeat (first | exact Ent.refl _ | (refine Ent.take1 ?_) | (refine Ent.trans Ent.drop ?_))
  · refine Sx.pv rfl ⟨by omega, by omega⟩ ?_
    have h2 := Rd.suffix_ (L := pt r1 (Row 3 1 (overK most xs) c1 (ints (xs.take (overK most xs)))) :: pt (some ⟨b, 0, none⟩) (Blk 154 [.int .i64 most, .slice (some ⟨g, 0, none⟩) xs.length cap]) :: pt (some ⟨g, 0, none⟩) (Row 3 1 xs.length cap (ints xs)) :: F) (g := g) hx hnc hkl
    simp only [Nat.mul_one, ints_drop] at h2
    refine Sx.apn rfl rfl (ys := ints (xs.drop (overK most xs))) (by simpa using h2) (ones_ints _) (by simp [maxLen]; omega) (by omega) fun r2 c2 h4 => ?_
    repeat' (first|refine Zo0 rfl ?_|refine Zo1 ?_|refine Zo2 ?_|refine Zo3 ?_|refine Zo4 ?_|refine Zo5 ?_|refine Zo6 ?_|refine Zo7 ?_|refine Zo8 rfl ?_|refine Zo9 rfl ?_|refine Zoa ?_|refine Zob ?_|refine Zoc ?_|refine Zod ?_|refine Zoe ?_|refine Zof ?_|refine Zog ?_|refine Zoh ?_|refine Zoi rfl ?_|refine Zoj rfl ?_|refine Zok rfl ?_|refine Zol rfl ?_|refine Zom rfl (by rfl) ?_|refine Zon rfl rfl ?_|refine Zoo rfl rfl rfl rfl (by rfl) (by rfl) ?_|refine Zop rfl trivial ?_|refine Zoq rfl rfl rfl ?_)
    refine Kr.one (.inr rfl) rfl ?_ ⟨r1, c1, rfl, rfl⟩
    refine Ent.trans (StashO.close (a := some ⟨b, 0, none⟩) (r := r2) (xs := xs.drop (overK most xs)) (by simp) rfl rfl) ?_
    simp only [Int.toNat_natCast]
    repeat (first | exact Ent.refl _ | (refine Ent.take1 ?_) | (refine Ent.trans Ent.drop ?_))
end
end Go.Proofs.YtnbkjcmmjgkdaaaGreat
