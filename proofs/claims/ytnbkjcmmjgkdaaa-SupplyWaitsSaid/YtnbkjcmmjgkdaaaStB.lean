/-
  Plain helpers of the statements (numbers, lists of numbers), and the reference's stash.
-/
import Derived.Test.YtnbkjcmmjgkdaaaStA
set_option linter.unusedVariables false
namespace Go.Proofs.Ytnbkjcmmjgkdaaa
open Go
attribute [local irreducible] Sx Cx Rx Fx Krg Ksq Kbl Klp Kr

section
variable {P : Program} {N : Nat} {e : En} {K : En → St → Prop} {L F : St} {l : List G}
/-- Appending to nothing. -/
theorem Sx.apn {d : Option Nat} {T E sz by_ : Nat} {z : List Value} {x y : X} {ya : Option Addr} {m c : Nat} {ys : List Value}
    (hx : x.get e = some (.slice none 0 0)) (hy : y.get e = some (.slice ya m c)) (hr : Rd L sz ya m ys) (h1 : ones ys = true) (hm : m ≤ maxLen) (hb : m * by_ ≤ 140737488355328)
    (k : ∀ ra' cap', m ≤ cap' → Sx P N l (e.put d (.slice ra' m cap')) K (pt ra' (Row E sz m cap' ys) :: L)) : Sx P N (⟨d, none, .ap T E sz by_ z x y⟩ :: l) e K L := by
  refine Sx.ent (Ent.rownil E sz) ?_
  refine Sx.ap (ra := none) (n := 0) (cap := 0) (xs := []) hx hy (hr.ent Ent.drop) h1 (by omega) (by simpa using hb) fun ra ca hc => ?_
  simp only [Nat.zero_add, List.nil_append] at hc ⊢
  exact k ra ca hc
/-- One element read through. -/
theorem Has.at_ {b o i : Nat} {vs : List Value} {v : Value} (h : Has L b o vs) (hv : vs[i]? = some v) : Has L b (o + i) [v] := by
  have := Has.sub (i := i) (n := 1) h
  rwa [take_one hv] at this
end

section
variable {L F : St}
theorem number (v n : Int) (hn : 0 < n) (hn2 : n ≤ 4611686018427387904) : Fx Try.prog 8 [.int .i64 v, .int .i64 n] L (fun r L' => r = .int .i64 (v % n) ∧ L = L') := by
  have h1 := Int.tmod_lt_of_pos v hn
  have h2 : v % n = if v.tmod n < 0 then v.tmod n + n else v.tmod n := by
    rw [Int.tmod_eq_emod]
    have h3 := Int.emod_nonneg v (show n ≠ 0 by omega)
    have h4 := Int.emod_lt_of_pos v hn
    have h5 : (n.natAbs : Int) = n := by omega
    split <;> split <;> omega
  have h6 : -n < v.tmod n := by
    rw [Int.tmod_eq_emod]
    have h3 := Int.emod_nonneg v (show n ≠ 0 by omega)
    have h4 := Int.emod_lt_of_pos v hn
    have h5 : (n.natAbs : Int) = n := by omega
    split <;> omega
  refine Fx.mk Try.func8 k8 (Nat.le_of_ble_eq_true rfl) ?_
  dsimp only [c8, envOf, Nat.reduceAdd]
  repeat' (first | (refine Sx.pvs rfl ?_) | (refine Sx.nil ?_) | (refine Krg.i ?_) | (refine Ksq.nm ?_) | (refine Ksq.rt ?_) | (refine Ksq.ex ?_) | (refine Kbl.nm ?_) | (refine Kbl.rt ?_) | (refine Kbl.hit rfl ?_) | (refine Kbl.miss rfl ?_) | (refine Klp.rt ?_) | (refine Klp.ex ?_) | (refine Cx.sq ?_) | (refine Cx.rg ?_) | (refine Cx.bl ?_) | (refine Cx.sk ?_) | (refine Cx.rt ?_) | (refine Cx.ex ?_) | (refine Cx.yes rfl ?_) | (refine Cx.no rfl ?_) | (refine Sx.on rfl ?_) | (refine Sx.off rfl ?_) | (refine Sx.ldb rfl (by rfl) ?_) | (refine Sx.ldbs rfl rfl ?_) | (refine Sx.stb rfl rfl rfl rfl (by rfl) (by rfl) ?_) | (refine Sx.pv rfl trivial ?_) | (refine Sx.pk rfl rfl rfl ?_))
  refine Sx.pv rfl (by omega) ?_
  repeat' (first | (refine Sx.pvs rfl ?_) | (refine Sx.nil ?_) | (refine Krg.i ?_) | (refine Ksq.nm ?_) | (refine Ksq.rt ?_) | (refine Ksq.ex ?_) | (refine Kbl.nm ?_) | (refine Kbl.rt ?_) | (refine Kbl.hit rfl ?_) | (refine Kbl.miss rfl ?_) | (refine Klp.rt ?_) | (refine Klp.ex ?_) | (refine Cx.sq ?_) | (refine Cx.rg ?_) | (refine Cx.bl ?_) | (refine Cx.sk ?_) | (refine Cx.rt ?_) | (refine Cx.ex ?_) | (refine Cx.yes rfl ?_) | (refine Cx.no rfl ?_) | (refine Sx.on rfl ?_) | (refine Sx.off rfl ?_) | (refine Sx.ldb rfl (by rfl) ?_) | (refine Sx.ldbs rfl rfl ?_) | (refine Sx.stb rfl rfl rfl rfl (by rfl) (by rfl) ?_) | (refine Sx.pv rfl trivial ?_) | (refine Sx.pk rfl rfl rfl ?_))
  refine Cx.ifp rfl (fun h => ?_) (fun h => ?_)
  · repeat' (first | (refine Sx.pvs rfl ?_) | (refine Sx.nil ?_) | (refine Krg.i ?_) | (refine Ksq.nm ?_) | (refine Ksq.rt ?_) | (refine Ksq.ex ?_) | (refine Kbl.nm ?_) | (refine Kbl.rt ?_) | (refine Kbl.hit rfl ?_) | (refine Kbl.miss rfl ?_) | (refine Klp.rt ?_) | (refine Klp.ex ?_) | (refine Cx.sq ?_) | (refine Cx.rg ?_) | (refine Cx.bl ?_) | (refine Cx.sk ?_) | (refine Cx.rt ?_) | (refine Cx.ex ?_) | (refine Cx.yes rfl ?_) | (refine Cx.no rfl ?_) | (refine Sx.on rfl ?_) | (refine Sx.off rfl ?_) | (refine Sx.ldb rfl (by rfl) ?_) | (refine Sx.ldbs rfl rfl ?_) | (refine Sx.stb rfl rfl rfl rfl (by rfl) (by rfl) ?_) | (refine Sx.pv rfl trivial ?_) | (refine Sx.pk rfl rfl rfl ?_))
    refine Kr.one (.inr rfl) rfl (Ent.refl _) ⟨?_, rfl⟩
    rw [w64 (by omega) (by omega), h2, if_pos h]
  · repeat' (first | (refine Sx.pvs rfl ?_) | (refine Sx.nil ?_) | (refine Krg.i ?_) | (refine Ksq.nm ?_) | (refine Ksq.rt ?_) | (refine Ksq.ex ?_) | (refine Kbl.nm ?_) | (refine Kbl.rt ?_) | (refine Kbl.hit rfl ?_) | (refine Kbl.miss rfl ?_) | (refine Klp.rt ?_) | (refine Klp.ex ?_) | (refine Cx.sq ?_) | (refine Cx.rg ?_) | (refine Cx.bl ?_) | (refine Cx.sk ?_) | (refine Cx.rt ?_) | (refine Cx.ex ?_) | (refine Cx.yes rfl ?_) | (refine Cx.no rfl ?_) | (refine Sx.on rfl ?_) | (refine Sx.off rfl ?_) | (refine Sx.ldb rfl (by rfl) ?_) | (refine Sx.ldbs rfl rfl ?_) | (refine Sx.stb rfl rfl rfl rfl (by rfl) (by rfl) ?_) | (refine Sx.pv rfl trivial ?_) | (refine Sx.pk rfl rfl rfl ?_))
    refine Kr.one (.inr rfl) rfl (Ent.refl _) ⟨?_, rfl⟩
    rw [h2, if_neg h]

/-- The reference's stash. -/
abbrev RefO := StashT 148
theorem refNew (m : Int) : Fx Try.prog 62 [.int .i64 m] L (fun v L' => ∃ g, v = .pointer (some ⟨g, 0, none⟩) ∧ L' = pt (some ⟨g, 0, none⟩) (RefO (min (max m 0) 64) []) :: L) := by
  refine Fx.mk Try.func62 k62 (Nat.le_of_ble_eq_true rfl) ?_
  dsimp only [c62, envOf, Nat.reduceAdd]
  repeat' (first | (refine Sx.pvs rfl ?_) | (refine Sx.nil ?_) | (refine Krg.i ?_) | (refine Ksq.nm ?_) | (refine Ksq.rt ?_) | (refine Ksq.ex ?_) | (refine Kbl.nm ?_) | (refine Kbl.rt ?_) | (refine Kbl.hit rfl ?_) | (refine Kbl.miss rfl ?_) | (refine Klp.rt ?_) | (refine Klp.ex ?_) | (refine Cx.sq ?_) | (refine Cx.rg ?_) | (refine Cx.bl ?_) | (refine Cx.sk ?_) | (refine Cx.rt ?_) | (refine Cx.ex ?_) | (refine Cx.yes rfl ?_) | (refine Cx.no rfl ?_) | (refine Sx.on rfl ?_) | (refine Sx.off rfl ?_) | (refine Sx.ldb rfl (by rfl) ?_) | (refine Sx.ldbs rfl rfl ?_) | (refine Sx.stb rfl rfl rfl rfl (by rfl) (by rfl) ?_) | (refine Sx.pv rfl trivial ?_) | (refine Sx.pk rfl rfl rfl ?_))
  refine Sx.bx rfl rfl fun g => ?_
  repeat' (first | (refine Sx.pvs rfl ?_) | (refine Sx.nil ?_) | (refine Krg.i ?_) | (refine Ksq.nm ?_) | (refine Ksq.rt ?_) | (refine Ksq.ex ?_) | (refine Kbl.nm ?_) | (refine Kbl.rt ?_) | (refine Kbl.hit rfl ?_) | (refine Kbl.miss rfl ?_) | (refine Klp.rt ?_) | (refine Klp.ex ?_) | (refine Cx.sq ?_) | (refine Cx.rg ?_) | (refine Cx.bl ?_) | (refine Cx.sk ?_) | (refine Cx.rt ?_) | (refine Cx.ex ?_) | (refine Cx.yes rfl ?_) | (refine Cx.no rfl ?_) | (refine Sx.on rfl ?_) | (refine Sx.off rfl ?_) | (refine Sx.ldb rfl (by rfl) ?_) | (refine Sx.ldbs rfl rfl ?_) | (refine Sx.stb rfl rfl rfl rfl (by rfl) (by rfl) ?_) | (refine Sx.pv rfl trivial ?_) | (refine Sx.pk rfl rfl rfl ?_))
  refine Kr.one (.inr rfl) rfl (Ent.trans (Ent.rownil 3 1) (StashO.close (xs := []) rfl ?_ rfl)) ⟨g, rfl, rfl⟩
  simp only [cond_true, cond_false]
  congr 1
  omega
end
end Go.Proofs.Ytnbkjcmmjgkdaaa
