/-
  StashBack's walk: what is given comes back the last first.
-/
import Derived.Test.YtinomeobmpaakaaStC
import Derived.Test.YtinomeobmpaakaaSlJ
set_option linter.unusedVariables false
namespace Go.Proofs.Ytinomeobmpaakaa
open Go
attribute [local irreducible] Sx Cx Rx Fx Krg Ksq Kbl Klp Kr

section
variable {L F : St}
theorem iota_get {k i : Nat} (h : i < k) : (iota k)[i]? = some (i : Int) := by simp [iota, h]
theorem ints_get {xs : List Int} {i : Nat} {x : Int} (h : xs[i]? = some x) : (ints xs)[i]? = some (.int .i64 x) := by simp [ints, h]
theorem iota_cut {n g : Nat} (h : g ≤ n) : (iota (n + 1)).drop g = (iota n).drop g ++ [(n : Int)] := by
  rw [iota_succ, List.drop_append_of_le_length (by simp [length_iota]; omega)]
theorem stashBack (most n : Int) (over : Bool) : Fx Try.prog 4 [.int .i64 most, .int .i64 n, .bool over] L (fun v L' => v = .bool true ∧ Ent L' L) := by
  have hb1 := Int.emod_nonneg most (show (65 : Int) ≠ 0 by omega)
  have hb2 := Int.emod_lt_of_pos most (show (0 : Int) < 65 by omega)
  have hn1 := Int.emod_nonneg n (show (100 : Int) ≠ 0 by omega)
  have hn2 := Int.emod_lt_of_pos n (show (0 : Int) < 100 by omega)
  refine Fx.mk Try.func4 k4 (Nat.le_of_ble_eq_true rfl) ?_
  dsimp only [c4, envOf, Nat.reduceAdd]
  repeat' (first | (refine Sx.pvs rfl ?_) | (refine Sx.nil ?_) | (refine Krg.i ?_) | (refine Ksq.nm ?_) | (refine Ksq.rt ?_) | (refine Ksq.ex ?_) | (refine Kbl.nm ?_) | (refine Kbl.rt ?_) | (refine Kbl.hit rfl ?_) | (refine Kbl.miss rfl ?_) | (refine Klp.rt ?_) | (refine Klp.ex ?_) | (refine Cx.sq ?_) | (refine Cx.rg ?_) | (refine Cx.bl ?_) | (refine Cx.sk ?_) | (refine Cx.rt ?_) | (refine Cx.ex ?_) | (refine Cx.yes rfl ?_) | (refine Cx.no rfl ?_) | (refine Sx.on rfl ?_) | (refine Sx.off rfl ?_) | (refine Sx.ldb rfl (by rfl) ?_) | (refine Sx.stb rfl rfl rfl rfl (by rfl) (by rfl) ?_) | (refine Sx.pv rfl trivial ?_) | (refine Sx.pk rfl rfl rfl ?_))
  refine Sx.ca rfl stashFirst ?_
  rintro v L' ⟨rfl, rfl⟩
  repeat' (first | (refine Sx.pvs rfl ?_) | (refine Sx.nil ?_) | (refine Krg.i ?_) | (refine Ksq.nm ?_) | (refine Ksq.rt ?_) | (refine Ksq.ex ?_) | (refine Kbl.nm ?_) | (refine Kbl.rt ?_) | (refine Kbl.hit rfl ?_) | (refine Kbl.miss rfl ?_) | (refine Klp.rt ?_) | (refine Klp.ex ?_) | (refine Cx.sq ?_) | (refine Cx.rg ?_) | (refine Cx.bl ?_) | (refine Cx.sk ?_) | (refine Cx.rt ?_) | (refine Cx.ex ?_) | (refine Cx.yes rfl ?_) | (refine Cx.no rfl ?_) | (refine Sx.on rfl ?_) | (refine Sx.off rfl ?_) | (refine Sx.ldb rfl (by rfl) ?_) | (refine Sx.stb rfl rfl rfl rfl (by rfl) (by rfl) ?_) | (refine Sx.pv rfl trivial ?_) | (refine Sx.pk rfl rfl rfl ?_))
  refine Sx.ca rfl (number most 65 (by omega) (by omega)) ?_
  rintro v L' ⟨rfl, rfl⟩
  repeat' (first | (refine Sx.pvs rfl ?_) | (refine Sx.nil ?_) | (refine Krg.i ?_) | (refine Ksq.nm ?_) | (refine Ksq.rt ?_) | (refine Ksq.ex ?_) | (refine Kbl.nm ?_) | (refine Kbl.rt ?_) | (refine Kbl.hit rfl ?_) | (refine Kbl.miss rfl ?_) | (refine Klp.rt ?_) | (refine Klp.ex ?_) | (refine Cx.sq ?_) | (refine Cx.rg ?_) | (refine Cx.bl ?_) | (refine Cx.sk ?_) | (refine Cx.rt ?_) | (refine Cx.ex ?_) | (refine Cx.yes rfl ?_) | (refine Cx.no rfl ?_) | (refine Sx.on rfl ?_) | (refine Sx.off rfl ?_) | (refine Sx.ldb rfl (by rfl) ?_) | (refine Sx.stb rfl rfl rfl rfl (by rfl) (by rfl) ?_) | (refine Sx.pv rfl trivial ?_) | (refine Sx.pk rfl rfl rfl ?_))
  refine Sx.ca rfl (number n 100 (by omega) (by omega)) ?_
  rintro v L' ⟨rfl, rfl⟩
  repeat' (first | (refine Sx.pvs rfl ?_) | (refine Sx.nil ?_) | (refine Krg.i ?_) | (refine Ksq.nm ?_) | (refine Ksq.rt ?_) | (refine Ksq.ex ?_) | (refine Kbl.nm ?_) | (refine Kbl.rt ?_) | (refine Kbl.hit rfl ?_) | (refine Kbl.miss rfl ?_) | (refine Klp.rt ?_) | (refine Klp.ex ?_) | (refine Cx.sq ?_) | (refine Cx.rg ?_) | (refine Cx.bl ?_) | (refine Cx.sk ?_) | (refine Cx.rt ?_) | (refine Cx.ex ?_) | (refine Cx.yes rfl ?_) | (refine Cx.no rfl ?_) | (refine Sx.on rfl ?_) | (refine Sx.off rfl ?_) | (refine Sx.ldb rfl (by rfl) ?_) | (refine Sx.stb rfl rfl rfl rfl (by rfl) (by rfl) ?_) | (refine Sx.pv rfl trivial ?_) | (refine Sx.pk rfl rfl rfl ?_))
  generalize hm : most % 65 = m at *
  obtain ⟨k, hk⟩ : ∃ k : Nat, n % 100 = (k : Int) := ⟨(n % 100).toNat, by omega⟩
  rw [hk]
  rw [hk] at hn2
  refine Sx.ca rfl (stashNew m) ?_
  rintro v L' ⟨s, rfl, rfl⟩
  rw [show min (max m 0) 64 = m by omega]
  repeat' (first | (refine Sx.pvs rfl ?_) | (refine Sx.nil ?_) | (refine Krg.i ?_) | (refine Ksq.nm ?_) | (refine Ksq.rt ?_) | (refine Ksq.ex ?_) | (refine Kbl.nm ?_) | (refine Kbl.rt ?_) | (refine Kbl.hit rfl ?_) | (refine Kbl.miss rfl ?_) | (refine Klp.rt ?_) | (refine Klp.ex ?_) | (refine Cx.sq ?_) | (refine Cx.rg ?_) | (refine Cx.bl ?_) | (refine Cx.sk ?_) | (refine Cx.rt ?_) | (refine Cx.ex ?_) | (refine Cx.yes rfl ?_) | (refine Cx.no rfl ?_) | (refine Sx.on rfl ?_) | (refine Sx.off rfl ?_) | (refine Sx.ldb rfl (by rfl) ?_) | (refine Sx.stb rfl rfl rfl rfl (by rfl) (by rfl) ?_) | (refine Sx.pv rfl trivial ?_) | (refine Sx.pk rfl rfl rfl ?_))
  refine Cx.lp (α := {i : Nat // i ≤ k}) (fun i => [(2, .bool over), (7, .bool true), (8, .int .i64 m), (9, .int .i64 k), (10, .pointer (some ⟨s, 0, none⟩)), (11, .int .i64 i.1)])
    (fun i => pt (some ⟨s, 0, none⟩) (StashO m (iota i.1)) :: L) (fun i => k - i.1) ⟨0, by omega⟩ (sub.cons rfl (sub.cons rfl (sub.cons rfl (sub.cons rfl (sub.cons rfl (sub.cons rfl sub.nil)))))) (by repeat (first | exact Ent.refl _ | (refine Ent.take1 ?_) | (refine Ent.trans Ent.drop ?_))) ?_
  rintro ⟨i, hi⟩
  dsimp only
  repeat' (first | (refine Sx.pvs rfl ?_) | (refine Sx.nil ?_) | (refine Krg.i ?_) | (refine Ksq.nm ?_) | (refine Ksq.rt ?_) | (refine Ksq.ex ?_) | (refine Kbl.nm ?_) | (refine Kbl.rt ?_) | (refine Kbl.hit rfl ?_) | (refine Kbl.miss rfl ?_) | (refine Klp.rt ?_) | (refine Klp.ex ?_) | (refine Cx.sq ?_) | (refine Cx.rg ?_) | (refine Cx.bl ?_) | (refine Cx.sk ?_) | (refine Cx.rt ?_) | (refine Cx.ex ?_) | (refine Cx.yes rfl ?_) | (refine Cx.no rfl ?_) | (refine Sx.on rfl ?_) | (refine Sx.off rfl ?_) | (refine Sx.ldb rfl (by rfl) ?_) | (refine Sx.stb rfl rfl rfl rfl (by rfl) (by rfl) ?_) | (refine Sx.pv rfl trivial ?_) | (refine Sx.pk rfl rfl rfl ?_))
  refine Cx.ifp rfl (fun h => ?_) (fun h => ?_)
  · repeat' (first | (refine Sx.pvs rfl ?_) | (refine Sx.nil ?_) | (refine Krg.i ?_) | (refine Ksq.nm ?_) | (refine Ksq.rt ?_) | (refine Ksq.ex ?_) | (refine Kbl.nm ?_) | (refine Kbl.rt ?_) | (refine Kbl.hit rfl ?_) | (refine Kbl.miss rfl ?_) | (refine Klp.rt ?_) | (refine Klp.ex ?_) | (refine Cx.sq ?_) | (refine Cx.rg ?_) | (refine Cx.bl ?_) | (refine Cx.sk ?_) | (refine Cx.rt ?_) | (refine Cx.ex ?_) | (refine Cx.yes rfl ?_) | (refine Cx.no rfl ?_) | (refine Sx.on rfl ?_) | (refine Sx.off rfl ?_) | (refine Sx.ldb rfl (by rfl) ?_) | (refine Sx.stb rfl rfl rfl rfl (by rfl) (by rfl) ?_) | (refine Sx.pv rfl trivial ?_) | (refine Sx.pk rfl rfl rfl ?_))
    refine Sx.bs (sz := 1) rfl rfl fun g => ?_
    repeat' (first | (refine Sx.pvs rfl ?_) | (refine Sx.nil ?_) | (refine Krg.i ?_) | (refine Ksq.nm ?_) | (refine Ksq.rt ?_) | (refine Ksq.ex ?_) | (refine Kbl.nm ?_) | (refine Kbl.rt ?_) | (refine Kbl.hit rfl ?_) | (refine Kbl.miss rfl ?_) | (refine Klp.rt ?_) | (refine Klp.ex ?_) | (refine Cx.sq ?_) | (refine Cx.rg ?_) | (refine Cx.bl ?_) | (refine Cx.sk ?_) | (refine Cx.rt ?_) | (refine Cx.ex ?_) | (refine Cx.yes rfl ?_) | (refine Cx.no rfl ?_) | (refine Sx.on rfl ?_) | (refine Sx.off rfl ?_) | (refine Sx.ldb rfl (by rfl) ?_) | (refine Sx.stb rfl rfl rfl rfl (by rfl) (by rfl) ?_) | (refine Sx.pv rfl trivial ?_) | (refine Sx.pk rfl rfl rfl ?_))
    refine Sx.ca rfl (stashGive (b := s) (ys := [(i : Int)]) (Rd.row (b := g) (E := 3) (cap := 1) rfl) (by simp [length_iota]; omega)) ?_
    rintro v L' ⟨rfl, rfl⟩
    repeat' (first | (refine Sx.pvs rfl ?_) | (refine Sx.nil ?_) | (refine Krg.i ?_) | (refine Ksq.nm ?_) | (refine Ksq.rt ?_) | (refine Ksq.ex ?_) | (refine Kbl.nm ?_) | (refine Kbl.rt ?_) | (refine Kbl.hit rfl ?_) | (refine Kbl.miss rfl ?_) | (refine Klp.rt ?_) | (refine Klp.ex ?_) | (refine Cx.sq ?_) | (refine Cx.rg ?_) | (refine Cx.bl ?_) | (refine Cx.sk ?_) | (refine Cx.rt ?_) | (refine Cx.ex ?_) | (refine Cx.yes rfl ?_) | (refine Cx.no rfl ?_) | (refine Sx.on rfl ?_) | (refine Sx.off rfl ?_) | (refine Sx.ldb rfl (by rfl) ?_) | (refine Sx.stb rfl rfl rfl rfl (by rfl) (by rfl) ?_) | (refine Sx.pv rfl trivial ?_) | (refine Sx.pk rfl rfl rfl ?_))
    rw [w64 (by omega) (by omega)]
    refine Klp.nm ⟨i + 1, by omega⟩ (sub.cons rfl (sub.cons rfl (sub.cons rfl (sub.cons rfl (sub.cons rfl (sub.cons rfl sub.nil)))))) ?_ (by simp; omega)
    dsimp only
    rw [iota_succ]
    repeat (first | exact Ent.refl _ | (refine Ent.take1 ?_) | (refine Ent.trans Ent.drop ?_))
  · repeat' (first | (refine Sx.pvs rfl ?_) | (refine Sx.nil ?_) | (refine Krg.i ?_) | (refine Ksq.nm ?_) | (refine Ksq.rt ?_) | (refine Ksq.ex ?_) | (refine Kbl.nm ?_) | (refine Kbl.rt ?_) | (refine Kbl.hit rfl ?_) | (refine Kbl.miss rfl ?_) | (refine Klp.rt ?_) | (refine Klp.ex ?_) | (refine Cx.sq ?_) | (refine Cx.rg ?_) | (refine Cx.bl ?_) | (refine Cx.sk ?_) | (refine Cx.rt ?_) | (refine Cx.ex ?_) | (refine Cx.yes rfl ?_) | (refine Cx.no rfl ?_) | (refine Sx.on rfl ?_) | (refine Sx.off rfl ?_) | (refine Sx.ldb rfl (by rfl) ?_) | (refine Sx.stb rfl rfl rfl rfl (by rfl) (by rfl) ?_) | (refine Sx.pv rfl trivial ?_) | (refine Sx.pk rfl rfl rfl ?_))
    have hik : i = k := by omega
    subst hik
    refine Cx.jn (β := {g : Nat // g ≤ i ∧ (over = true → ((i : Int) - g) ≤ m)}) (fun g => [(7, .bool true), (8, .int .i64 m), (9, .int .i64 i), (10, .pointer (some ⟨s, 0, none⟩)), (12, .int .i64 g.1)])
      (fun g => pt (some ⟨s, 0, none⟩) (StashO m ((iota i).drop g.1)) :: L) ?_ ?_
    · refine Cx.cd rfl (fun ho => ?_) (fun ho => ?_)
      · repeat' (first | (refine Sx.pvs rfl ?_) | (refine Sx.nil ?_) | (refine Krg.i ?_) | (refine Ksq.nm ?_) | (refine Ksq.rt ?_) | (refine Ksq.ex ?_) | (refine Kbl.nm ?_) | (refine Kbl.rt ?_) | (refine Kbl.hit rfl ?_) | (refine Kbl.miss rfl ?_) | (refine Klp.rt ?_) | (refine Klp.ex ?_) | (refine Cx.sq ?_) | (refine Cx.rg ?_) | (refine Cx.bl ?_) | (refine Cx.sk ?_) | (refine Cx.rt ?_) | (refine Cx.ex ?_) | (refine Cx.yes rfl ?_) | (refine Cx.no rfl ?_) | (refine Sx.on rfl ?_) | (refine Sx.off rfl ?_) | (refine Sx.ldb rfl (by rfl) ?_) | (refine Sx.stb rfl rfl rfl rfl (by rfl) (by rfl) ?_) | (refine Sx.pv rfl trivial ?_) | (refine Sx.pk rfl rfl rfl ?_))
        have hg1 : overK m (iota i) ≤ i := by unfold overK; simp [length_iota]; omega
        have hg2 : (i : Int) - overK m (iota i) ≤ m := by unfold overK; simp [length_iota]; omega
        have hw : IntKind.i64.wrap ((i : Int) - m) = (i : Int) - m := w64 (by omega) (by omega)
        have hv : (if (i : Int) - m < 0 then 0 else (i : Int) - m) = (overK m (iota i) : Int) := by unfold overK; simp [length_iota]; omega
        refine Sx.ca rfl (stashOver (b := s) (most := m) (xs := iota i) (by simp [length_iota]; omega) (by omega) (by omega)) ?_
        rintro v L' ⟨r, c, rfl, rfl⟩
        generalize hg : overK m (iota i) = g at *
        repeat' (first | (refine Sx.pvs rfl ?_) | (refine Sx.nil ?_) | (refine Krg.i ?_) | (refine Ksq.nm ?_) | (refine Ksq.rt ?_) | (refine Ksq.ex ?_) | (refine Kbl.nm ?_) | (refine Kbl.rt ?_) | (refine Kbl.hit rfl ?_) | (refine Kbl.miss rfl ?_) | (refine Klp.rt ?_) | (refine Klp.ex ?_) | (refine Cx.sq ?_) | (refine Cx.rg ?_) | (refine Cx.bl ?_) | (refine Cx.sk ?_) | (refine Cx.rt ?_) | (refine Cx.ex ?_) | (refine Cx.yes rfl ?_) | (refine Cx.no rfl ?_) | (refine Sx.on rfl ?_) | (refine Sx.off rfl ?_) | (refine Sx.ldb rfl (by rfl) ?_) | (refine Sx.stb rfl rfl rfl rfl (by rfl) (by rfl) ?_) | (refine Sx.pv rfl trivial ?_) | (refine Sx.pk rfl rfl rfl ?_))
        rw [hw]
        simp only [cond_true, hv]
        refine Cx.ifn rfl (fun h => absurd (by trivial) h) (fun _ => ?_)
        repeat' (first | (refine Sx.pvs rfl ?_) | (refine Sx.nil ?_) | (refine Krg.i ?_) | (refine Ksq.nm ?_) | (refine Ksq.rt ?_) | (refine Ksq.ex ?_) | (refine Kbl.nm ?_) | (refine Kbl.rt ?_) | (refine Kbl.hit rfl ?_) | (refine Kbl.miss rfl ?_) | (refine Klp.rt ?_) | (refine Klp.ex ?_) | (refine Cx.sq ?_) | (refine Cx.rg ?_) | (refine Cx.bl ?_) | (refine Cx.sk ?_) | (refine Cx.rt ?_) | (refine Cx.ex ?_) | (refine Cx.yes rfl ?_) | (refine Cx.no rfl ?_) | (refine Sx.on rfl ?_) | (refine Sx.off rfl ?_) | (refine Sx.ldb rfl (by rfl) ?_) | (refine Sx.stb rfl rfl rfl rfl (by rfl) (by rfl) ?_) | (refine Sx.pv rfl trivial ?_) | (refine Sx.pk rfl rfl rfl ?_))
        refine Cx.lp (α := {j : Nat // j ≤ g}) (fun j => [(7, .bool true), (8, .int .i64 m), (9, .int .i64 i), (10, .pointer (some ⟨s, 0, none⟩)), (12, .int .i64 g), (13, .slice r g c), (14, .int .i64 j.1)])
          (fun _ => pt r (Row 3 1 g c (ints ((iota i).take g))) :: pt (some ⟨s, 0, none⟩) (StashO m ((iota i).drop g)) :: L) (fun j => g - j.1) ⟨0, by omega⟩ (sub.cons rfl (sub.cons rfl (sub.cons rfl (sub.cons rfl (sub.cons rfl (sub.cons rfl (sub.cons rfl sub.nil))))))) (by repeat (first | exact Ent.refl _ | (refine Ent.take1 ?_) | (refine Ent.trans Ent.drop ?_))) ?_
        rintro ⟨j, hj⟩
        dsimp only
        repeat' (first | (refine Sx.pvs rfl ?_) | (refine Sx.nil ?_) | (refine Krg.i ?_) | (refine Ksq.nm ?_) | (refine Ksq.rt ?_) | (refine Ksq.ex ?_) | (refine Kbl.nm ?_) | (refine Kbl.rt ?_) | (refine Kbl.hit rfl ?_) | (refine Kbl.miss rfl ?_) | (refine Klp.rt ?_) | (refine Klp.ex ?_) | (refine Cx.sq ?_) | (refine Cx.rg ?_) | (refine Cx.bl ?_) | (refine Cx.sk ?_) | (refine Cx.rt ?_) | (refine Cx.ex ?_) | (refine Cx.yes rfl ?_) | (refine Cx.no rfl ?_) | (refine Sx.on rfl ?_) | (refine Sx.off rfl ?_) | (refine Sx.ldb rfl (by rfl) ?_) | (refine Sx.stb rfl rfl rfl rfl (by rfl) (by rfl) ?_) | (refine Sx.pv rfl trivial ?_) | (refine Sx.pk rfl rfl rfl ?_))
        refine Cx.ifp rfl (fun h => ?_) (fun h => ?_)
        · repeat' (first | (refine Sx.pvs rfl ?_) | (refine Sx.nil ?_) | (refine Krg.i ?_) | (refine Ksq.nm ?_) | (refine Ksq.rt ?_) | (refine Ksq.ex ?_) | (refine Kbl.nm ?_) | (refine Kbl.rt ?_) | (refine Kbl.hit rfl ?_) | (refine Kbl.miss rfl ?_) | (refine Klp.rt ?_) | (refine Klp.ex ?_) | (refine Cx.sq ?_) | (refine Cx.rg ?_) | (refine Cx.bl ?_) | (refine Cx.sk ?_) | (refine Cx.rt ?_) | (refine Cx.ex ?_) | (refine Cx.yes rfl ?_) | (refine Cx.no rfl ?_) | (refine Sx.on rfl ?_) | (refine Sx.off rfl ?_) | (refine Sx.ldb rfl (by rfl) ?_) | (refine Sx.stb rfl rfl rfl rfl (by rfl) (by rfl) ?_) | (refine Sx.pv rfl trivial ?_) | (refine Sx.pk rfl rfl rfl ?_))
          refine Sx.rowsome (a := r) (by omega) fun b hr => ?_
          subst hr
          refine Sx.pv rfl ⟨by omega, by omega⟩ ?_
          refine Sx.ldr rfl (v := .int .i64 j) (by simpa using ints_get (by rw [List.getElem?_take_of_lt (by omega)]; exact iota_get (by omega))) ?_
          repeat' (first | (refine Sx.pvs rfl ?_) | (refine Sx.nil ?_) | (refine Krg.i ?_) | (refine Ksq.nm ?_) | (refine Ksq.rt ?_) | (refine Ksq.ex ?_) | (refine Kbl.nm ?_) | (refine Kbl.rt ?_) | (refine Kbl.hit rfl ?_) | (refine Kbl.miss rfl ?_) | (refine Klp.rt ?_) | (refine Klp.ex ?_) | (refine Cx.sq ?_) | (refine Cx.rg ?_) | (refine Cx.bl ?_) | (refine Cx.sk ?_) | (refine Cx.rt ?_) | (refine Cx.ex ?_) | (refine Cx.yes rfl ?_) | (refine Cx.no rfl ?_) | (refine Sx.on rfl ?_) | (refine Sx.off rfl ?_) | (refine Sx.ldb rfl (by rfl) ?_) | (refine Sx.stb rfl rfl rfl rfl (by rfl) (by rfl) ?_) | (refine Sx.pv rfl trivial ?_) | (refine Sx.pk rfl rfl rfl ?_))
          refine Cx.ifn rfl (fun h => absurd (by trivial) h) (fun _ => ?_)
          repeat' (first | (refine Sx.pvs rfl ?_) | (refine Sx.nil ?_) | (refine Krg.i ?_) | (refine Ksq.nm ?_) | (refine Ksq.rt ?_) | (refine Ksq.ex ?_) | (refine Kbl.nm ?_) | (refine Kbl.rt ?_) | (refine Kbl.hit rfl ?_) | (refine Kbl.miss rfl ?_) | (refine Klp.rt ?_) | (refine Klp.ex ?_) | (refine Cx.sq ?_) | (refine Cx.rg ?_) | (refine Cx.bl ?_) | (refine Cx.sk ?_) | (refine Cx.rt ?_) | (refine Cx.ex ?_) | (refine Cx.yes rfl ?_) | (refine Cx.no rfl ?_) | (refine Sx.on rfl ?_) | (refine Sx.off rfl ?_) | (refine Sx.ldb rfl (by rfl) ?_) | (refine Sx.stb rfl rfl rfl rfl (by rfl) (by rfl) ?_) | (refine Sx.pv rfl trivial ?_) | (refine Sx.pk rfl rfl rfl ?_))
          rw [w64 (by omega) (by omega)]
          exact Klp.nm ⟨j + 1, by omega⟩ (sub.cons rfl (sub.cons rfl (sub.cons rfl (sub.cons rfl (sub.cons rfl (sub.cons rfl (sub.cons rfl sub.nil))))))) (Ent.refl _) (by simp; omega)
        · repeat' (first | (refine Sx.pvs rfl ?_) | (refine Sx.nil ?_) | (refine Krg.i ?_) | (refine Ksq.nm ?_) | (refine Ksq.rt ?_) | (refine Ksq.ex ?_) | (refine Kbl.nm ?_) | (refine Kbl.rt ?_) | (refine Kbl.hit rfl ?_) | (refine Kbl.miss rfl ?_) | (refine Klp.rt ?_) | (refine Klp.ex ?_) | (refine Cx.sq ?_) | (refine Cx.rg ?_) | (refine Cx.bl ?_) | (refine Cx.sk ?_) | (refine Cx.rt ?_) | (refine Cx.ex ?_) | (refine Cx.yes rfl ?_) | (refine Cx.no rfl ?_) | (refine Sx.on rfl ?_) | (refine Sx.off rfl ?_) | (refine Sx.ldb rfl (by rfl) ?_) | (refine Sx.stb rfl rfl rfl rfl (by rfl) (by rfl) ?_) | (refine Sx.pv rfl trivial ?_) | (refine Sx.pk rfl rfl rfl ?_))
          refine Kjn.nm ⟨g, hg1, fun _ => hg2⟩ (sub.cons rfl (sub.cons rfl (sub.cons rfl (sub.cons rfl (sub.cons rfl sub.nil))))) ?_
          repeat (first | exact Ent.refl _ | (refine Ent.take1 ?_) | (refine Ent.trans Ent.drop ?_))
      · repeat' (first | (refine Sx.pvs rfl ?_) | (refine Sx.nil ?_) | (refine Krg.i ?_) | (refine Ksq.nm ?_) | (refine Ksq.rt ?_) | (refine Ksq.ex ?_) | (refine Kbl.nm ?_) | (refine Kbl.rt ?_) | (refine Kbl.hit rfl ?_) | (refine Kbl.miss rfl ?_) | (refine Klp.rt ?_) | (refine Klp.ex ?_) | (refine Cx.sq ?_) | (refine Cx.rg ?_) | (refine Cx.bl ?_) | (refine Cx.sk ?_) | (refine Cx.rt ?_) | (refine Cx.ex ?_) | (refine Cx.yes rfl ?_) | (refine Cx.no rfl ?_) | (refine Sx.on rfl ?_) | (refine Sx.off rfl ?_) | (refine Sx.ldb rfl (by rfl) ?_) | (refine Sx.stb rfl rfl rfl rfl (by rfl) (by rfl) ?_) | (refine Sx.pv rfl trivial ?_) | (refine Sx.pk rfl rfl rfl ?_))
        exact Kjn.nm ⟨0, by omega, by simp [ho]⟩ (sub.cons rfl (sub.cons rfl (sub.cons rfl (sub.cons rfl (sub.cons rfl sub.nil))))) (Ent.refl _)
    · rintro ⟨g, hg, hov⟩
      dsimp only
      repeat' (first | (refine Sx.pvs rfl ?_) | (refine Sx.nil ?_) | (refine Krg.i ?_) | (refine Ksq.nm ?_) | (refine Ksq.rt ?_) | (refine Ksq.ex ?_) | (refine Kbl.nm ?_) | (refine Kbl.rt ?_) | (refine Kbl.hit rfl ?_) | (refine Kbl.miss rfl ?_) | (refine Klp.rt ?_) | (refine Klp.ex ?_) | (refine Cx.sq ?_) | (refine Cx.rg ?_) | (refine Cx.bl ?_) | (refine Cx.sk ?_) | (refine Cx.rt ?_) | (refine Cx.ex ?_) | (refine Cx.yes rfl ?_) | (refine Cx.no rfl ?_) | (refine Sx.on rfl ?_) | (refine Sx.off rfl ?_) | (refine Sx.ldb rfl (by rfl) ?_) | (refine Sx.stb rfl rfl rfl rfl (by rfl) (by rfl) ?_) | (refine Sx.pv rfl trivial ?_) | (refine Sx.pk rfl rfl rfl ?_))
      refine Sx.ca rfl (stashLen (b := s) (most := m) (xs := (iota i).drop g)) ?_
      rintro v L' ⟨rfl, rfl⟩
      repeat' (first | (refine Sx.pvs rfl ?_) | (refine Sx.nil ?_) | (refine Krg.i ?_) | (refine Ksq.nm ?_) | (refine Ksq.rt ?_) | (refine Ksq.ex ?_) | (refine Kbl.nm ?_) | (refine Kbl.rt ?_) | (refine Kbl.hit rfl ?_) | (refine Kbl.miss rfl ?_) | (refine Klp.rt ?_) | (refine Klp.ex ?_) | (refine Cx.sq ?_) | (refine Cx.rg ?_) | (refine Cx.bl ?_) | (refine Cx.sk ?_) | (refine Cx.rt ?_) | (refine Cx.ex ?_) | (refine Cx.yes rfl ?_) | (refine Cx.no rfl ?_) | (refine Sx.on rfl ?_) | (refine Sx.off rfl ?_) | (refine Sx.ldb rfl (by rfl) ?_) | (refine Sx.stb rfl rfl rfl rfl (by rfl) (by rfl) ?_) | (refine Sx.pv rfl trivial ?_) | (refine Sx.pk rfl rfl rfl ?_))
      rw [w64 (by omega) (by omega)]
      refine Cx.ifn rfl (fun h => absurd (by simp [length_iota]; omega) h) (fun _ => ?_)
      repeat' (first | (refine Sx.pvs rfl ?_) | (refine Sx.nil ?_) | (refine Krg.i ?_) | (refine Ksq.nm ?_) | (refine Ksq.rt ?_) | (refine Ksq.ex ?_) | (refine Kbl.nm ?_) | (refine Kbl.rt ?_) | (refine Kbl.hit rfl ?_) | (refine Kbl.miss rfl ?_) | (refine Klp.rt ?_) | (refine Klp.ex ?_) | (refine Cx.sq ?_) | (refine Cx.rg ?_) | (refine Cx.bl ?_) | (refine Cx.sk ?_) | (refine Cx.rt ?_) | (refine Cx.ex ?_) | (refine Cx.yes rfl ?_) | (refine Cx.no rfl ?_) | (refine Sx.on rfl ?_) | (refine Sx.off rfl ?_) | (refine Sx.ldb rfl (by rfl) ?_) | (refine Sx.stb rfl rfl rfl rfl (by rfl) (by rfl) ?_) | (refine Sx.pv rfl trivial ?_) | (refine Sx.pk rfl rfl rfl ?_))
      rw [w64 (by omega) (by omega)]
      refine Cx.lp (α := {j : Nat // g ≤ j ∧ j ≤ i}) (fun j => [(7, .bool true), (8, .int .i64 m), (10, .pointer (some ⟨s, 0, none⟩)), (12, .int .i64 g), (15, .int .i64 ((j.1 : Int) - 1))])
        (fun j => pt (some ⟨s, 0, none⟩) (StashO m ((iota j.1).drop g)) :: L) (fun j => j.1) ⟨i, hg, Nat.le_refl _⟩ (sub.cons rfl (sub.cons rfl (sub.cons rfl (sub.cons rfl (sub.cons rfl sub.nil))))) (by repeat (first | exact Ent.refl _ | (refine Ent.take1 ?_) | (refine Ent.trans Ent.drop ?_))) ?_
      rintro ⟨j, hj1, hj2⟩
      dsimp only
      repeat' (first | (refine Sx.pvs rfl ?_) | (refine Sx.nil ?_) | (refine Krg.i ?_) | (refine Ksq.nm ?_) | (refine Ksq.rt ?_) | (refine Ksq.ex ?_) | (refine Kbl.nm ?_) | (refine Kbl.rt ?_) | (refine Kbl.hit rfl ?_) | (refine Kbl.miss rfl ?_) | (refine Klp.rt ?_) | (refine Klp.ex ?_) | (refine Cx.sq ?_) | (refine Cx.rg ?_) | (refine Cx.bl ?_) | (refine Cx.sk ?_) | (refine Cx.rt ?_) | (refine Cx.ex ?_) | (refine Cx.yes rfl ?_) | (refine Cx.no rfl ?_) | (refine Sx.on rfl ?_) | (refine Sx.off rfl ?_) | (refine Sx.ldb rfl (by rfl) ?_) | (refine Sx.stb rfl rfl rfl rfl (by rfl) (by rfl) ?_) | (refine Sx.pv rfl trivial ?_) | (refine Sx.pk rfl rfl rfl ?_))
      refine Cx.ifp rfl (fun h => ?_) (fun h => ?_)
      · repeat' (first | (refine Sx.pvs rfl ?_) | (refine Sx.nil ?_) | (refine Krg.i ?_) | (refine Ksq.nm ?_) | (refine Ksq.rt ?_) | (refine Ksq.ex ?_) | (refine Kbl.nm ?_) | (refine Kbl.rt ?_) | (refine Kbl.hit rfl ?_) | (refine Kbl.miss rfl ?_) | (refine Klp.rt ?_) | (refine Klp.ex ?_) | (refine Cx.sq ?_) | (refine Cx.rg ?_) | (refine Cx.bl ?_) | (refine Cx.sk ?_) | (refine Cx.rt ?_) | (refine Cx.ex ?_) | (refine Cx.yes rfl ?_) | (refine Cx.no rfl ?_) | (refine Sx.on rfl ?_) | (refine Sx.off rfl ?_) | (refine Sx.ldb rfl (by rfl) ?_) | (refine Sx.stb rfl rfl rfl rfl (by rfl) (by rfl) ?_) | (refine Sx.pv rfl trivial ?_) | (refine Sx.pk rfl rfl rfl ?_))
        obtain ⟨p, rfl⟩ : ∃ p, j = p + 1 := ⟨j - 1, by omega⟩
        rw [iota_cut (by omega)]
        refine Sx.ca rfl (stashTakeSome (b := s) (most := m) (xs := (iota p).drop g) (x := p) (by simp [length_iota]; omega)) ?_
        rintro v L' ⟨rfl, rfl⟩
        repeat' (first | (refine Sx.pvs rfl ?_) | (refine Sx.nil ?_) | (refine Krg.i ?_) | (refine Ksq.nm ?_) | (refine Ksq.rt ?_) | (refine Ksq.ex ?_) | (refine Kbl.nm ?_) | (refine Kbl.rt ?_) | (refine Kbl.hit rfl ?_) | (refine Kbl.miss rfl ?_) | (refine Klp.rt ?_) | (refine Klp.ex ?_) | (refine Cx.sq ?_) | (refine Cx.rg ?_) | (refine Cx.bl ?_) | (refine Cx.sk ?_) | (refine Cx.rt ?_) | (refine Cx.ex ?_) | (refine Cx.yes rfl ?_) | (refine Cx.no rfl ?_) | (refine Sx.on rfl ?_) | (refine Sx.off rfl ?_) | (refine Sx.ldb rfl (by rfl) ?_) | (refine Sx.stb rfl rfl rfl rfl (by rfl) (by rfl) ?_) | (refine Sx.pv rfl trivial ?_) | (refine Sx.pk rfl rfl rfl ?_))
        refine Cx.ifn rfl (fun h => absurd (by omega) h) (fun _ => ?_)
        repeat' (first | (refine Sx.pvs rfl ?_) | (refine Sx.nil ?_) | (refine Krg.i ?_) | (refine Ksq.nm ?_) | (refine Ksq.rt ?_) | (refine Ksq.ex ?_) | (refine Kbl.nm ?_) | (refine Kbl.rt ?_) | (refine Kbl.hit rfl ?_) | (refine Kbl.miss rfl ?_) | (refine Klp.rt ?_) | (refine Klp.ex ?_) | (refine Cx.sq ?_) | (refine Cx.rg ?_) | (refine Cx.bl ?_) | (refine Cx.sk ?_) | (refine Cx.rt ?_) | (refine Cx.ex ?_) | (refine Cx.yes rfl ?_) | (refine Cx.no rfl ?_) | (refine Sx.on rfl ?_) | (refine Sx.off rfl ?_) | (refine Sx.ldb rfl (by rfl) ?_) | (refine Sx.stb rfl rfl rfl rfl (by rfl) (by rfl) ?_) | (refine Sx.pv rfl trivial ?_) | (refine Sx.pk rfl rfl rfl ?_))
        rw [w64 (by omega) (by omega)]
        refine Klp.nm ⟨p, by omega, by omega⟩ (sub.cons rfl (sub.cons rfl (sub.cons rfl (sub.cons rfl (sub.cons (by simp [En.get, En.put]) sub.nil))))) (Ent.refl _) (by simp)
      · repeat' (first | (refine Sx.pvs rfl ?_) | (refine Sx.nil ?_) | (refine Krg.i ?_) | (refine Ksq.nm ?_) | (refine Ksq.rt ?_) | (refine Ksq.ex ?_) | (refine Kbl.nm ?_) | (refine Kbl.rt ?_) | (refine Kbl.hit rfl ?_) | (refine Kbl.miss rfl ?_) | (refine Klp.rt ?_) | (refine Klp.ex ?_) | (refine Cx.sq ?_) | (refine Cx.rg ?_) | (refine Cx.bl ?_) | (refine Cx.sk ?_) | (refine Cx.rt ?_) | (refine Cx.ex ?_) | (refine Cx.yes rfl ?_) | (refine Cx.no rfl ?_) | (refine Sx.on rfl ?_) | (refine Sx.off rfl ?_) | (refine Sx.ldb rfl (by rfl) ?_) | (refine Sx.stb rfl rfl rfl rfl (by rfl) (by rfl) ?_) | (refine Sx.pv rfl trivial ?_) | (refine Sx.pk rfl rfl rfl ?_))
        have hjg : j = g := by omega
        subst hjg
        rw [List.drop_eq_nil_of_le (by simp [length_iota])]
        refine Sx.ca rfl (stashTakeNone (b := s) (most := m)) ?_
        rintro v L' ⟨rfl, rfl⟩
        repeat' (first | (refine Sx.pvs rfl ?_) | (refine Sx.nil ?_) | (refine Krg.i ?_) | (refine Ksq.nm ?_) | (refine Ksq.rt ?_) | (refine Ksq.ex ?_) | (refine Kbl.nm ?_) | (refine Kbl.rt ?_) | (refine Kbl.hit rfl ?_) | (refine Kbl.miss rfl ?_) | (refine Klp.rt ?_) | (refine Klp.ex ?_) | (refine Cx.sq ?_) | (refine Cx.rg ?_) | (refine Cx.bl ?_) | (refine Cx.sk ?_) | (refine Cx.rt ?_) | (refine Cx.ex ?_) | (refine Cx.yes rfl ?_) | (refine Cx.no rfl ?_) | (refine Sx.on rfl ?_) | (refine Sx.off rfl ?_) | (refine Sx.ldb rfl (by rfl) ?_) | (refine Sx.stb rfl rfl rfl rfl (by rfl) (by rfl) ?_) | (refine Sx.pv rfl trivial ?_) | (refine Sx.pk rfl rfl rfl ?_))
        refine Sx.ca rfl (stashAll (b := s) (most := m) (xs := []) (by simp)) ?_
        rintro v L' ⟨r, c, rfl, rfl⟩
        repeat' (first | (refine Sx.pvs rfl ?_) | (refine Sx.nil ?_) | (refine Krg.i ?_) | (refine Ksq.nm ?_) | (refine Ksq.rt ?_) | (refine Ksq.ex ?_) | (refine Kbl.nm ?_) | (refine Kbl.rt ?_) | (refine Kbl.hit rfl ?_) | (refine Kbl.miss rfl ?_) | (refine Klp.rt ?_) | (refine Klp.ex ?_) | (refine Cx.sq ?_) | (refine Cx.rg ?_) | (refine Cx.bl ?_) | (refine Cx.sk ?_) | (refine Cx.rt ?_) | (refine Cx.ex ?_) | (refine Cx.yes rfl ?_) | (refine Cx.no rfl ?_) | (refine Sx.on rfl ?_) | (refine Sx.off rfl ?_) | (refine Sx.ldb rfl (by rfl) ?_) | (refine Sx.stb rfl rfl rfl rfl (by rfl) (by rfl) ?_) | (refine Sx.pv rfl trivial ?_) | (refine Sx.pk rfl rfl rfl ?_))
        refine Sx.ca rfl (stashOver (b := s) (most := m) (xs := []) (by simp) (by omega) (by omega)) ?_
        rintro v L' ⟨r2, c2, rfl, rfl⟩
        repeat' (first | (refine Sx.pvs rfl ?_) | (refine Sx.nil ?_) | (refine Krg.i ?_) | (refine Ksq.nm ?_) | (refine Ksq.rt ?_) | (refine Ksq.ex ?_) | (refine Kbl.nm ?_) | (refine Kbl.rt ?_) | (refine Kbl.hit rfl ?_) | (refine Kbl.miss rfl ?_) | (refine Klp.rt ?_) | (refine Klp.ex ?_) | (refine Cx.sq ?_) | (refine Cx.rg ?_) | (refine Cx.bl ?_) | (refine Cx.sk ?_) | (refine Cx.rt ?_) | (refine Cx.ex ?_) | (refine Cx.yes rfl ?_) | (refine Cx.no rfl ?_) | (refine Sx.on rfl ?_) | (refine Sx.off rfl ?_) | (refine Sx.ldb rfl (by rfl) ?_) | (refine Sx.stb rfl rfl rfl rfl (by rfl) (by rfl) ?_) | (refine Sx.pv rfl trivial ?_) | (refine Sx.pk rfl rfl rfl ?_))
        refine Kr.one (.inr rfl) rfl (Ent.refl _) ⟨?_, ?_⟩
        · simp [overK]; omega
        · repeat (first | exact Ent.refl _ | (refine Ent.take1 ?_) | (refine Ent.trans Ent.drop ?_))
end
end Go.Proofs.Ytinomeobmpaakaa
