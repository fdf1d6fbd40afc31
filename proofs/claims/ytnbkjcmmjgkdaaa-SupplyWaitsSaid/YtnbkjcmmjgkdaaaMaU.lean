/-
  SupplyWaits' walk.
-/
import Derived.Test.YtnbkjcmmjgkdaaaMaR
import Derived.Test.YtnbkjcmmjgkdaaaMaN
import Derived.Test.YtnbkjcmmjgkdaaaBoD
import Derived.Test.YtnbkjcmmjgkdaaaLiE
import Derived.Test.YtnbkjcmmjgkdaaaMaT
set_option linter.unusedVariables false
set_option linter.unusedSimpArgs false
namespace Go.Proofs.Ytnbkjcmmjgkdaaa
open Go
attribute [local irreducible] Sx Cx Rx Fx Krg Ksq Kbl Klp Kr

theorem tkIt_add {k : Sk} {ba : Int} {r : Mm × SupS × TakeS} (a : Nat) : ∀ b, tkIt k ba (a + b) r = tkIt k ba b (tkIt k ba a r)
  | 0 => rfl
  | b + 1 => by
    show takeStep k ba (tkIt k ba (a + b) r).1 (tkIt k ba (a + b) r).2.1 (tkIt k ba (a + b) r).2.2 = _
    rw [tkIt_add a b]
    rfl
/-- Another cell laid. -/
theorem Pool.congr {k : Sk} {m m' : Mm} {l : List Int} (h : Pool k m l) (h1 : m'.at_ k.head = m.at_ k.head) (h2 : ∀ j, j < k.n → m'.at_ (k.links + j) = m.at_ (k.links + j)) : Pool k m' l := by
  refine ⟨?_, h.nd⟩
  rw [h1]
  refine h.c.congr fun x hx => ?_
  have := h.c.mem x hx
  exact h2 _ (by omega)
theorem Pool.lay {k : Sk} {m : Mm} {l : List Int} {a v : Nat} (h : Pool k m l) (ha : a < m.ws.length) (h1 : a ≠ k.head) (h2 : a < k.links ∨ k.links + k.n ≤ a) : Pool k (m.lay a v) l :=
  h.congr (by rw [Mm.at_lay _ ha, if_neg h1]) fun j hj => by rw [Mm.at_lay _ ha, if_neg (by omega)]
/-- One retired: when it is ready. -/
theorem one_by (t y by_ : Int) (ht : 0 ≤ t) (hb : 0 ≤ by_) : (by_ < 2 → readyAll (t + by_) (retireM Lm.nil t [y]) = ([], retireM Lm.nil t [y])) ∧
    (2 ≤ by_ → (readyAll (t + by_) (retireM Lm.nil t [y])).1 = [y]) := by
  have hlt : bucketOf t < 3 := Nat.mod_lt _ (by omega)
  have h0 : ∀ k, Lm.nil.items k = [] := fun k => by unfold Lm.items Lm.nil; split <;> rfl
  have e : retireM Lm.nil t [y] = { Lm.nil.put (bucketOf t) t [y] with last := t } := by unfold retireM; rw [h0, ite_self, List.nil_append]
  rw [e]
  have z1 : ∀ n, openM n 0 [] = false := fun n => by simp [openM]
  generalize hk : bucketOf t = k at *
  clear hk
  refine ⟨fun h => ?_, fun h => ?_⟩
  · have o1 : openM (t + by_) t [y] = false := by simp [openM] <;> omega
    rcases (show k = 0 ∨ k = 1 ∨ k = 2 by omega) with rfl | rfl | rfl <;>
    simp [readyAll, readyM, leastUp, Lm.open_, Lm.tag, Lm.items, Lm.put, Lm.nil, Lm.cnt, one, Lm.size, *]
  · have o2 : openM (t + by_) t [y] = true := by simp [openM] <;> omega
    have p2 : 2 ≤ t + by_ := by omega
    rcases (show k = 0 ∨ k = 1 ∨ k = 2 by omega) with rfl | rfl | rfl <;>
    simp [readyAll, readyM, leastUp, Lm.open_, Lm.tag, Lm.items, Lm.put, Lm.nil, Lm.cnt, one, Lm.size, *]
abbrev cn2 : Cn := ⟨1, 3, 8, 1, 2, 1⟩
theorem cn2_ok : cn2.ok := by unfold Cn.ok MayC; decide
theorem cn2_pool : cn2.pool.ok cn2.len := cn2_ok.pool (Nat.le_refl _) (by decide)
abbrev retd (t : Int) : SupS := ⟨2, [], retireM Lm.nil t [0]⟩
/-- The first one. -/
theorem waits1 : ∃ m' q, tkIt cn2.pool cn2.ba 3 (poolM cn2, takeInit cn2.ba (SupS.nil cn2.ca)) = (m', SupS.nil 2, ⟨1, 0, true, -1, q, true⟩) ∧ m'.ws.length = cn2.len ∧ Pool cn2.pool m' [1, 2] ∧
    (∀ j, j < 3 → (tkIt cn2.pool cn2.ba j (poolM cn2, takeInit cn2.ba (SupS.nil cn2.ca))).2.2.done = false ∧ (tkIt cn2.pool cn2.ba j (poolM cn2, takeInit cn2.ba (SupS.nil cn2.ca))).2.1 = SupS.nil 2) := by
  have hp : Pool cn2.pool (poolM cn2) [0, 1, 2] := (fill_pool cn2_pool (by rw [zeroM_len])).1
  obtain ⟨m', q, e, _, h3, h4, _, h6⟩ := take_alone cn2_pool (poolM_len cn2) hp (ba := cn2.ba) (by decide) (by decide) (by simp) 1 (by decide) (s := SupS.nil 2) (t := { TakeS.none_ with at_ := 1, q := PopS.init cn2.ba }) rfl rfl rfl
  exact ⟨m', q, e, h3, h4, h6⟩
/-- Not ready. -/
theorem waits2 {m : Mm} (hl : m.ws.length = cn2.len) (hp : Pool cn2.pool m [1, 2]) {t by_ : Int} (ht : 0 ≤ t) (hb : 0 ≤ by_) (h2 : by_ < 2) (hc : cutE (m.at_ 2) = t + by_) :
    ∃ m' q, tkIt cn2.pool cn2.ba 4 (m, takeInit cn2.ba (retd t)) = (m', retd t, ⟨1, 1, true, t + by_, q, true⟩) ∧
    (∀ j, j < 4 → (tkIt cn2.pool cn2.ba j (m, takeInit cn2.ba (retd t))).2.2.done = false ∧ (tkIt cn2.pool cn2.ba j (m, takeInit cn2.ba (retd t))).2.1 = retd t) := by
  have hz : (retireM Lm.nil t [0]).size = 1 := (retire_nil t 0).2.2.2.1
  have e0 : takeInit cn2.ba (retd t) = (retd t, TakeS.none_) := by
    unfold takeInit keepT
    simp only [if_true]
    rw [if_pos (by show 0 < (retireM Lm.nil t [0]).size; omega)]
  have hr : (retd t).ready (t + by_) = retd t := by
    unfold SupS.ready
    rw [(one_by t 0 by_ ht hb).1 h2]; rfl
  have e1 : tkIt cn2.pool cn2.ba 1 (m, takeInit cn2.ba (retd t)) = (m.tick, retd t, { TakeS.none_ with seen := t + by_, at_ := 1, q := PopS.init cn2.ba }) := by
    rw [e0]
    simp only [tkIt]
    unfold takeStep
    simp only [TakeS.none_, Bool.false_eq_true, if_false]
    rw [hc, hr]
    unfold keepT
    simp only [if_true]
  obtain ⟨m', q, e, _, h3, h4, _, h6⟩ := take_alone cn2_pool (m := m.tick) hl (l := [1, 2]) ⟨hp.c, hp.nd⟩ (ba := cn2.ba) (by decide) (by decide) (by simp) 1 (by decide) (s := retd t) (t := { TakeS.none_ with seen := t + by_, at_ := 1, q := PopS.init cn2.ba }) rfl rfl rfl
  refine ⟨m', q, ?_, fun j hj => ?_⟩
  · rw [show 4 = 1 + 3 by rfl, tkIt_add, e1]
    exact e
  · rcases j with _ | j
    · rw [e0]; exact ⟨rfl, rfl⟩
    · rw [show j + 1 = 1 + j by omega, tkIt_add, e1]
      exact h6 j (by omega)
/-- Ready. -/
theorem waits3 {m : Mm} {t by_ : Int} (ht : 0 ≤ t) (hb : 0 ≤ by_) (h2 : 2 ≤ by_) (hc : cutE (m.at_ 2) = t + by_) :
    ∃ s', tkIt cn2.pool cn2.ba 1 (m, takeInit cn2.ba (retd t)) = (m.tick, s', ⟨0, 0, true, t + by_, PopS.init 1, true⟩) ∧ s'.xs = [] ∧ s'.lm.size ≤ 10 ∧
    (∀ j, j < 1 → (tkIt cn2.pool cn2.ba j (m, takeInit cn2.ba (retd t))).2.2.done = false ∧ (tkIt cn2.pool cn2.ba j (m, takeInit cn2.ba (retd t))).2.1 = retd t) := by
  have hz : (retireM Lm.nil t [0]).size = 1 := (retire_nil t 0).2.2.2.1
  have e0 : takeInit cn2.ba (retd t) = (retd t, TakeS.none_) := by
    unfold takeInit keepT
    simp only [if_true]
    rw [if_pos (by show 0 < (retireM Lm.nil t [0]).size; omega)]
  have hr : ((retd t).ready (t + by_)).xs = [0] := by
    show [] ++ (readyAll (t + by_) (retireM Lm.nil t [0])).1 = [0]
    rw [(one_by t 0 by_ ht hb).2 h2]; rfl
  refine ⟨((retd t).ready (t + by_)).kept, ?_, ?_, ?_, fun j hj => ?_⟩
  · rw [e0]
    simp only [tkIt]
    unfold takeStep
    simp only [TakeS.none_, Bool.false_eq_true, if_false]
    rw [hc]
    unfold keepT
    rw [if_neg (by rw [hr]; simp), hr]
    rfl
  · show ((retd t).ready (t + by_)).xs.dropLast = []
    rw [hr]; rfl
  · show (readyAll (t + by_) (retireM Lm.nil t [0])).2.size ≤ 10
    have := size_ready (t + by_) (retireM Lm.nil t [0])
    omega
  · obtain rfl : j = 0 := by omega
    rw [e0]; exact ⟨rfl, rfl⟩
section
variable {L F G : St}
set_option maxHeartbeats 8000000 in
theorem supplyWaits (tag later : Int) : Fx Try.prog 4 [.int .i64 tag, .int .i64 later] L (fun v L' => v = .bool true ∧ Ent L' L) := by
  have ht1 := Int.emod_nonneg tag (show (1000 : Int) ≠ 0 by omega)
  have ht2 := Int.emod_lt_of_pos tag (show (0 : Int) < 1000 by omega)
  have hl1 := Int.emod_nonneg later (show (5 : Int) ≠ 0 by omega)
  have hl2 := Int.emod_lt_of_pos later (show (0 : Int) < 5 by omega)
  refine Fx.mk Try.func4 k4 (Nat.le_of_ble_eq_true rfl) ?_
  dsimp only [c4, envOf, Nat.reduceAdd]
  repeat' (first | (refine Sx.pvs rfl ?_) | (refine Sx.nil ?_) | (refine Krg.i ?_) | (refine Ksq.nm ?_) | (refine Ksq.rt ?_) | (refine Ksq.ex ?_) | (refine Kbl.nm ?_) | (refine Kbl.rt ?_) | (refine Kbl.hit rfl ?_) | (refine Kbl.miss rfl ?_) | (refine Klp.rt ?_) | (refine Klp.ex ?_) | (refine Cx.sq ?_) | (refine Cx.rg ?_) | (refine Cx.bl ?_) | (refine Cx.sk ?_) | (refine Cx.rt ?_) | (refine Cx.ex ?_) | (refine Cx.yes rfl ?_) | (refine Cx.no rfl ?_) | (refine Sx.on rfl ?_) | (refine Sx.off rfl ?_) | (refine Sx.ldb rfl (by rfl) ?_) | (refine Sx.ldbs rfl rfl ?_) | (refine Sx.stb rfl rfl rfl rfl (by rfl) (by rfl) ?_) | (refine Sx.pv rfl trivial ?_) | (refine Sx.pk rfl rfl rfl ?_))
  refine Sx.ca rfl supplyFirst ?_
  rintro v L' ⟨rfl, rfl⟩
  repeat' (first | (refine Sx.pvs rfl ?_) | (refine Sx.nil ?_) | (refine Krg.i ?_) | (refine Ksq.nm ?_) | (refine Ksq.rt ?_) | (refine Ksq.ex ?_) | (refine Kbl.nm ?_) | (refine Kbl.rt ?_) | (refine Kbl.hit rfl ?_) | (refine Kbl.miss rfl ?_) | (refine Klp.rt ?_) | (refine Klp.ex ?_) | (refine Cx.sq ?_) | (refine Cx.rg ?_) | (refine Cx.bl ?_) | (refine Cx.sk ?_) | (refine Cx.rt ?_) | (refine Cx.ex ?_) | (refine Cx.yes rfl ?_) | (refine Cx.no rfl ?_) | (refine Sx.on rfl ?_) | (refine Sx.off rfl ?_) | (refine Sx.ldb rfl (by rfl) ?_) | (refine Sx.ldbs rfl rfl ?_) | (refine Sx.stb rfl rfl rfl rfl (by rfl) (by rfl) ?_) | (refine Sx.pv rfl trivial ?_) | (refine Sx.pk rfl rfl rfl ?_))
  refine Sx.al fun g => ?_
  refine Sx.st (b := g) rfl rfl rfl rfl rfl rfl ?_
  dsimp only [lay]
  repeat' (first | (refine Sx.pvs rfl ?_) | (refine Sx.nil ?_) | (refine Krg.i ?_) | (refine Ksq.nm ?_) | (refine Ksq.rt ?_) | (refine Ksq.ex ?_) | (refine Kbl.nm ?_) | (refine Kbl.rt ?_) | (refine Kbl.hit rfl ?_) | (refine Kbl.miss rfl ?_) | (refine Klp.rt ?_) | (refine Klp.ex ?_) | (refine Cx.sq ?_) | (refine Cx.rg ?_) | (refine Cx.bl ?_) | (refine Cx.sk ?_) | (refine Cx.rt ?_) | (refine Cx.ex ?_) | (refine Cx.yes rfl ?_) | (refine Cx.no rfl ?_) | (refine Sx.on rfl ?_) | (refine Sx.off rfl ?_) | (refine Sx.ldb rfl (by rfl) ?_) | (refine Sx.ldbs rfl rfl ?_) | (refine Sx.stb rfl rfl rfl rfl (by rfl) (by rfl) ?_) | (refine Sx.pv rfl trivial ?_) | (refine Sx.pk rfl rfl rfl ?_))
  refine Sx.ca rfl (supMade1 cn2_ok) ?_
  rintro v L' ⟨a, mp, pb, w, r, r2, c, c2, u, pb2, rfl, rfl⟩
  repeat' (first | (refine Sx.pvs rfl ?_) | (refine Sx.nil ?_) | (refine Krg.i ?_) | (refine Ksq.nm ?_) | (refine Ksq.rt ?_) | (refine Ksq.ex ?_) | (refine Kbl.nm ?_) | (refine Kbl.rt ?_) | (refine Kbl.hit rfl ?_) | (refine Kbl.miss rfl ?_) | (refine Klp.rt ?_) | (refine Klp.ex ?_) | (refine Cx.sq ?_) | (refine Cx.rg ?_) | (refine Cx.bl ?_) | (refine Cx.sk ?_) | (refine Cx.rt ?_) | (refine Cx.ex ?_) | (refine Cx.yes rfl ?_) | (refine Cx.no rfl ?_) | (refine Sx.on rfl ?_) | (refine Sx.off rfl ?_) | (refine Sx.ldb rfl (by rfl) ?_) | (refine Sx.ldbs rfl rfl ?_) | (refine Sx.stb rfl rfl rfl rfl (by rfl) (by rfl) ?_) | (refine Sx.pv rfl trivial ?_) | (refine Sx.pk rfl rfl rfl ?_) | (refine Sx.pv rfl ⟨by omega, by omega⟩ ?_) | (refine Sx.pv rfl (by decide) ?_) | fail)
  refine Sx.ldr (b := r) rfl (v := .pointer (some ⟨u, 0, none⟩)) rfl ?_
  repeat' (first | (refine Sx.pvs rfl ?_) | (refine Sx.nil ?_) | (refine Krg.i ?_) | (refine Ksq.nm ?_) | (refine Ksq.rt ?_) | (refine Ksq.ex ?_) | (refine Kbl.nm ?_) | (refine Kbl.rt ?_) | (refine Kbl.hit rfl ?_) | (refine Kbl.miss rfl ?_) | (refine Klp.rt ?_) | (refine Klp.ex ?_) | (refine Cx.sq ?_) | (refine Cx.rg ?_) | (refine Cx.bl ?_) | (refine Cx.sk ?_) | (refine Cx.rt ?_) | (refine Cx.ex ?_) | (refine Cx.yes rfl ?_) | (refine Cx.no rfl ?_) | (refine Sx.on rfl ?_) | (refine Sx.off rfl ?_) | (refine Sx.ldb rfl (by rfl) ?_) | (refine Sx.ldbs rfl rfl ?_) | (refine Sx.stb rfl rfl rfl rfl (by rfl) (by rfl) ?_) | (refine Sx.pv rfl trivial ?_) | (refine Sx.pk rfl rfl rfl ?_))
  refine Sx.ca rfl (number tag 1000 (by omega) (by omega)) ?_
  rintro v L' ⟨rfl, rfl⟩
  repeat' (first | (refine Sx.pvs rfl ?_) | (refine Sx.nil ?_) | (refine Krg.i ?_) | (refine Ksq.nm ?_) | (refine Ksq.rt ?_) | (refine Ksq.ex ?_) | (refine Kbl.nm ?_) | (refine Kbl.rt ?_) | (refine Kbl.hit rfl ?_) | (refine Kbl.miss rfl ?_) | (refine Klp.rt ?_) | (refine Klp.ex ?_) | (refine Cx.sq ?_) | (refine Cx.rg ?_) | (refine Cx.bl ?_) | (refine Cx.sk ?_) | (refine Cx.rt ?_) | (refine Cx.ex ?_) | (refine Cx.yes rfl ?_) | (refine Cx.no rfl ?_) | (refine Sx.on rfl ?_) | (refine Sx.off rfl ?_) | (refine Sx.ldb rfl (by rfl) ?_) | (refine Sx.ldbs rfl rfl ?_) | (refine Sx.stb rfl rfl rfl rfl (by rfl) (by rfl) ?_) | (refine Sx.pv rfl trivial ?_) | (refine Sx.pk rfl rfl rfl ?_))
  refine Sx.ca rfl (number later 5 (by omega) (by omega)) ?_
  rintro v L' ⟨rfl, rfl⟩
  repeat' (first | (refine Sx.pvs rfl ?_) | (refine Sx.nil ?_) | (refine Krg.i ?_) | (refine Ksq.nm ?_) | (refine Ksq.rt ?_) | (refine Ksq.ex ?_) | (refine Kbl.nm ?_) | (refine Kbl.rt ?_) | (refine Kbl.hit rfl ?_) | (refine Kbl.miss rfl ?_) | (refine Klp.rt ?_) | (refine Klp.ex ?_) | (refine Cx.sq ?_) | (refine Cx.rg ?_) | (refine Cx.bl ?_) | (refine Cx.sk ?_) | (refine Cx.rt ?_) | (refine Cx.ex ?_) | (refine Cx.yes rfl ?_) | (refine Cx.no rfl ?_) | (refine Sx.on rfl ?_) | (refine Sx.off rfl ?_) | (refine Sx.ldb rfl (by rfl) ?_) | (refine Sx.ldbs rfl rfl ?_) | (refine Sx.stb rfl rfl rfl rfl (by rfl) (by rfl) ?_) | (refine Sx.pv rfl trivial ?_) | (refine Sx.pk rfl rfl rfl ?_))
  obtain ⟨t, ht⟩ : ∃ t : Int, tag % 1000 = t := ⟨_, rfl⟩
  rw [ht] at ht1 ht2 ⊢
  obtain ⟨y, hy⟩ : ∃ t : Int, later % 5 = t := ⟨_, rfl⟩
  rw [hy] at hl1 hl2 ⊢
  obtain ⟨m1, q1, w1, w2, w3, w4⟩ := waits1
  have hb1 : ∀ j, j ≤ 3 → (tkIt cn2.pool cn2.ba j (poolM cn2, takeInit cn2.ba (SupS.nil cn2.ca))).2.1.xs.length + (tkIt cn2.pool cn2.ba j (poolM cn2, takeInit cn2.ba (SupS.nil cn2.ca))).2.1.lm.size ≤ 1000000 := fun j hj => by
    by_cases h : j = 3
    · rw [h, w1]; show (SupS.nil 2).xs.length + (SupS.nil 2).lm.size ≤ 1000000; decide
    · rw [(w4 j (by omega)).2]; decide
  refine Sx.ca rfl (supTakes (u := u) (mp := mp) (pb := pb2) (x := cn2) (s := SupS.nil cn2.ca) (m := poolM cn2) 3 (by omega) cn2_ok (by rw [poolM_len]; exact Nat.le_refl _) (fun j hj => (w4 j hj).1) (by rw [w1]) (by decide) hb1) ?_
  rw [w1]
  dsimp only
  rintro v L' ⟨rfl, rfl⟩
  repeat' (first | (refine Sx.pvs rfl ?_) | (refine Sx.nil ?_) | (refine Krg.i ?_) | (refine Ksq.nm ?_) | (refine Ksq.rt ?_) | (refine Ksq.ex ?_) | (refine Kbl.nm ?_) | (refine Kbl.rt ?_) | (refine Kbl.hit rfl ?_) | (refine Kbl.miss rfl ?_) | (refine Klp.rt ?_) | (refine Klp.ex ?_) | (refine Cx.sq ?_) | (refine Cx.rg ?_) | (refine Cx.bl ?_) | (refine Cx.sk ?_) | (refine Cx.rt ?_) | (refine Cx.ex ?_) | (refine Cx.yes rfl ?_) | (refine Cx.no rfl ?_) | (refine Sx.on rfl ?_) | (refine Sx.off rfl ?_) | (refine Sx.ldb rfl (by rfl) ?_) | (refine Sx.ldbs rfl rfl ?_) | (refine Sx.stb rfl rfl rfl rfl (by rfl) (by rfl) ?_) | (refine Sx.pv rfl trivial ?_) | (refine Sx.pk rfl rfl rfl ?_))
  refine Sx.bs (sz := 1) rfl rfl fun q => ?_
  repeat' (first | (refine Sx.pvs rfl ?_) | (refine Sx.nil ?_) | (refine Krg.i ?_) | (refine Ksq.nm ?_) | (refine Ksq.rt ?_) | (refine Ksq.ex ?_) | (refine Kbl.nm ?_) | (refine Kbl.rt ?_) | (refine Kbl.hit rfl ?_) | (refine Kbl.miss rfl ?_) | (refine Klp.rt ?_) | (refine Klp.ex ?_) | (refine Cx.sq ?_) | (refine Cx.rg ?_) | (refine Cx.bl ?_) | (refine Cx.sk ?_) | (refine Cx.rt ?_) | (refine Cx.ex ?_) | (refine Cx.yes rfl ?_) | (refine Cx.no rfl ?_) | (refine Sx.on rfl ?_) | (refine Sx.off rfl ?_) | (refine Sx.ldb rfl (by rfl) ?_) | (refine Sx.ldbs rfl rfl ?_) | (refine Sx.stb rfl rfl rfl rfl (by rfl) (by rfl) ?_) | (refine Sx.pv rfl trivial ?_) | (refine Sx.pk rfl rfl rfl ?_))
  refine Sx.ca rfl (supRetire (u := u) (mp := mp) (pb := pb2) (x := cn2) (s := SupS.nil 2) (ys := [0]) (Rd.row (b := q) (E := 3) (cap := 1) rfl) (by show 0 + 1 ≤ 100000000; omega) (by show 0 ≤ 100000000; omega)) ?_
  rintro v L' (⟨hr, _⟩ | ⟨_, rfl, rfl⟩)
  · rcases hr with h | h | h | h
    · cases h
    · omega
    · omega
    · exact absurd h (by show ¬ t < 0; omega)
  have hs1 : (⟨(SupS.nil 2).most, (SupS.nil 2).xs ++ outM (SupS.nil 2).lm t, retireM (SupS.nil 2).lm t [0]⟩ : SupS) = retd t := by
    show (⟨_, [] ++ outM Lm.nil t, _⟩ : SupS) = _
    rw [(retire_nil t 0).2.2.2.2]; rfl
  rw [hs1]
  repeat' (first | (refine Sx.pvs rfl ?_) | (refine Sx.nil ?_) | (refine Krg.i ?_) | (refine Ksq.nm ?_) | (refine Ksq.rt ?_) | (refine Ksq.ex ?_) | (refine Kbl.nm ?_) | (refine Kbl.rt ?_) | (refine Kbl.hit rfl ?_) | (refine Kbl.miss rfl ?_) | (refine Klp.rt ?_) | (refine Klp.ex ?_) | (refine Cx.sq ?_) | (refine Cx.rg ?_) | (refine Cx.bl ?_) | (refine Cx.sk ?_) | (refine Cx.rt ?_) | (refine Cx.ex ?_) | (refine Cx.yes rfl ?_) | (refine Cx.no rfl ?_) | (refine Sx.on rfl ?_) | (refine Sx.off rfl ?_) | (refine Sx.ldb rfl (by rfl) ?_) | (refine Sx.ldbs rfl rfl ?_) | (refine Sx.stb rfl rfl rfl rfl (by rfl) (by rfl) ?_) | (refine Sx.pv rfl trivial ?_) | (refine Sx.pk rfl rfl rfl ?_))
  rw [w64 (n := t + y) (by omega) (by omega)]
  repeat' (first | (refine Sx.pvs rfl ?_) | (refine Sx.nil ?_) | (refine Krg.i ?_) | (refine Ksq.nm ?_) | (refine Ksq.rt ?_) | (refine Ksq.ex ?_) | (refine Kbl.nm ?_) | (refine Kbl.rt ?_) | (refine Kbl.hit rfl ?_) | (refine Kbl.miss rfl ?_) | (refine Klp.rt ?_) | (refine Klp.ex ?_) | (refine Cx.sq ?_) | (refine Cx.rg ?_) | (refine Cx.bl ?_) | (refine Cx.sk ?_) | (refine Cx.rt ?_) | (refine Cx.ex ?_) | (refine Cx.yes rfl ?_) | (refine Cx.no rfl ?_) | (refine Sx.on rfl ?_) | (refine Sx.off rfl ?_) | (refine Sx.ldb rfl (by rfl) ?_) | (refine Sx.ldbs rfl rfl ?_) | (refine Sx.stb rfl rfl rfl rfl (by rfl) (by rfl) ?_) | (refine Sx.pv rfl trivial ?_) | (refine Sx.pk rfl rfl rfl ?_))
  obtain ⟨e, he⟩ : ∃ e : Nat, t + y = e := ⟨(t + y).toNat, by omega⟩
  rw [he, wrap64 (by omega)]
  refine Sx.ca rfl (cellsLay (b := mp) (m := m1) 2 e (by rw [w2]; decide) (by omega)) ?_
  rintro v L' ⟨rfl, rfl⟩
  have hl2' : (m1.lay 2 e).ws.length = cn2.len := by rw [Mm.len_lay]; exact w2
  have hp2 : Pool cn2.pool (m1.lay 2 e) [1, 2] := w3.lay (by rw [w2]; decide) (by decide) (by decide)
  have hc2 : cutE ((m1.lay 2 e).at_ 2) = t + y := by
    rw [Mm.at_lay _ (by rw [w2]; decide), if_pos rfl]
    unfold cutE; omega
  repeat' (first | (refine Sx.pvs rfl ?_) | (refine Sx.nil ?_) | (refine Krg.i ?_) | (refine Ksq.nm ?_) | (refine Ksq.rt ?_) | (refine Ksq.ex ?_) | (refine Kbl.nm ?_) | (refine Kbl.rt ?_) | (refine Kbl.hit rfl ?_) | (refine Kbl.miss rfl ?_) | (refine Klp.rt ?_) | (refine Klp.ex ?_) | (refine Cx.sq ?_) | (refine Cx.rg ?_) | (refine Cx.bl ?_) | (refine Cx.sk ?_) | (refine Cx.rt ?_) | (refine Cx.ex ?_) | (refine Cx.yes rfl ?_) | (refine Cx.no rfl ?_) | (refine Sx.on rfl ?_) | (refine Sx.off rfl ?_) | (refine Sx.ldb rfl (by rfl) ?_) | (refine Sx.ldbs rfl rfl ?_) | (refine Sx.stb rfl rfl rfl rfl (by rfl) (by rfl) ?_) | (refine Sx.pv rfl trivial ?_) | (refine Sx.pk rfl rfl rfl ?_))
  have hsz : (retd t).xs.length + (retd t).lm.size ≤ 1000000 := by
    show 0 + (retireM Lm.nil t [0]).size ≤ 1000000
    rw [(retire_nil t 0).2.2.2.1]; decide
  by_cases h2 : y < 2
  · obtain ⟨m3, q3, x1, x2⟩ := waits2 hl2' hp2 ht1 hl1 h2 hc2
    have hb2 : ∀ j, j ≤ 4 → (tkIt cn2.pool cn2.ba j (m1.lay 2 e, takeInit cn2.ba (retd t))).2.1.xs.length + (tkIt cn2.pool cn2.ba j (m1.lay 2 e, takeInit cn2.ba (retd t))).2.1.lm.size ≤ 1000000 := fun j hj => by
      by_cases h : j = 4
      · rw [h, x1]; exact hsz
      · rw [(x2 j (by omega)).2]; exact hsz
    refine Sx.ca rfl (supTakes (u := u) (mp := mp) (pb := pb2) (x := cn2) (s := retd t) (m := m1.lay 2 e) 4 (by omega) cn2_ok (by rw [hl2']; exact Nat.le_refl _) (fun j hj => (x2 j hj).1) (by rw [x1]) hsz hb2) ?_
    rw [x1]
    dsimp only
    rintro v L' ⟨rfl, rfl⟩
    repeat' (first | (refine Sx.pvs rfl ?_) | (refine Sx.nil ?_) | (refine Krg.i ?_) | (refine Ksq.nm ?_) | (refine Ksq.rt ?_) | (refine Ksq.ex ?_) | (refine Kbl.nm ?_) | (refine Kbl.rt ?_) | (refine Kbl.hit rfl ?_) | (refine Kbl.miss rfl ?_) | (refine Klp.rt ?_) | (refine Klp.ex ?_) | (refine Cx.sq ?_) | (refine Cx.rg ?_) | (refine Cx.bl ?_) | (refine Cx.sk ?_) | (refine Cx.rt ?_) | (refine Cx.ex ?_) | (refine Cx.yes rfl ?_) | (refine Cx.no rfl ?_) | (refine Sx.on rfl ?_) | (refine Sx.off rfl ?_) | (refine Sx.ldb rfl (by rfl) ?_) | (refine Sx.ldbs rfl rfl ?_) | (refine Sx.stb rfl rfl rfl rfl (by rfl) (by rfl) ?_) | (refine Sx.pv rfl trivial ?_) | (refine Sx.pk rfl rfl rfl ?_))
    refine Cx.cyes rfl (decide_eq_true h2) ?_
    repeat' (first | (refine Sx.pvs rfl ?_) | (refine Sx.nil ?_) | (refine Krg.i ?_) | (refine Ksq.nm ?_) | (refine Ksq.rt ?_) | (refine Ksq.ex ?_) | (refine Kbl.nm ?_) | (refine Kbl.rt ?_) | (refine Kbl.hit rfl ?_) | (refine Kbl.miss rfl ?_) | (refine Klp.rt ?_) | (refine Klp.ex ?_) | (refine Cx.sq ?_) | (refine Cx.rg ?_) | (refine Cx.bl ?_) | (refine Cx.sk ?_) | (refine Cx.rt ?_) | (refine Cx.ex ?_) | (refine Cx.yes rfl ?_) | (refine Cx.no rfl ?_) | (refine Sx.on rfl ?_) | (refine Sx.off rfl ?_) | (refine Sx.ldb rfl (by rfl) ?_) | (refine Sx.ldbs rfl rfl ?_) | (refine Sx.stb rfl rfl rfl rfl (by rfl) (by rfl) ?_) | (refine Sx.pv rfl trivial ?_) | (refine Sx.pk rfl rfl rfl ?_))
    refine Sx.ca rfl (supStash (u := u) (mp := mp) (pb := pb2) (x := cn2) (s := retd t) (by show 0 ≤ _; omega)) ?_
    rintro v L' ⟨sa, sc, rfl, rfl⟩
    repeat' (first | (refine Sx.pvs rfl ?_) | (refine Sx.nil ?_) | (refine Krg.i ?_) | (refine Ksq.nm ?_) | (refine Ksq.rt ?_) | (refine Ksq.ex ?_) | (refine Kbl.nm ?_) | (refine Kbl.rt ?_) | (refine Kbl.hit rfl ?_) | (refine Kbl.miss rfl ?_) | (refine Klp.rt ?_) | (refine Klp.ex ?_) | (refine Cx.sq ?_) | (refine Cx.rg ?_) | (refine Cx.bl ?_) | (refine Cx.sk ?_) | (refine Cx.rt ?_) | (refine Cx.ex ?_) | (refine Cx.yes rfl ?_) | (refine Cx.no rfl ?_) | (refine Sx.on rfl ?_) | (refine Sx.off rfl ?_) | (refine Sx.ldb rfl (by rfl) ?_) | (refine Sx.ldbs rfl rfl ?_) | (refine Sx.stb rfl rfl rfl rfl (by rfl) (by rfl) ?_) | (refine Sx.pv rfl trivial ?_) | (refine Sx.pk rfl rfl rfl ?_))
    refine Kr.one (.inr rfl) rfl (Ent.refl _) ⟨rfl, ?_⟩
    repeat (first | exact Ent.refl _ | (refine Ent.take1 ?_) | (refine Ent.trans Ent.drop ?_))
  · obtain ⟨s3, x1, x2, x3, x4⟩ := waits3 ht1 hl1 (by omega) hc2
    have hb2 : ∀ j, j ≤ 1 → (tkIt cn2.pool cn2.ba j (m1.lay 2 e, takeInit cn2.ba (retd t))).2.1.xs.length + (tkIt cn2.pool cn2.ba j (m1.lay 2 e, takeInit cn2.ba (retd t))).2.1.lm.size ≤ 1000000 := fun j hj => by
      by_cases h : j = 1
      · rw [h, x1]; dsimp only; rw [x2]; show 0 + s3.lm.size ≤ _; omega
      · rw [(x4 j (by omega)).2]; exact hsz
    refine Sx.ca rfl (supTakes (u := u) (mp := mp) (pb := pb2) (x := cn2) (s := retd t) (m := m1.lay 2 e) 1 (by omega) cn2_ok (by rw [hl2']; exact Nat.le_refl _) (fun j hj => (x4 j hj).1) (by rw [x1]) hsz hb2) ?_
    rw [x1]
    dsimp only
    rintro v L' ⟨rfl, rfl⟩
    repeat' (first | (refine Sx.pvs rfl ?_) | (refine Sx.nil ?_) | (refine Krg.i ?_) | (refine Ksq.nm ?_) | (refine Ksq.rt ?_) | (refine Ksq.ex ?_) | (refine Kbl.nm ?_) | (refine Kbl.rt ?_) | (refine Kbl.hit rfl ?_) | (refine Kbl.miss rfl ?_) | (refine Klp.rt ?_) | (refine Klp.ex ?_) | (refine Cx.sq ?_) | (refine Cx.rg ?_) | (refine Cx.bl ?_) | (refine Cx.sk ?_) | (refine Cx.rt ?_) | (refine Cx.ex ?_) | (refine Cx.yes rfl ?_) | (refine Cx.no rfl ?_) | (refine Sx.on rfl ?_) | (refine Sx.off rfl ?_) | (refine Sx.ldb rfl (by rfl) ?_) | (refine Sx.ldbs rfl rfl ?_) | (refine Sx.stb rfl rfl rfl rfl (by rfl) (by rfl) ?_) | (refine Sx.pv rfl trivial ?_) | (refine Sx.pk rfl rfl rfl ?_))
    refine Cx.cno rfl (decide_eq_false h2) ?_
    repeat' (first | (refine Sx.pvs rfl ?_) | (refine Sx.nil ?_) | (refine Krg.i ?_) | (refine Ksq.nm ?_) | (refine Ksq.rt ?_) | (refine Ksq.ex ?_) | (refine Kbl.nm ?_) | (refine Kbl.rt ?_) | (refine Kbl.hit rfl ?_) | (refine Kbl.miss rfl ?_) | (refine Klp.rt ?_) | (refine Klp.ex ?_) | (refine Cx.sq ?_) | (refine Cx.rg ?_) | (refine Cx.bl ?_) | (refine Cx.sk ?_) | (refine Cx.rt ?_) | (refine Cx.ex ?_) | (refine Cx.yes rfl ?_) | (refine Cx.no rfl ?_) | (refine Sx.on rfl ?_) | (refine Sx.off rfl ?_) | (refine Sx.ldb rfl (by rfl) ?_) | (refine Sx.ldbs rfl rfl ?_) | (refine Sx.stb rfl rfl rfl rfl (by rfl) (by rfl) ?_) | (refine Sx.pv rfl trivial ?_) | (refine Sx.pk rfl rfl rfl ?_))
    have hlk : listK cn2.pool (m1.lay 2 e).tick = [1, 2] := list_pool (m := (m1.lay 2 e).tick) ⟨hp2.c, hp2.nd⟩
    refine Sx.ca rfl (stackList (sb := pb) (mp := mp) (k := cn2.pool) (m := (m1.lay 2 e).tick) (by show cn2.pool.ok (m1.lay 2 e).ws.length; rw [hl2']; exact cn2_pool)) ?_
    rw [hlk]
    rintro v L' ⟨ro, co, rfl, rfl⟩
    repeat' (first | (refine Sx.pvs rfl ?_) | (refine Sx.nil ?_) | (refine Krg.i ?_) | (refine Ksq.nm ?_) | (refine Ksq.rt ?_) | (refine Ksq.ex ?_) | (refine Kbl.nm ?_) | (refine Kbl.rt ?_) | (refine Kbl.hit rfl ?_) | (refine Kbl.miss rfl ?_) | (refine Klp.rt ?_) | (refine Klp.ex ?_) | (refine Cx.sq ?_) | (refine Cx.rg ?_) | (refine Cx.bl ?_) | (refine Cx.sk ?_) | (refine Cx.rt ?_) | (refine Cx.ex ?_) | (refine Cx.yes rfl ?_) | (refine Cx.no rfl ?_) | (refine Sx.on rfl ?_) | (refine Sx.off rfl ?_) | (refine Sx.ldb rfl (by rfl) ?_) | (refine Sx.ldbs rfl rfl ?_) | (refine Sx.stb rfl rfl rfl rfl (by rfl) (by rfl) ?_) | (refine Sx.pv rfl trivial ?_) | (refine Sx.pk rfl rfl rfl ?_))
    refine Kr.one (.inr rfl) rfl (Ent.refl _) ⟨rfl, ?_⟩
    repeat (first | exact Ent.refl _ | (refine Ent.take1 ?_) | (refine Ent.trans Ent.drop ?_))
end
end Go.Proofs.Ytnbkjcmmjgkdaaa
