/-
  LimboOrder's walk.
-/
import Derived.Test.YtinomeobmpaakaaLiK
import Derived.Test.YtinomeobmpaakaaLiD
import Derived.Test.YtinomeobmpaakaaSlQ
import Derived.Test.YtinomeobmpaakaaSlN
set_option linter.unusedVariables false
set_option linter.unusedSimpArgs false
namespace Go.Proofs.Ytinomeobmpaakaa
open Go
attribute [local irreducible] Sx Cx Rx Fx Krg Ksq Kbl Klp Kr

/-- The items of one tag. -/
def itemsO (i n : Nat) : List Int := (List.range n).map fun k => ((10 * i + k : Nat) : Int)
theorem itemsO_length (i n : Nat) : (itemsO i n).length = n := by simp [itemsO]
theorem itemsO_succ (i n : Nat) : itemsO i (n + 1) = itemsO i n ++ [((10 * i + n : Nat) : Int)] := by simp [itemsO, List.range_succ]
/-- The limbo and what is wanted, behind so many tags. -/
def ordM (t : Int) (f : Nat → Nat) : Nat → Lm
  | 0 => Lm.nil
  | i + 1 => putO (ordM t f i) (bucketOf (t + i)) (t + i) (itemsO i (f i))
def ordW (t at_ : Int) (f : Nat → Nat) : Nat → List Int
  | 0 => []
  | i + 1 => ordW t at_ f i ++ (if t + i + 2 ≤ at_ then itemsO i (f i) else [])
theorem itemsO_nil {i n : Nat} : itemsO i n = [] ↔ n = 0 := by rw [← List.length_eq_zero_iff, itemsO_length]
theorem bucket_step (t : Int) (ht : 0 ≤ t) : (bucketOf t = 0 ∧ bucketOf (t + 1) = 1 ∧ bucketOf (t + 2) = 2) ∨ (bucketOf t = 1 ∧ bucketOf (t + 1) = 2 ∧ bucketOf (t + 2) = 0) ∨ (bucketOf t = 2 ∧ bucketOf (t + 1) = 0 ∧ bucketOf (t + 2) = 1) := by
  unfold bucketOf; omega
theorem order_law {t at_ : Int} {f : Nat → Nat} (ht : 0 ≤ t) (ha : t ≤ at_) :
    (readyAll at_ (ordM t f 3)).1 = ordW t at_ f 3 ∧ anyOpen at_ (ordM t f 3) = decide (0 < (ordW t at_ f 3).length) ∧ anyOpen at_ (readyAll at_ (ordM t f 3)).2 = false ∧
      (readyAll at_ (ordM t f 3)).2.size + (ordW t at_ f 3).length = f 0 + f 1 + f 2 := by
  have ho : ∀ i : Nat, openM at_ (t + i) (itemsO i (f i)) = (decide (itemsO i (f i) ≠ []) && decide (t + i + 2 ≤ at_)) := fun i => by
    unfold openM
    rw [← Bool.decide_and]
    refine decide_eq_decide.2 ?_
    rw [List.length_pos_iff]
    constructor <;> rintro ⟨a, b⟩ <;> exact ⟨a, by omega⟩
  have h0 := ho 0
  have h1 := ho 1
  have h2 := ho 2
  simp only [Int.natCast_zero, Int.add_zero, Int.natCast_one] at h0 h1 h2
  have hc := order_core (now := at_) (T0 := t) (T1 := t + 1) (T2 := t + 2) (x0 := itemsO 0 (f 0)) (x1 := itemsO 1 (f 1)) (x2 := itemsO 2 (f 2)) (o0 := decide (t + 2 ≤ at_)) (o1 := decide (t + 1 + 2 ≤ at_)) (o2 := decide (t + 2 + 2 ≤ at_))
    (by simp only [decide_eq_true_eq]; omega) (by omega) (by omega) h0 h1 h2 _ _ _ (bucket_step t ht)
  simp only [decide_eq_true_eq, itemsO_length] at hc
  have hm : ordM t f 3 = putO (putO (putO Lm.nil (bucketOf t) t (itemsO 0 (f 0))) (bucketOf (t + 1)) (t + 1) (itemsO 1 (f 1))) (bucketOf (t + 2)) (t + 2) (itemsO 2 (f 2)) := by
    simp [ordM]
  have hw : ordW t at_ f 3 = (if t + 2 ≤ at_ then itemsO 0 (f 0) else []) ++ ((if t + 1 + 2 ≤ at_ then itemsO 1 (f 1) else []) ++ (if t + 2 + 2 ≤ at_ then itemsO 2 (f 2) else [])) := by
    simp [ordW]
  rw [hm, hw]
  exact hc
/-- What is known behind so many tags. -/
theorem ord_inv {t : Int} {f : Nat → Nat} (ht : 0 ≤ t) {i : Nat} (hi : i < 3) : (ordM t f i).last ≤ t + i ∧ (ordM t f i).items (bucketOf (t + i)) = [] ∧ (ordM t f i).size = ((List.range i).map f).sum := by
  rcases bucket_step t ht with ⟨b0, b1, b2⟩ | ⟨b0, b1, b2⟩ | ⟨b0, b1, b2⟩ <;>
  rcases (show i = 0 ∨ i = 1 ∨ i = 2 by omega) with rfl | rfl | rfl <;>
  simp [ordM, putO, b0, b1, b2, List.range_succ] <;> (repeat' split) <;> simp_all [Lm.nil, Lm.put, Lm.items, Lm.size, itemsO_length, itemsO_nil] <;> (try omega)
theorem ordM_size {t : Int} {f : Nat → Nat} (ht : 0 ≤ t) : (ordM t f 3).size = f 0 + f 1 + f 2 := by
  rcases bucket_step t ht with ⟨b0, b1, b2⟩ | ⟨b0, b1, b2⟩ | ⟨b0, b1, b2⟩ <;>
  simp [ordM, putO, b0, b1, b2] <;> (repeat' split) <;> simp_all [Lm.nil, Lm.put, Lm.items, Lm.size, itemsO_length, itemsO_nil] <;> (try omega)
theorem ordW_len (t at_ : Int) (f : Nat → Nat) : ∀ i, (ordW t at_ f i).length ≤ ((List.range i).map f).sum
  | 0 => by simp [ordW]
  | i + 1 => by
    have := ordW_len t at_ f i
    simp only [ordW, List.range_succ, List.map_append, List.sum_append, List.length_append]
    split <;> simp [itemsO_length] <;> omega
section
variable {L F : St}
theorem limboReadyK {b : Nat} {m : Lm} {now : Int} {F : St} [t : Take L (some ⟨b, 0, none⟩) (LimboO m) F] (hb : m.size ≤ 100000000) (hnow : now ≤ 9223372036854775807) :
    Fx Try.prog 40 [.pointer (some ⟨b, 0, none⟩), .int .i64 now] L (fun v L' => ∃ ro co, ((readyAll now m).1.length = 0 ∨ ∃ g, ro = some ⟨g, 0, none⟩) ∧ v = .slice ro (readyAll now m).1.length co ∧
      L' = pt ro (Row 3 1 (readyAll now m).1.length co (ints (readyAll now m).1)) :: pt (some ⟨b, 0, none⟩) (LimboO (readyAll now m).2) :: F) := by
  refine ((limboReady (t := t) hb hnow).pure (p := fun v L' => ∀ ro co, v = .slice ro (readyAll now m).1.length co → ((readyAll now m).1.length = 0 ∨ ∃ g, ro = some ⟨g, 0, none⟩)) ?_).mono ?_
  · rintro v L' ⟨ro, co, rfl, rfl⟩ h hh r' c' e
    cases e
    obtain ⟨_, _, _, k⟩ := Row.key (a := ro) (E := 3) (sz := 1) h hh
    exact k.imp (fun h => h.2.1) id
  · rintro v L' ⟨⟨ro, co, rfl, rfl⟩, hk⟩
    exact ⟨ro, co, hk ro co rfl, rfl, rfl⟩
set_option maxHeartbeats 4000000 in
theorem limboOrder (tag a b c now : Int) : Fx Try.prog 10 [.int .i64 tag, .int .i64 a, .int .i64 b, .int .i64 c, .int .i64 now] L (fun v L' => v = .bool true ∧ Ent L' L) := by
  have ht1 := Int.emod_nonneg tag (show (1000 : Int) ≠ 0 by omega)
  have ht2 := Int.emod_lt_of_pos tag (show (0 : Int) < 1000 by omega)
  have hw1 := Int.emod_nonneg now (show (7 : Int) ≠ 0 by omega)
  have hw2 := Int.emod_lt_of_pos now (show (0 : Int) < 7 by omega)
  obtain ⟨n0, hn0, hl0⟩ : ∃ n : Nat, a % 5 = n ∧ n < 5 := ⟨(a % 5).toNat, by omega, by omega⟩
  obtain ⟨n1, hn1, hl1⟩ : ∃ n : Nat, b % 5 = n ∧ n < 5 := ⟨(b % 5).toNat, by omega, by omega⟩
  obtain ⟨n2, hn2, hl2⟩ : ∃ n : Nat, c % 5 = n ∧ n < 5 := ⟨(c % 5).toNat, by omega, by omega⟩
  obtain ⟨f, hf0, hf1, hf2⟩ : ∃ f : Nat → Nat, f 0 = n0 ∧ f 1 = n1 ∧ f 2 = n2 := ⟨fun i => if i = 0 then n0 else if i = 1 then n1 else n2, rfl, rfl, rfl⟩
  subst hf0 hf1 hf2
  have hfi : ∀ i, i < 3 → f i < 5 := fun i hi => by rcases (show i = 0 ∨ i = 1 ∨ i = 2 by omega) with rfl | rfl | rfl <;> assumption
  have hsum : ∀ i, i ≤ 3 → ((List.range i).map f).sum ≤ 15 := fun i hi => by
    rcases (show i = 0 ∨ i = 1 ∨ i = 2 ∨ i = 3 by omega) with rfl | rfl | rfl | rfl <;> simp [List.range_succ] <;> omega
  have hfl : ∀ i, i < 3 → (ints [(f 0 : Int), f 1, f 2])[i]? = some (.int .i64 (f i)) := fun i hi => by
    rcases (show i = 0 ∨ i = 1 ∨ i = 2 by omega) with rfl | rfl | rfl <;> rfl
  refine Fx.mk Try.func10 k10 (Nat.le_of_ble_eq_true rfl) ?_
  dsimp only [c10, envOf, Nat.reduceAdd]
  repeat' (first | (refine Sx.pvs rfl ?_) | (refine Sx.nil ?_) | (refine Krg.i ?_) | (refine Ksq.nm ?_) | (refine Ksq.rt ?_) | (refine Ksq.ex ?_) | (refine Kbl.nm ?_) | (refine Kbl.rt ?_) | (refine Kbl.hit rfl ?_) | (refine Kbl.miss rfl ?_) | (refine Klp.rt ?_) | (refine Klp.ex ?_) | (refine Cx.sq ?_) | (refine Cx.rg ?_) | (refine Cx.bl ?_) | (refine Cx.sk ?_) | (refine Cx.rt ?_) | (refine Cx.ex ?_) | (refine Cx.yes rfl ?_) | (refine Cx.no rfl ?_) | (refine Sx.on rfl ?_) | (refine Sx.off rfl ?_) | (refine Sx.ldb rfl (by rfl) ?_) | (refine Sx.ldbs rfl rfl ?_) | (refine Sx.stb rfl rfl rfl rfl (by rfl) (by rfl) ?_) | (refine Sx.pv rfl trivial ?_) | (refine Sx.pk rfl rfl rfl ?_))
  refine Sx.ca rfl limboFirst ?_
  rintro v L' ⟨rfl, rfl⟩
  repeat' (first | (refine Sx.pvs rfl ?_) | (refine Sx.nil ?_) | (refine Krg.i ?_) | (refine Ksq.nm ?_) | (refine Ksq.rt ?_) | (refine Ksq.ex ?_) | (refine Kbl.nm ?_) | (refine Kbl.rt ?_) | (refine Kbl.hit rfl ?_) | (refine Kbl.miss rfl ?_) | (refine Klp.rt ?_) | (refine Klp.ex ?_) | (refine Cx.sq ?_) | (refine Cx.rg ?_) | (refine Cx.bl ?_) | (refine Cx.sk ?_) | (refine Cx.rt ?_) | (refine Cx.ex ?_) | (refine Cx.yes rfl ?_) | (refine Cx.no rfl ?_) | (refine Sx.on rfl ?_) | (refine Sx.off rfl ?_) | (refine Sx.ldb rfl (by rfl) ?_) | (refine Sx.ldbs rfl rfl ?_) | (refine Sx.stb rfl rfl rfl rfl (by rfl) (by rfl) ?_) | (refine Sx.pv rfl trivial ?_) | (refine Sx.pk rfl rfl rfl ?_))
  refine Sx.ca rfl (number tag 1000 (by omega) (by omega)) ?_
  rintro v L' ⟨rfl, rfl⟩
  generalize tag % 1000 = t at *
  repeat' (first | (refine Sx.pvs rfl ?_) | (refine Sx.nil ?_) | (refine Krg.i ?_) | (refine Ksq.nm ?_) | (refine Ksq.rt ?_) | (refine Ksq.ex ?_) | (refine Kbl.nm ?_) | (refine Kbl.rt ?_) | (refine Kbl.hit rfl ?_) | (refine Kbl.miss rfl ?_) | (refine Klp.rt ?_) | (refine Klp.ex ?_) | (refine Cx.sq ?_) | (refine Cx.rg ?_) | (refine Cx.bl ?_) | (refine Cx.sk ?_) | (refine Cx.rt ?_) | (refine Cx.ex ?_) | (refine Cx.yes rfl ?_) | (refine Cx.no rfl ?_) | (refine Sx.on rfl ?_) | (refine Sx.off rfl ?_) | (refine Sx.ldb rfl (by rfl) ?_) | (refine Sx.ldbs rfl rfl ?_) | (refine Sx.stb rfl rfl rfl rfl (by rfl) (by rfl) ?_) | (refine Sx.pv rfl trivial ?_) | (refine Sx.pk rfl rfl rfl ?_))
  refine Sx.ca rfl (number a 5 (by omega) (by omega)) ?_
  rintro v L' ⟨rfl, rfl⟩
  repeat' (first | (refine Sx.pvs rfl ?_) | (refine Sx.nil ?_) | (refine Krg.i ?_) | (refine Ksq.nm ?_) | (refine Ksq.rt ?_) | (refine Ksq.ex ?_) | (refine Kbl.nm ?_) | (refine Kbl.rt ?_) | (refine Kbl.hit rfl ?_) | (refine Kbl.miss rfl ?_) | (refine Klp.rt ?_) | (refine Klp.ex ?_) | (refine Cx.sq ?_) | (refine Cx.rg ?_) | (refine Cx.bl ?_) | (refine Cx.sk ?_) | (refine Cx.rt ?_) | (refine Cx.ex ?_) | (refine Cx.yes rfl ?_) | (refine Cx.no rfl ?_) | (refine Sx.on rfl ?_) | (refine Sx.off rfl ?_) | (refine Sx.ldb rfl (by rfl) ?_) | (refine Sx.ldbs rfl rfl ?_) | (refine Sx.stb rfl rfl rfl rfl (by rfl) (by rfl) ?_) | (refine Sx.pv rfl trivial ?_) | (refine Sx.pk rfl rfl rfl ?_))
  refine Sx.ca rfl (number b 5 (by omega) (by omega)) ?_
  rintro v L' ⟨rfl, rfl⟩
  repeat' (first | (refine Sx.pvs rfl ?_) | (refine Sx.nil ?_) | (refine Krg.i ?_) | (refine Ksq.nm ?_) | (refine Ksq.rt ?_) | (refine Ksq.ex ?_) | (refine Kbl.nm ?_) | (refine Kbl.rt ?_) | (refine Kbl.hit rfl ?_) | (refine Kbl.miss rfl ?_) | (refine Klp.rt ?_) | (refine Klp.ex ?_) | (refine Cx.sq ?_) | (refine Cx.rg ?_) | (refine Cx.bl ?_) | (refine Cx.sk ?_) | (refine Cx.rt ?_) | (refine Cx.ex ?_) | (refine Cx.yes rfl ?_) | (refine Cx.no rfl ?_) | (refine Sx.on rfl ?_) | (refine Sx.off rfl ?_) | (refine Sx.ldb rfl (by rfl) ?_) | (refine Sx.ldbs rfl rfl ?_) | (refine Sx.stb rfl rfl rfl rfl (by rfl) (by rfl) ?_) | (refine Sx.pv rfl trivial ?_) | (refine Sx.pk rfl rfl rfl ?_))
  refine Sx.ca rfl (number c 5 (by omega) (by omega)) ?_
  rintro v L' ⟨rfl, rfl⟩
  rw [hn0, hn1, hn2]
  repeat' (first | (refine Sx.pvs rfl ?_) | (refine Sx.nil ?_) | (refine Krg.i ?_) | (refine Ksq.nm ?_) | (refine Ksq.rt ?_) | (refine Ksq.ex ?_) | (refine Kbl.nm ?_) | (refine Kbl.rt ?_) | (refine Kbl.hit rfl ?_) | (refine Kbl.miss rfl ?_) | (refine Klp.rt ?_) | (refine Klp.ex ?_) | (refine Cx.sq ?_) | (refine Cx.rg ?_) | (refine Cx.bl ?_) | (refine Cx.sk ?_) | (refine Cx.rt ?_) | (refine Cx.ex ?_) | (refine Cx.yes rfl ?_) | (refine Cx.no rfl ?_) | (refine Sx.on rfl ?_) | (refine Sx.off rfl ?_) | (refine Sx.ldb rfl (by rfl) ?_) | (refine Sx.ldbs rfl rfl ?_) | (refine Sx.stb rfl rfl rfl rfl (by rfl) (by rfl) ?_) | (refine Sx.pv rfl trivial ?_) | (refine Sx.pk rfl rfl rfl ?_))
  refine Sx.bs (sz := 1) rfl rfl fun gn => ?_
  repeat' (first | (refine Sx.pvs rfl ?_) | (refine Sx.nil ?_) | (refine Krg.i ?_) | (refine Ksq.nm ?_) | (refine Ksq.rt ?_) | (refine Ksq.ex ?_) | (refine Kbl.nm ?_) | (refine Kbl.rt ?_) | (refine Kbl.hit rfl ?_) | (refine Kbl.miss rfl ?_) | (refine Klp.rt ?_) | (refine Klp.ex ?_) | (refine Cx.sq ?_) | (refine Cx.rg ?_) | (refine Cx.bl ?_) | (refine Cx.sk ?_) | (refine Cx.rt ?_) | (refine Cx.ex ?_) | (refine Cx.yes rfl ?_) | (refine Cx.no rfl ?_) | (refine Sx.on rfl ?_) | (refine Sx.off rfl ?_) | (refine Sx.ldb rfl (by rfl) ?_) | (refine Sx.ldbs rfl rfl ?_) | (refine Sx.stb rfl rfl rfl rfl (by rfl) (by rfl) ?_) | (refine Sx.pv rfl trivial ?_) | (refine Sx.pk rfl rfl rfl ?_))
  refine Sx.ca rfl limboNew ?_
  rintro v L' ⟨q, rfl, rfl⟩
  repeat' (first | (refine Sx.pvs rfl ?_) | (refine Sx.nil ?_) | (refine Krg.i ?_) | (refine Ksq.nm ?_) | (refine Ksq.rt ?_) | (refine Ksq.ex ?_) | (refine Kbl.nm ?_) | (refine Kbl.rt ?_) | (refine Kbl.hit rfl ?_) | (refine Kbl.miss rfl ?_) | (refine Klp.rt ?_) | (refine Klp.ex ?_) | (refine Cx.sq ?_) | (refine Cx.rg ?_) | (refine Cx.bl ?_) | (refine Cx.sk ?_) | (refine Cx.rt ?_) | (refine Cx.ex ?_) | (refine Cx.yes rfl ?_) | (refine Cx.no rfl ?_) | (refine Sx.on rfl ?_) | (refine Sx.off rfl ?_) | (refine Sx.ldb rfl (by rfl) ?_) | (refine Sx.ldbs rfl rfl ?_) | (refine Sx.stb rfl rfl rfl rfl (by rfl) (by rfl) ?_) | (refine Sx.pv rfl trivial ?_) | (refine Sx.pk rfl rfl rfl ?_))
  refine Sx.ca rfl (number now 7 (by omega) (by omega)) ?_
  rintro v L' ⟨rfl, rfl⟩
  repeat' (first | (refine Sx.pvs rfl ?_) | (refine Sx.nil ?_) | (refine Krg.i ?_) | (refine Ksq.nm ?_) | (refine Ksq.rt ?_) | (refine Ksq.ex ?_) | (refine Kbl.nm ?_) | (refine Kbl.rt ?_) | (refine Kbl.hit rfl ?_) | (refine Kbl.miss rfl ?_) | (refine Klp.rt ?_) | (refine Klp.ex ?_) | (refine Cx.sq ?_) | (refine Cx.rg ?_) | (refine Cx.bl ?_) | (refine Cx.sk ?_) | (refine Cx.rt ?_) | (refine Cx.ex ?_) | (refine Cx.yes rfl ?_) | (refine Cx.no rfl ?_) | (refine Sx.on rfl ?_) | (refine Sx.off rfl ?_) | (refine Sx.ldb rfl (by rfl) ?_) | (refine Sx.ldbs rfl rfl ?_) | (refine Sx.stb rfl rfl rfl rfl (by rfl) (by rfl) ?_) | (refine Sx.pv rfl trivial ?_) | (refine Sx.pk rfl rfl rfl ?_))
  rw [w64 (n := t + now % 7) (by omega) (by omega)]
  have hat1 : t ≤ t + now % 7 := by omega
  have hat2 : t + now % 7 ≤ 2000 := by omega
  generalize t + now % 7 = at_ at *
  refine Cx.lp (α := {p : Nat × (Option Addr × Nat) // p.1 ≤ 3})
    (fun p => [(11, .bool true), (12, .int .i64 t), (13, .slice (some ⟨gn, 0, none⟩) 3 3), (14, .pointer (some ⟨q, 0, none⟩)), (15, .int .i64 at_), (16, .slice p.1.2.1 (ordW t at_ f p.1.1).length p.1.2.2), (17, .int .i64 p.1.1)])
    (fun p => pt p.1.2.1 (Row 3 1 (ordW t at_ f p.1.1).length p.1.2.2 (ints (ordW t at_ f p.1.1))) :: pt (some ⟨q, 0, none⟩) (LimboO (ordM t f p.1.1)) :: pt (some ⟨gn, 0, none⟩) (Row 3 1 3 3 (ints [(f 0 : Int), f 1, f 2])) :: L)
    (fun p => 3 - p.1.1) ⟨(0, (none, 0)), by simp⟩ (sub.cons rfl (sub.cons rfl (sub.cons rfl (sub.cons rfl (sub.cons rfl (sub.cons rfl (sub.cons rfl sub.nil))))))) (Ent.rownil _ _) ?_
  rintro ⟨⟨i, ⟨ro, co⟩⟩, hi⟩
  dsimp only at hi ⊢
  repeat' (first | (refine Sx.pvs rfl ?_) | (refine Sx.nil ?_) | (refine Krg.i ?_) | (refine Ksq.nm ?_) | (refine Ksq.rt ?_) | (refine Ksq.ex ?_) | (refine Kbl.nm ?_) | (refine Kbl.rt ?_) | (refine Kbl.hit rfl ?_) | (refine Kbl.miss rfl ?_) | (refine Klp.rt ?_) | (refine Klp.ex ?_) | (refine Cx.sq ?_) | (refine Cx.rg ?_) | (refine Cx.bl ?_) | (refine Cx.sk ?_) | (refine Cx.rt ?_) | (refine Cx.ex ?_) | (refine Cx.yes rfl ?_) | (refine Cx.no rfl ?_) | (refine Sx.on rfl ?_) | (refine Sx.off rfl ?_) | (refine Sx.ldb rfl (by rfl) ?_) | (refine Sx.ldbs rfl rfl ?_) | (refine Sx.stb rfl rfl rfl rfl (by rfl) (by rfl) ?_) | (refine Sx.pv rfl trivial ?_) | (refine Sx.pk rfl rfl rfl ?_))
  refine Cx.ifp rfl (fun h => ?_) (fun h => ?_)
  · have hi3 : i < 3 := by omega
    have hinv := ord_inv (f := f) ht1 hi3
    have hsm := hsum i hi
    have hwl := ordW_len t at_ f i
    have hii : ∀ n, (ints (itemsO i n)).length = n := fun n => by simp [ints, itemsO_length]
    refine Cx.sk ?_
    refine Ksq.nm ?_
    refine Cx.sq ?_
    refine Cx.jn (β := Option Addr × Nat)
      (fun p => [(11, .bool true), (12, .int .i64 t), (13, .slice (some ⟨gn, 0, none⟩) 3 3), (14, .pointer (some ⟨q, 0, none⟩)), (15, .int .i64 at_), (16, .slice p.1 (ordW t at_ f (i + 1)).length p.2), (17, .int .i64 i)])
      (fun p => pt p.1 (Row 3 1 (ordW t at_ f (i + 1)).length p.2 (ints (ordW t at_ f (i + 1)))) :: pt (some ⟨q, 0, none⟩) (LimboO (ordM t f (i + 1))) :: pt (some ⟨gn, 0, none⟩) (Row 3 1 3 3 (ints [(f 0 : Int), f 1, f 2])) :: L) ?_ ?_
    · repeat' (first | (refine Sx.pvs rfl ?_) | (refine Sx.nil ?_) | (refine Krg.i ?_) | (refine Ksq.nm ?_) | (refine Ksq.rt ?_) | (refine Ksq.ex ?_) | (refine Kbl.nm ?_) | (refine Kbl.rt ?_) | (refine Kbl.hit rfl ?_) | (refine Kbl.miss rfl ?_) | (refine Klp.rt ?_) | (refine Klp.ex ?_) | (refine Cx.sq ?_) | (refine Cx.rg ?_) | (refine Cx.bl ?_) | (refine Cx.sk ?_) | (refine Cx.rt ?_) | (refine Cx.ex ?_) | (refine Cx.yes rfl ?_) | (refine Cx.no rfl ?_) | (refine Sx.on rfl ?_) | (refine Sx.off rfl ?_) | (refine Sx.ldb rfl (by rfl) ?_) | (refine Sx.ldbs rfl rfl ?_) | (refine Sx.stb rfl rfl rfl rfl (by rfl) (by rfl) ?_) | (refine Sx.pv rfl trivial ?_) | (refine Sx.pk rfl rfl rfl ?_))
      refine Cx.lp (α := {p : Nat × (Option Addr × Nat) // p.1 ≤ f i})
        (fun p => [(11, .bool true), (12, .int .i64 t), (13, .slice (some ⟨gn, 0, none⟩) 3 3), (14, .pointer (some ⟨q, 0, none⟩)), (15, .int .i64 at_), (16, .slice ro (ordW t at_ f i).length co), (17, .int .i64 i), (18, .slice p.1.2.1 p.1.1 p.1.2.2), (19, .int .i64 p.1.1)])
        (fun p => pt p.1.2.1 (Row 3 1 p.1.1 p.1.2.2 (ints (itemsO i p.1.1))) :: pt ro (Row 3 1 (ordW t at_ f i).length co (ints (ordW t at_ f i))) :: pt (some ⟨q, 0, none⟩) (LimboO (ordM t f i)) :: pt (some ⟨gn, 0, none⟩) (Row 3 1 3 3 (ints [(f 0 : Int), f 1, f 2])) :: L)
        (fun p => f i - p.1.1) ⟨(0, (none, 0)), by simp⟩ (sub.cons rfl (sub.cons rfl (sub.cons rfl (sub.cons rfl (sub.cons rfl (sub.cons rfl (sub.cons rfl (sub.cons rfl (sub.cons rfl sub.nil))))))))) (Ent.rownil _ _) ?_
      rintro ⟨⟨k, ⟨ra, ca⟩⟩, hk⟩
      dsimp only at hk ⊢
      have hfi3 := hfi i hi3
      repeat' (first | (refine Sx.pvs rfl ?_) | (refine Sx.nil ?_) | (refine Krg.i ?_) | (refine Ksq.nm ?_) | (refine Ksq.rt ?_) | (refine Ksq.ex ?_) | (refine Kbl.nm ?_) | (refine Kbl.rt ?_) | (refine Kbl.hit rfl ?_) | (refine Kbl.miss rfl ?_) | (refine Klp.rt ?_) | (refine Klp.ex ?_) | (refine Cx.sq ?_) | (refine Cx.rg ?_) | (refine Cx.bl ?_) | (refine Cx.sk ?_) | (refine Cx.rt ?_) | (refine Cx.ex ?_) | (refine Cx.yes rfl ?_) | (refine Cx.no rfl ?_) | (refine Sx.on rfl ?_) | (refine Sx.off rfl ?_) | (refine Sx.ldb rfl (by rfl) ?_) | (refine Sx.ldbs rfl rfl ?_) | (refine Sx.stb rfl rfl rfl rfl (by rfl) (by rfl) ?_) | (refine Sx.pv rfl trivial ?_) | (refine Sx.pk rfl rfl rfl ?_))
      refine Sx.pv rfl ⟨by omega, by omega⟩ ?_
      refine Sx.ldr rfl (v := .int .i64 (f i)) (by simpa using hfl i hi3) ?_
      repeat' (first | (refine Sx.pvs rfl ?_) | (refine Sx.nil ?_) | (refine Krg.i ?_) | (refine Ksq.nm ?_) | (refine Ksq.rt ?_) | (refine Ksq.ex ?_) | (refine Kbl.nm ?_) | (refine Kbl.rt ?_) | (refine Kbl.hit rfl ?_) | (refine Kbl.miss rfl ?_) | (refine Klp.rt ?_) | (refine Klp.ex ?_) | (refine Cx.sq ?_) | (refine Cx.rg ?_) | (refine Cx.bl ?_) | (refine Cx.sk ?_) | (refine Cx.rt ?_) | (refine Cx.ex ?_) | (refine Cx.yes rfl ?_) | (refine Cx.no rfl ?_) | (refine Sx.on rfl ?_) | (refine Sx.off rfl ?_) | (refine Sx.ldb rfl (by rfl) ?_) | (refine Sx.ldbs rfl rfl ?_) | (refine Sx.stb rfl rfl rfl rfl (by rfl) (by rfl) ?_) | (refine Sx.pv rfl trivial ?_) | (refine Sx.pk rfl rfl rfl ?_))
      refine Cx.ifp rfl (fun h1 => ?_) (fun h1 => ?_)
      · repeat' (first | (refine Sx.pvs rfl ?_) | (refine Sx.nil ?_) | (refine Krg.i ?_) | (refine Ksq.nm ?_) | (refine Ksq.rt ?_) | (refine Ksq.ex ?_) | (refine Kbl.nm ?_) | (refine Kbl.rt ?_) | (refine Kbl.hit rfl ?_) | (refine Kbl.miss rfl ?_) | (refine Klp.rt ?_) | (refine Klp.ex ?_) | (refine Cx.sq ?_) | (refine Cx.rg ?_) | (refine Cx.bl ?_) | (refine Cx.sk ?_) | (refine Cx.rt ?_) | (refine Cx.ex ?_) | (refine Cx.yes rfl ?_) | (refine Cx.no rfl ?_) | (refine Sx.on rfl ?_) | (refine Sx.off rfl ?_) | (refine Sx.ldb rfl (by rfl) ?_) | (refine Sx.ldbs rfl rfl ?_) | (refine Sx.stb rfl rfl rfl rfl (by rfl) (by rfl) ?_) | (refine Sx.pv rfl trivial ?_) | (refine Sx.pk rfl rfl rfl ?_))
        rw [w64 (n := 10 * (i : Int)) (by omega) (by omega), w64 (n := 10 * (i : Int) + k) (by omega) (by omega)]
        refine Sx.bs (sz := 1) rfl rfl fun g1 => ?_
        refine Sx.ap (ra := ra) rfl rfl (Rd.row (b := g1) (E := 3) (cap := 1) rfl) rfl (by simp [maxLen]; omega) (by omega) fun ra' ca' hc => ?_
        repeat' (first | (refine Sx.pvs rfl ?_) | (refine Sx.nil ?_) | (refine Krg.i ?_) | (refine Ksq.nm ?_) | (refine Ksq.rt ?_) | (refine Ksq.ex ?_) | (refine Kbl.nm ?_) | (refine Kbl.rt ?_) | (refine Kbl.hit rfl ?_) | (refine Kbl.miss rfl ?_) | (refine Klp.rt ?_) | (refine Klp.ex ?_) | (refine Cx.sq ?_) | (refine Cx.rg ?_) | (refine Cx.bl ?_) | (refine Cx.sk ?_) | (refine Cx.rt ?_) | (refine Cx.ex ?_) | (refine Cx.yes rfl ?_) | (refine Cx.no rfl ?_) | (refine Sx.on rfl ?_) | (refine Sx.off rfl ?_) | (refine Sx.ldb rfl (by rfl) ?_) | (refine Sx.ldbs rfl rfl ?_) | (refine Sx.stb rfl rfl rfl rfl (by rfl) (by rfl) ?_) | (refine Sx.pv rfl trivial ?_) | (refine Sx.pk rfl rfl rfl ?_))
        rw [w64 (n := (k : Int) + 1) (by omega) (by omega)]
        refine Klp.nm ⟨(k + 1, (ra', ca')), by dsimp only; omega⟩ (sub.cons rfl (sub.cons rfl (sub.cons rfl (sub.cons rfl (sub.cons rfl (sub.cons rfl (sub.cons rfl (sub.cons rfl (sub.cons rfl sub.nil))))))))) ?_ (by dsimp only; omega)
        dsimp only
        rw [itemsO_succ, ints_append, show ints [((10 * i + k : Nat) : Int)] = [.int .i64 (10 * (i : Int) + k)] by simp [ints]]
        repeat (first | exact Ent.refl _ | (refine Ent.take1 ?_) | (refine Ent.trans Ent.drop ?_))
      · have hkf : k = f i := by omega
        subst hkf
        repeat' (first | (refine Sx.pvs rfl ?_) | (refine Sx.nil ?_) | (refine Krg.i ?_) | (refine Ksq.nm ?_) | (refine Ksq.rt ?_) | (refine Ksq.ex ?_) | (refine Kbl.nm ?_) | (refine Kbl.rt ?_) | (refine Kbl.hit rfl ?_) | (refine Kbl.miss rfl ?_) | (refine Klp.rt ?_) | (refine Klp.ex ?_) | (refine Cx.sq ?_) | (refine Cx.rg ?_) | (refine Cx.bl ?_) | (refine Cx.sk ?_) | (refine Cx.rt ?_) | (refine Cx.ex ?_) | (refine Cx.yes rfl ?_) | (refine Cx.no rfl ?_) | (refine Sx.on rfl ?_) | (refine Sx.off rfl ?_) | (refine Sx.ldb rfl (by rfl) ?_) | (refine Sx.ldbs rfl rfl ?_) | (refine Sx.stb rfl rfl rfl rfl (by rfl) (by rfl) ?_) | (refine Sx.pv rfl trivial ?_) | (refine Sx.pk rfl rfl rfl ?_))
        refine Cx.rowkey (a := ra) fun hx0 hn0' _ hk0 => ?_
        refine Cx.ifp rfl (fun h2 => ?_) (fun h2 => ?_)
        · have h20 : f i = 0 := by omega
          have hI : itemsO i (f i) = [] := itemsO_nil.2 h20
          repeat' (first | (refine Sx.pvs rfl ?_) | (refine Sx.nil ?_) | (refine Krg.i ?_) | (refine Ksq.nm ?_) | (refine Ksq.rt ?_) | (refine Ksq.ex ?_) | (refine Kbl.nm ?_) | (refine Kbl.rt ?_) | (refine Kbl.hit rfl ?_) | (refine Kbl.miss rfl ?_) | (refine Klp.rt ?_) | (refine Klp.ex ?_) | (refine Cx.sq ?_) | (refine Cx.rg ?_) | (refine Cx.bl ?_) | (refine Cx.sk ?_) | (refine Cx.rt ?_) | (refine Cx.ex ?_) | (refine Cx.yes rfl ?_) | (refine Cx.no rfl ?_) | (refine Sx.on rfl ?_) | (refine Sx.off rfl ?_) | (refine Sx.ldb rfl (by rfl) ?_) | (refine Sx.ldbs rfl rfl ?_) | (refine Sx.stb rfl rfl rfl rfl (by rfl) (by rfl) ?_) | (refine Sx.pv rfl trivial ?_) | (refine Sx.pk rfl rfl rfl ?_))
          refine Kjn.nm (ro, co) (sub.cons rfl (sub.cons rfl (sub.cons rfl (sub.cons rfl (sub.cons rfl (sub.cons ?_ (sub.cons rfl sub.nil))))))) ?_
          · dsimp only; simp only [ordW, hI, ite_self, List.append_nil]; rfl
          · simp only [ordW, hI, ite_self, List.append_nil, ordM, putO, if_true]
            repeat (first | exact Ent.refl _ | (refine Ent.take1 ?_) | (refine Ent.trans Ent.drop ?_))
        · have h20 : f i ≠ 0 := by omega
          have hI : itemsO i (f i) ≠ [] := fun hh => h20 (itemsO_nil.1 hh)
          repeat' (first | (refine Sx.pvs rfl ?_) | (refine Sx.nil ?_) | (refine Krg.i ?_) | (refine Ksq.nm ?_) | (refine Ksq.rt ?_) | (refine Ksq.ex ?_) | (refine Kbl.nm ?_) | (refine Kbl.rt ?_) | (refine Kbl.hit rfl ?_) | (refine Kbl.miss rfl ?_) | (refine Klp.rt ?_) | (refine Klp.ex ?_) | (refine Cx.sq ?_) | (refine Cx.rg ?_) | (refine Cx.bl ?_) | (refine Cx.sk ?_) | (refine Cx.rt ?_) | (refine Cx.ex ?_) | (refine Cx.yes rfl ?_) | (refine Cx.no rfl ?_) | (refine Sx.on rfl ?_) | (refine Sx.off rfl ?_) | (refine Sx.ldb rfl (by rfl) ?_) | (refine Sx.ldbs rfl rfl ?_) | (refine Sx.stb rfl rfl rfl rfl (by rfl) (by rfl) ?_) | (refine Sx.pv rfl trivial ?_) | (refine Sx.pk rfl rfl rfl ?_))
          rw [w64 (n := t + (i : Int)) (by omega) (by omega)]
          refine Sx.ca rfl (limboRetire (b := q) (m := ordM t f i) (tag := t + i) (ys := itemsO i (f i)) (Rd.any (a := ra) hx0 (hk0.imp (fun h => h.2.1) id)) (by omega)) ?_
          have hout : outM (ordM t f i) (t + i) = [] := by unfold outM; rw [hinv.2.1, ite_self]
          have hret : retireM (ordM t f i) (t + i) (itemsO i (f i)) = ordM t f (i + 1) := by
            unfold retireM; rw [hinv.2.1, ite_self, List.nil_append]
            simp only [ordM, putO, if_neg hI]
          rw [hout, hret]
          rintro v L' (⟨hr, _⟩ | ⟨_, r1, c1, rfl, rfl⟩)
          · rcases hr with h | h | h | h
            · exact absurd h hI
            · omega
            · omega
            · exact absurd h (by omega)
          repeat' (first | (refine Sx.pvs rfl ?_) | (refine Sx.nil ?_) | (refine Krg.i ?_) | (refine Ksq.nm ?_) | (refine Ksq.rt ?_) | (refine Ksq.ex ?_) | (refine Kbl.nm ?_) | (refine Kbl.rt ?_) | (refine Kbl.hit rfl ?_) | (refine Kbl.miss rfl ?_) | (refine Klp.rt ?_) | (refine Klp.ex ?_) | (refine Cx.sq ?_) | (refine Cx.rg ?_) | (refine Cx.bl ?_) | (refine Cx.sk ?_) | (refine Cx.rt ?_) | (refine Cx.ex ?_) | (refine Cx.yes rfl ?_) | (refine Cx.no rfl ?_) | (refine Sx.on rfl ?_) | (refine Sx.off rfl ?_) | (refine Sx.ldb rfl (by rfl) ?_) | (refine Sx.ldbs rfl rfl ?_) | (refine Sx.stb rfl rfl rfl rfl (by rfl) (by rfl) ?_) | (refine Sx.pv rfl trivial ?_) | (refine Sx.pk rfl rfl rfl ?_))
          rw [w64 (n := t + (i : Int)) (by omega) (by omega), w64 (n := t + (i : Int) + 2) (by omega) (by omega)]
          refine Cx.ifp rfl (fun h3 => ?_) (fun h3 => ?_)
          · repeat' (first | (refine Sx.pvs rfl ?_) | (refine Sx.nil ?_) | (refine Krg.i ?_) | (refine Ksq.nm ?_) | (refine Ksq.rt ?_) | (refine Ksq.ex ?_) | (refine Kbl.nm ?_) | (refine Kbl.rt ?_) | (refine Kbl.hit rfl ?_) | (refine Kbl.miss rfl ?_) | (refine Klp.rt ?_) | (refine Klp.ex ?_) | (refine Cx.sq ?_) | (refine Cx.rg ?_) | (refine Cx.bl ?_) | (refine Cx.sk ?_) | (refine Cx.rt ?_) | (refine Cx.ex ?_) | (refine Cx.yes rfl ?_) | (refine Cx.no rfl ?_) | (refine Sx.on rfl ?_) | (refine Sx.off rfl ?_) | (refine Sx.ldb rfl (by rfl) ?_) | (refine Sx.ldbs rfl rfl ?_) | (refine Sx.stb rfl rfl rfl rfl (by rfl) (by rfl) ?_) | (refine Sx.pv rfl trivial ?_) | (refine Sx.pk rfl rfl rfl ?_))
            refine Sx.ap (ra := ro) rfl rfl (Rd.any (a := ra) hx0 (hk0.imp (fun h => h.2.1) id)) (ones_ints _) (by simp [maxLen]; omega) (by omega) fun ra' ca' hc => ?_
            repeat' (first | (refine Sx.pvs rfl ?_) | (refine Sx.nil ?_) | (refine Krg.i ?_) | (refine Ksq.nm ?_) | (refine Ksq.rt ?_) | (refine Ksq.ex ?_) | (refine Kbl.nm ?_) | (refine Kbl.rt ?_) | (refine Kbl.hit rfl ?_) | (refine Kbl.miss rfl ?_) | (refine Klp.rt ?_) | (refine Klp.ex ?_) | (refine Cx.sq ?_) | (refine Cx.rg ?_) | (refine Cx.bl ?_) | (refine Cx.sk ?_) | (refine Cx.rt ?_) | (refine Cx.ex ?_) | (refine Cx.yes rfl ?_) | (refine Cx.no rfl ?_) | (refine Sx.on rfl ?_) | (refine Sx.off rfl ?_) | (refine Sx.ldb rfl (by rfl) ?_) | (refine Sx.ldbs rfl rfl ?_) | (refine Sx.stb rfl rfl rfl rfl (by rfl) (by rfl) ?_) | (refine Sx.pv rfl trivial ?_) | (refine Sx.pk rfl rfl rfl ?_))
            refine Kjn.nm (ra', ca') (sub.cons rfl (sub.cons rfl (sub.cons rfl (sub.cons rfl (sub.cons rfl (sub.cons ?_ (sub.cons rfl sub.nil))))))) ?_
            · dsimp only; simp only [ordW, if_pos h3, List.length_append, itemsO_length]; rfl
            · simp only [ordW, if_pos h3, List.length_append, itemsO_length, ints_append]
              repeat (first | exact Ent.refl _ | (refine Ent.take1 ?_) | (refine Ent.trans Ent.drop ?_))
          · repeat' (first | (refine Sx.pvs rfl ?_) | (refine Sx.nil ?_) | (refine Krg.i ?_) | (refine Ksq.nm ?_) | (refine Ksq.rt ?_) | (refine Ksq.ex ?_) | (refine Kbl.nm ?_) | (refine Kbl.rt ?_) | (refine Kbl.hit rfl ?_) | (refine Kbl.miss rfl ?_) | (refine Klp.rt ?_) | (refine Klp.ex ?_) | (refine Cx.sq ?_) | (refine Cx.rg ?_) | (refine Cx.bl ?_) | (refine Cx.sk ?_) | (refine Cx.rt ?_) | (refine Cx.ex ?_) | (refine Cx.yes rfl ?_) | (refine Cx.no rfl ?_) | (refine Sx.on rfl ?_) | (refine Sx.off rfl ?_) | (refine Sx.ldb rfl (by rfl) ?_) | (refine Sx.ldbs rfl rfl ?_) | (refine Sx.stb rfl rfl rfl rfl (by rfl) (by rfl) ?_) | (refine Sx.pv rfl trivial ?_) | (refine Sx.pk rfl rfl rfl ?_))
            refine Kjn.nm (ro, co) (sub.cons rfl (sub.cons rfl (sub.cons rfl (sub.cons rfl (sub.cons rfl (sub.cons ?_ (sub.cons rfl sub.nil))))))) ?_
            · dsimp only; simp only [ordW, if_neg h3, List.append_nil]; rfl
            · simp only [ordW, if_neg h3, List.append_nil]
              repeat (first | exact Ent.refl _ | (refine Ent.take1 ?_) | (refine Ent.trans Ent.drop ?_))
    · rintro ⟨r1, c1⟩
      dsimp only
      repeat' (first | (refine Sx.pvs rfl ?_) | (refine Sx.nil ?_) | (refine Krg.i ?_) | (refine Ksq.nm ?_) | (refine Ksq.rt ?_) | (refine Ksq.ex ?_) | (refine Kbl.nm ?_) | (refine Kbl.rt ?_) | (refine Kbl.hit rfl ?_) | (refine Kbl.miss rfl ?_) | (refine Klp.rt ?_) | (refine Klp.ex ?_) | (refine Cx.sq ?_) | (refine Cx.rg ?_) | (refine Cx.bl ?_) | (refine Cx.sk ?_) | (refine Cx.rt ?_) | (refine Cx.ex ?_) | (refine Cx.yes rfl ?_) | (refine Cx.no rfl ?_) | (refine Sx.on rfl ?_) | (refine Sx.off rfl ?_) | (refine Sx.ldb rfl (by rfl) ?_) | (refine Sx.ldbs rfl rfl ?_) | (refine Sx.stb rfl rfl rfl rfl (by rfl) (by rfl) ?_) | (refine Sx.pv rfl trivial ?_) | (refine Sx.pk rfl rfl rfl ?_))
      rw [w64 (n := (i : Int) + 1) (by omega) (by omega)]
      refine Klp.nm ⟨(i + 1, (r1, c1)), by dsimp only; omega⟩ (sub.cons rfl (sub.cons rfl (sub.cons rfl (sub.cons rfl (sub.cons rfl (sub.cons rfl (sub.cons rfl sub.nil))))))) ?_ (by dsimp only; omega)
      repeat (first | exact Ent.refl _ | (refine Ent.take1 ?_) | (refine Ent.trans Ent.drop ?_))
  · have hi3 : i = 3 := by omega
    subst hi3
    obtain ⟨l1, l2, l3, l4⟩ := order_law (t := t) (at_ := at_) (f := f) ht1 hat1
    have hwl := ordW_len t at_ f 3
    have hsm := hsum 3 (by omega)
    have hsz := ordM_size (f := f) ht1
    refine Cx.rowkey (a := ro) fun hxw hnw _ hkw => ?_
    repeat' (first | (refine Sx.pvs rfl ?_) | (refine Sx.nil ?_) | (refine Krg.i ?_) | (refine Ksq.nm ?_) | (refine Ksq.rt ?_) | (refine Ksq.ex ?_) | (refine Kbl.nm ?_) | (refine Kbl.rt ?_) | (refine Kbl.hit rfl ?_) | (refine Kbl.miss rfl ?_) | (refine Klp.rt ?_) | (refine Klp.ex ?_) | (refine Cx.sq ?_) | (refine Cx.rg ?_) | (refine Cx.bl ?_) | (refine Cx.sk ?_) | (refine Cx.rt ?_) | (refine Cx.ex ?_) | (refine Cx.yes rfl ?_) | (refine Cx.no rfl ?_) | (refine Sx.on rfl ?_) | (refine Sx.off rfl ?_) | (refine Sx.ldb rfl (by rfl) ?_) | (refine Sx.ldbs rfl rfl ?_) | (refine Sx.stb rfl rfl rfl rfl (by rfl) (by rfl) ?_) | (refine Sx.pv rfl trivial ?_) | (refine Sx.pk rfl rfl rfl ?_))
    refine Cx.ordc rfl (by kernel_rfl) ?_
    repeat' (first | (refine Ev.pass 0 rfl (by kernel_rfl) ?_) | (refine Ev.stpH (by kernel_rfl) rfl rfl ?_) | (refine Ev.done ?_) | (refine Ev.ldbH (by kernel_rfl) rfl rfl (by rfl) ?_) | (refine Ev.ldbsH (by kernel_rfl) rfl rfl rfl ?_))
    refine Ev.cakH (by kernel_rfl) rfl rfl (Fx.kept (limboOpen (b := q) (m := ordM t f 3) (now := at_) (by omega))) ?_
    rw [l2]
    repeat' (first | (refine Ev.pass 0 rfl (by kernel_rfl) ?_) | (refine Ev.stpH (by kernel_rfl) rfl rfl ?_) | (refine Ev.done ?_) | (refine Ev.ldbH (by kernel_rfl) rfl rfl (by rfl) ?_) | (refine Ev.ldbsH (by kernel_rfl) rfl rfl rfl ?_))
    refine Ev.yes 98 rfl (decide_eq_true (decide_eq_decide.2 (show (0 < (ordW t at_ f 3).length ↔ (0 : Int) < ((ordW t at_ f 3).length : Int)) by omega))) ?_
    repeat' (first | (refine Ev.pass 0 rfl (by kernel_rfl) ?_) | (refine Ev.stpH (by kernel_rfl) rfl rfl ?_) | (refine Ev.done ?_) | (refine Ev.ldbH (by kernel_rfl) rfl rfl (by rfl) ?_) | (refine Ev.ldbsH (by kernel_rfl) rfl rfl rfl ?_))
    refine Ev.bring 1 rfl ?_
    repeat' (first | (refine Ev.pass 0 rfl (by kernel_rfl) ?_) | (refine Ev.stpH (by kernel_rfl) rfl rfl ?_) | (refine Ev.done ?_) | (refine Ev.ldbH (by kernel_rfl) rfl rfl (by rfl) ?_) | (refine Ev.ldbsH (by kernel_rfl) rfl rfl rfl ?_))
    refine Ev.caH (by kernel_rfl) rfl rfl (limboReadyK (b := q) (m := ordM t f 3) (now := at_) (by omega) (by omega)) (Pres.deps (by kernel_rfl)) ?_
    rintro v L' ⟨r1, c1, hk1, rfl, rfl⟩
    rw [l1] at hk1 ⊢
    repeat' (first | (refine Ev.pass 0 rfl (by kernel_rfl) ?_) | (refine Ev.stpH (by kernel_rfl) rfl rfl ?_) | (refine Ev.done ?_) | (refine Ev.ldbH (by kernel_rfl) rfl rfl (by rfl) ?_) | (refine Ev.ldbsH (by kernel_rfl) rfl rfl rfl ?_))
    refine Ev.cakH (by kernel_rfl) rfl rfl (sameInts (Rd.any (a := r1) (by simp [length_ints]) hk1) (Rd.any (a := ro) hxw (hkw.imp (fun h => h.2.1) id)) (by omega)) ?_
    repeat' (first | (refine Ev.pass 0 rfl (by kernel_rfl) ?_) | (refine Ev.stpH (by kernel_rfl) rfl rfl ?_) | (refine Ev.done ?_) | (refine Ev.ldbH (by kernel_rfl) rfl rfl (by rfl) ?_) | (refine Ev.ldbsH (by kernel_rfl) rfl rfl rfl ?_))
    refine Ev.yes 105 rfl (decide_eq_true rfl) ?_
    repeat' (first | (refine Ev.pass 0 rfl (by kernel_rfl) ?_) | (refine Ev.stpH (by kernel_rfl) rfl rfl ?_) | (refine Ev.done ?_) | (refine Ev.ldbH (by kernel_rfl) rfl rfl (by rfl) ?_) | (refine Ev.ldbsH (by kernel_rfl) rfl rfl rfl ?_))
    refine Ev.cakH (by kernel_rfl) rfl rfl (Fx.kept (limboOpen (b := q) (m := (readyAll at_ (ordM t f 3)).2) (now := at_) (by omega))) ?_
    rw [l3]
    repeat' (first | (refine Ev.pass 0 rfl (by kernel_rfl) ?_) | (refine Ev.stpH (by kernel_rfl) rfl rfl ?_) | (refine Ev.done ?_) | (refine Ev.ldbH (by kernel_rfl) rfl rfl (by rfl) ?_) | (refine Ev.ldbsH (by kernel_rfl) rfl rfl rfl ?_))
    refine Ev.cakH (by kernel_rfl) rfl rfl (Fx.kept (limboLen (b := q) (m := (readyAll at_ (ordM t f 3)).2) (by omega))) ?_
    repeat' (first | (refine Ev.pass 0 rfl (by kernel_rfl) ?_) | (refine Ev.stpH (by kernel_rfl) rfl rfl ?_) | (refine Ev.done ?_) | (refine Ev.ldbH (by kernel_rfl) rfl rfl (by rfl) ?_) | (refine Ev.ldbsH (by kernel_rfl) rfl rfl rfl ?_))
    refine Ev.pvH (by kernel_rfl) rfl rfl ⟨by omega, by omega⟩ ?_
    refine Ev.ldrH (b := gn) (by kernel_rfl) rfl rfl (v := .int .i64 (f 0)) (by simpa using hfl 0 (by omega)) ?_
    repeat' (first | (refine Ev.pass 0 rfl (by kernel_rfl) ?_) | (refine Ev.stpH (by kernel_rfl) rfl rfl ?_) | (refine Ev.done ?_) | (refine Ev.ldbH (by kernel_rfl) rfl rfl (by rfl) ?_) | (refine Ev.ldbsH (by kernel_rfl) rfl rfl rfl ?_))
    refine Ev.pvH (by kernel_rfl) rfl rfl ⟨by omega, by omega⟩ ?_
    refine Ev.ldrH (b := gn) (by kernel_rfl) rfl rfl (v := .int .i64 (f 1)) (by simpa using hfl 1 (by omega)) ?_
    repeat' (first | (refine Ev.pass 0 rfl (by kernel_rfl) ?_) | (refine Ev.stpH (by kernel_rfl) rfl rfl ?_) | (refine Ev.done ?_) | (refine Ev.ldbH (by kernel_rfl) rfl rfl (by rfl) ?_) | (refine Ev.ldbsH (by kernel_rfl) rfl rfl rfl ?_))
    refine Ev.pvH (by kernel_rfl) rfl rfl ⟨by omega, by omega⟩ ?_
    refine Ev.ldrH (b := gn) (by kernel_rfl) rfl rfl (v := .int .i64 (f 2)) (by simpa using hfl 2 (by omega)) ?_
    repeat' (first | (refine Ev.pass 0 rfl (by kernel_rfl) ?_) | (refine Ev.stpH (by kernel_rfl) rfl rfl ?_) | (refine Ev.done ?_) | (refine Ev.ldbH (by kernel_rfl) rfl rfl (by rfl) ?_) | (refine Ev.ldbsH (by kernel_rfl) rfl rfl rfl ?_))
    have := hfi 0 (by omega)
    have := hfi 1 (by omega)
    have := hfi 2 (by omega)
    rw [w64 (n := (f 0 : Int) + f 1) (by omega) (by omega), w64 (n := (f 0 : Int) + f 1 + f 2) (by omega) (by omega), w64 (n := (f 0 : Int) + f 1 + f 2 - (ordW t at_ f 3).length) (by omega) (by omega), decide_eq_true (show (((readyAll at_ (ordM t f 3)).2.size : Nat) : Int) = (f 0 : Int) + f 1 + f 2 - (ordW t at_ f 3).length by omega)]
    repeat' (first | (refine Ev.pass 0 rfl (by kernel_rfl) ?_) | (refine Ev.stpH (by kernel_rfl) rfl rfl ?_) | (refine Ev.done ?_) | (refine Ev.ldbH (by kernel_rfl) rfl rfl (by rfl) ?_) | (refine Ev.ldbsH (by kernel_rfl) rfl rfl rfl ?_))
    repeat' (first | (refine Sx.pvs rfl ?_) | (refine Sx.nil ?_) | (refine Krg.i ?_) | (refine Ksq.nm ?_) | (refine Ksq.rt ?_) | (refine Ksq.ex ?_) | (refine Kbl.nm ?_) | (refine Kbl.rt ?_) | (refine Kbl.hit rfl ?_) | (refine Kbl.miss rfl ?_) | (refine Klp.rt ?_) | (refine Klp.ex ?_) | (refine Cx.sq ?_) | (refine Cx.rg ?_) | (refine Cx.bl ?_) | (refine Cx.sk ?_) | (refine Cx.rt ?_) | (refine Cx.ex ?_) | (refine Cx.yes rfl ?_) | (refine Cx.no rfl ?_) | (refine Sx.on rfl ?_) | (refine Sx.off rfl ?_) | (refine Sx.ldb rfl (by rfl) ?_) | (refine Sx.ldbs rfl rfl ?_) | (refine Sx.stb rfl rfl rfl rfl (by rfl) (by rfl) ?_) | (refine Sx.pv rfl trivial ?_) | (refine Sx.pk rfl rfl rfl ?_))
    refine Kr.one (.inr rfl) rfl (Ent.refl _) ⟨rfl, ?_⟩
    repeat (first | exact Ent.refl _ | (refine Ent.take1 ?_) | (refine Ent.trans Ent.drop ?_))
end
end Go.Proofs.Ytinomeobmpaakaa
