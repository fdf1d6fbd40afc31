/-
  Fields of words: bits' functions and word's heads.
-/
import Derived.Test.YtnbkjcmmjgkdaaaGreatSlN
import Derived.Test.YtnbkjcmmjgkdaaaGreatCo
import Derived.Test.YtnbkjcmmjgkdaaaGreatPuA
set_option linter.unusedVariables false
set_option linter.unusedSimpArgs false
namespace Go.Proofs.YtnbkjcmmjgkdaaaGreat
open Go
attribute [local irreducible] Sx Cx Rx Fx Krg Ksq Kbl Klp Kr

/-- A word as a value. -/
abbrev wd (n : Nat) : Value := .int .u64 (n : Int)
theorem bv64 (a : Nat) : BitVec.ofInt 64 (a : Int) = BitVec.ofNat 64 a := by
  apply BitVec.eq_of_toNat_eq
  simp [BitVec.toNat_ofInt]
theorem wrap64 {n : Nat} (h : n < 18446744073709551616) : IntKind.u64.wrap (n : Int) = (n : Int) := wu64 (by omega) (by omega)
theorem and64 (a b : Nat) (ha : a < 18446744073709551616) (hb : b < 18446744073709551616) : bitsOf .and .u64 a b = ((a &&& b : Nat) : Int) := by
  show IntKind.u64.wrap (((BitVec.ofInt 64 (a : Int) &&& BitVec.ofInt 64 (b : Int)).toNat : Nat) : Int) = _
  rw [bv64, bv64, BitVec.toNat_and, BitVec.toNat_ofNat, BitVec.toNat_ofNat, Nat.mod_eq_of_lt ha, Nat.mod_eq_of_lt hb]
  exact wrap64 (Nat.lt_of_le_of_lt Nat.and_le_left ha)
theorem or64 (a b : Nat) (ha : a < 18446744073709551616) (hb : b < 18446744073709551616) : bitsOf .or .u64 a b = ((a ||| b : Nat) : Int) := by
  show IntKind.u64.wrap (((BitVec.ofInt 64 (a : Int) ||| BitVec.ofInt 64 (b : Int)).toNat : Nat) : Int) = _
  rw [bv64, bv64, BitVec.toNat_or, BitVec.toNat_ofNat, BitVec.toNat_ofNat, Nat.mod_eq_of_lt ha, Nat.mod_eq_of_lt hb]
  exact wrap64 (Nat.or_lt_two_pow (n := 64) ha hb)
theorem andNot64 (a b c : Nat) (hc : c < 18446744073709551616) (h : ∀ i, i < 64 → c.testBit i = (a.testBit i && !b.testBit i)) : bitsOf .andNot .u64 a b = (c : Int) := by
  show IntKind.u64.wrap (((BitVec.ofInt 64 (a : Int) &&& ~~~(BitVec.ofInt 64 (b : Int))).toNat : Nat) : Int) = _
  have e : BitVec.ofNat 64 a &&& ~~~(BitVec.ofNat 64 b) = BitVec.ofNat 64 c := by
    apply BitVec.eq_of_getLsbD_eq
    intro i hi
    rw [BitVec.getLsbD_and, BitVec.getLsbD_not, BitVec.getLsbD_ofNat, BitVec.getLsbD_ofNat, BitVec.getLsbD_ofNat, h i hi]
    simp [hi]
  rw [bv64, bv64, e, BitVec.toNat_ofNat, Nat.mod_eq_of_lt hc]
  exact wrap64 hc
theorem pow64 {a : Nat} (h : a ≤ 63) : (2 : Nat) ^ a < 18446744073709551616 := Nat.lt_of_le_of_lt (Nat.pow_le_pow_right (by omega) h) (by decide)
section
variable {L F : St}
theorem bitsField (a w : Nat) (h : a + w ≤ 64) : Fx Tryz.prog 194 [.int .i64 a, .int .i64 w] L (fun v L' => v = .bool true ∧ L = L') := by
  refine Fx.mk Tryz.func194 k194 (Nat.le_of_ble_eq_true rfl) ?_
  dsimp only [c194, envOf, Nat.reduceAdd]
  repeat' (first|refine Zo0 rfl ?_|refine Zo1 ?_|refine Zo2 ?_|refine Zo3 ?_|refine Zo4 ?_|refine Zo5 ?_|refine Zo6 ?_|refine Zo7 ?_|refine Zo8 rfl ?_|refine Zo9 rfl ?_|refine Zoa ?_|refine Zob ?_|refine Zoc ?_|refine Zod ?_|refine Zoe ?_|refine Zof ?_|refine Zog ?_|refine Zoh ?_|refine Zoi rfl ?_|refine Zoj rfl ?_|refine Zok rfl ?_|refine Zol rfl ?_|refine Zom rfl (by rfl) ?_|refine Zon rfl rfl ?_|refine Zoo rfl rfl rfl rfl (by rfl) (by rfl) ?_|refine Zop rfl trivial ?_|refine Zoq rfl rfl rfl ?_)
  iterate 3 (try (refine Sx.gyes rfl (decide_eq_true (by omega)) ?_; repeat' (first|refine Zo0 rfl ?_|refine Zo1 ?_|refine Zo2 ?_|refine Zo3 ?_|refine Zo4 ?_|refine Zo5 ?_|refine Zo6 ?_|refine Zo7 ?_|refine Zo8 rfl ?_|refine Zo9 rfl ?_|refine Zoa ?_|refine Zob ?_|refine Zoc ?_|refine Zod ?_|refine Zoe ?_|refine Zof ?_|refine Zog ?_|refine Zoh ?_|refine Zoi rfl ?_|refine Zoj rfl ?_|refine Zok rfl ?_|refine Zol rfl ?_|refine Zom rfl (by rfl) ?_|refine Zon rfl rfl ?_|refine Zoo rfl rfl rfl rfl (by rfl) (by rfl) ?_|refine Zop rfl trivial ?_|refine Zoq rfl rfl rfl ?_)))
  rw [w64 (n := 64 - (w : Int)) (by omega) (by omega), decide_eq_true (show (a : Int) ≤ 64 - w by omega)]
  exact Kr.one (.inr rfl) rfl (Ent.refl _) ⟨rfl, rfl⟩
theorem bitsMask (w : Nat) (h : w ≤ 63) : Fx Tryz.prog 195 [.int .i64 w] L (fun v L' => v = wd (2 ^ w - 1) ∧ L = L') := by
  refine Fx.mk Tryz.func195 k195 (Nat.le_of_ble_eq_true rfl) ?_
  dsimp only [c195, envOf, Nat.reduceAdd]
  have hp := pow64 h
  have h1 : 1 ≤ 2 ^ w := Nat.one_le_two_pow
  repeat' (first|refine Zo0 rfl ?_|refine Zo1 ?_|refine Zo2 ?_|refine Zo3 ?_|refine Zo4 ?_|refine Zo5 ?_|refine Zo6 ?_|refine Zo7 ?_|refine Zo8 rfl ?_|refine Zo9 rfl ?_|refine Zoa ?_|refine Zob ?_|refine Zoc ?_|refine Zod ?_|refine Zoe ?_|refine Zof ?_|refine Zog ?_|refine Zoh ?_|refine Zoi rfl ?_|refine Zoj rfl ?_|refine Zok rfl ?_|refine Zol rfl ?_|refine Zom rfl (by rfl) ?_|refine Zon rfl rfl ?_|refine Zoo rfl rfl rfl rfl (by rfl) (by rfl) ?_|refine Zop rfl trivial ?_|refine Zoq rfl rfl rfl ?_)
  have e1 : (bif true then (if (w : Int) < 0 then (0 : Int) else (w : Int)) else (if (0 : Int) < (w : Int) then (0 : Int) else (w : Int))) = w := by
    rw [cond_true, if_neg (by omega)]
  have e2 : (bif false then (if (w : Int) < 64 then (64 : Int) else (w : Int)) else (if (64 : Int) < (w : Int) then (64 : Int) else (w : Int))) = w := by
    rw [cond_false, if_neg (by omega)]
  rw [e1, e2]
  refine Sx.pv rfl (by omega) ?_
  have e3 : min (w : Int).toNat IntKind.u64.bits = w := by rw [Int.toNat_natCast]; exact Nat.min_eq_left (by show w ≤ 64; omega)
  rw [e3, show (1 : Int) * 2 ^ w = ((2 ^ w : Nat) : Int) by push_cast; omega, wrap64 hp]
  repeat' (first|refine Zo0 rfl ?_|refine Zo1 ?_|refine Zo2 ?_|refine Zo3 ?_|refine Zo4 ?_|refine Zo5 ?_|refine Zo6 ?_|refine Zo7 ?_|refine Zo8 rfl ?_|refine Zo9 rfl ?_|refine Zoa ?_|refine Zob ?_|refine Zoc ?_|refine Zod ?_|refine Zoe ?_|refine Zof ?_|refine Zog ?_|refine Zoh ?_|refine Zoi rfl ?_|refine Zoj rfl ?_|refine Zok rfl ?_|refine Zol rfl ?_|refine Zom rfl (by rfl) ?_|refine Zon rfl rfl ?_|refine Zoo rfl rfl rfl rfl (by rfl) (by rfl) ?_|refine Zop rfl trivial ?_|refine Zoq rfl rfl rfl ?_)
  rw [show ((2 ^ w : Nat) : Int) - 1 = ((2 ^ w - 1 : Nat) : Int) by omega, wrap64 (by omega)]
  exact Kr.one (.inr rfl) rfl (Ent.refl _) ⟨rfl, rfl⟩
theorem bitsGet (x a w : Nat) (hx : x < 18446744073709551616) (h : a + w ≤ 64) (hw : w ≤ 63) : Fx Tryz.prog 173 [wd x, .int .i64 a, .int .i64 w] L (fun v L' => v = wd (x / 2 ^ a % 2 ^ w) ∧ L = L') := by
  refine Fx.mk Tryz.func173 k173 (Nat.le_of_ble_eq_true rfl) ?_
  dsimp only [c173, envOf, Nat.reduceAdd]
  have hp := pow64 hw
  have h1 : 1 ≤ 2 ^ w := Nat.one_le_two_pow
  repeat' (first|refine Zo0 rfl ?_|refine Zo1 ?_|refine Zo2 ?_|refine Zo3 ?_|refine Zo4 ?_|refine Zo5 ?_|refine Zo6 ?_|refine Zo7 ?_|refine Zo8 rfl ?_|refine Zo9 rfl ?_|refine Zoa ?_|refine Zob ?_|refine Zoc ?_|refine Zod ?_|refine Zoe ?_|refine Zof ?_|refine Zog ?_|refine Zoh ?_|refine Zoi rfl ?_|refine Zoj rfl ?_|refine Zok rfl ?_|refine Zol rfl ?_|refine Zom rfl (by rfl) ?_|refine Zon rfl rfl ?_|refine Zoo rfl rfl rfl rfl (by rfl) (by rfl) ?_|refine Zop rfl trivial ?_|refine Zoq rfl rfl rfl ?_)
  refine Sx.ca rfl (bitsField a w h) ?_
  rintro v L' ⟨rfl, rfl⟩
  repeat' (first|refine Zo0 rfl ?_|refine Zo1 ?_|refine Zo2 ?_|refine Zo3 ?_|refine Zo4 ?_|refine Zo5 ?_|refine Zo6 ?_|refine Zo7 ?_|refine Zo8 rfl ?_|refine Zo9 rfl ?_|refine Zoa ?_|refine Zob ?_|refine Zoc ?_|refine Zod ?_|refine Zoe ?_|refine Zof ?_|refine Zog ?_|refine Zoh ?_|refine Zoi rfl ?_|refine Zoj rfl ?_|refine Zok rfl ?_|refine Zol rfl ?_|refine Zom rfl (by rfl) ?_|refine Zon rfl rfl ?_|refine Zoo rfl rfl rfl rfl (by rfl) (by rfl) ?_|refine Zop rfl trivial ?_|refine Zoq rfl rfl rfl ?_)
  refine Cx.ordc rfl (by kernel_rfl) ?_
  repeat' (first|refine Ze0 0 rfl (by kernel_rfl) ?_|refine Ze1 (by kernel_rfl) rfl rfl ?_|refine Ze2 ?_|refine Ze3 ?_|refine Ze4 (by kernel_rfl) rfl rfl (by rfl) ?_|refine Ze5 (by kernel_rfl) rfl rfl rfl ?_)
  refine Ev.pvH (by kernel_rfl) rfl rfl (by omega) ?_
  have e3 : min (a : Int).toNat IntKind.u64.bits = a := by rw [Int.toNat_natCast]; exact Nat.min_eq_left (by show a ≤ 64; omega)
  have e4 : (x : Int).fdiv (2 ^ a) = ((x / 2 ^ a : Nat) : Int) := by
    rw [show (2 : Int) ^ a = ((2 ^ a : Nat) : Int) by push_cast; rfl, Int.fdiv_eq_ediv_of_nonneg _ (Int.natCast_nonneg _)]; rfl
  rw [e3, e4]
  repeat' (first|refine Ze0 0 rfl (by kernel_rfl) ?_|refine Ze1 (by kernel_rfl) rfl rfl ?_|refine Ze2 ?_|refine Ze3 ?_|refine Ze4 (by kernel_rfl) rfl rfl (by rfl) ?_|refine Ze5 (by kernel_rfl) rfl rfl rfl ?_)
  refine Ev.cakH (by kernel_rfl) rfl rfl (bitsMask w hw) ?_
  repeat' (first|refine Ze0 0 rfl (by kernel_rfl) ?_|refine Ze1 (by kernel_rfl) rfl rfl ?_|refine Ze2 ?_|refine Ze3 ?_|refine Ze4 (by kernel_rfl) rfl rfl (by rfl) ?_|refine Ze5 (by kernel_rfl) rfl rfl rfl ?_)
  rw [and64 _ _ (Nat.lt_of_le_of_lt (Nat.div_le_self _ _) hx) (by omega), Nat.and_two_pow_sub_one_eq_mod]
  repeat' (first|refine Zo0 rfl ?_|refine Zo1 ?_|refine Zo2 ?_|refine Zo3 ?_|refine Zo4 ?_|refine Zo5 ?_|refine Zo6 ?_|refine Zo7 ?_|refine Zo8 rfl ?_|refine Zo9 rfl ?_|refine Zoa ?_|refine Zob ?_|refine Zoc ?_|refine Zod ?_|refine Zoe ?_|refine Zof ?_|refine Zog ?_|refine Zoh ?_|refine Zoi rfl ?_|refine Zoj rfl ?_|refine Zok rfl ?_|refine Zol rfl ?_|refine Zom rfl (by rfl) ?_|refine Zon rfl rfl ?_|refine Zoo rfl rfl rfl rfl (by rfl) (by rfl) ?_|refine Zop rfl trivial ?_|refine Zoq rfl rfl rfl ?_)
  exact Kr.one (.inr rfl) rfl (Ent.refl _) ⟨rfl, rfl⟩
theorem bitsFits (x w : Nat) (hx : x < 2 ^ w) (hw : w ≤ 63) : Fx Tryz.prog 200 [wd x, .int .i64 w] L (fun v L' => v = .bool true ∧ L = L') := by
  refine Fx.mk Tryz.func200 k200 (Nat.le_of_ble_eq_true rfl) ?_
  dsimp only [c200, envOf, Nat.reduceAdd]
  repeat' (first|refine Zo0 rfl ?_|refine Zo1 ?_|refine Zo2 ?_|refine Zo3 ?_|refine Zo4 ?_|refine Zo5 ?_|refine Zo6 ?_|refine Zo7 ?_|refine Zo8 rfl ?_|refine Zo9 rfl ?_|refine Zoa ?_|refine Zob ?_|refine Zoc ?_|refine Zod ?_|refine Zoe ?_|refine Zof ?_|refine Zog ?_|refine Zoh ?_|refine Zoi rfl ?_|refine Zoj rfl ?_|refine Zok rfl ?_|refine Zol rfl ?_|refine Zom rfl (by rfl) ?_|refine Zon rfl rfl ?_|refine Zoo rfl rfl rfl rfl (by rfl) (by rfl) ?_|refine Zop rfl trivial ?_|refine Zoq rfl rfl rfl ?_)
  refine Sx.ca rfl (bitsMask w hw) ?_
  rintro v L' ⟨rfl, rfl⟩
  repeat' (first|refine Zo0 rfl ?_|refine Zo1 ?_|refine Zo2 ?_|refine Zo3 ?_|refine Zo4 ?_|refine Zo5 ?_|refine Zo6 ?_|refine Zo7 ?_|refine Zo8 rfl ?_|refine Zo9 rfl ?_|refine Zoa ?_|refine Zob ?_|refine Zoc ?_|refine Zod ?_|refine Zoe ?_|refine Zof ?_|refine Zog ?_|refine Zoh ?_|refine Zoi rfl ?_|refine Zoj rfl ?_|refine Zok rfl ?_|refine Zol rfl ?_|refine Zom rfl (by rfl) ?_|refine Zon rfl rfl ?_|refine Zoo rfl rfl rfl rfl (by rfl) (by rfl) ?_|refine Zop rfl trivial ?_|refine Zoq rfl rfl rfl ?_)
  rw [andNot64 x (2 ^ w - 1) 0 (by omega) (fun i hi => by
    rw [Nat.zero_testBit, Nat.testBit_two_pow_sub_one]
    by_cases hiw : i < w
    · simp [hiw]
    · rw [Nat.testBit_lt_two_pow (Nat.lt_of_lt_of_le hx (Nat.pow_le_pow_right (by omega) (by omega)))]; rfl)]
  exact Kr.one (.inr rfl) rfl (Ent.refl _) ⟨rfl, rfl⟩
/-- A field above all that is there. -/
theorem bitsPut (x a w y : Nat) (hx : x < 2 ^ a) (hy : y < 2 ^ w) (h : a + w ≤ 64) (hw : w ≤ 63) : Fx Tryz.prog 191 [wd x, .int .i64 a, .int .i64 w, wd y] L (fun v L' => v = .tuple #[wd (y * 2 ^ a + x), .bool true] ∧ L = L') := by
  have hp := pow64 hw
  have h1 : 1 ≤ 2 ^ w := Nat.one_le_two_pow
  have hb : 2 ^ w * 2 ^ a ≤ 18446744073709551616 := by rw [← Nat.pow_add, Nat.add_comm]; exact Nat.pow_le_pow_right (n := 2) (i := a + w) (j := 64) (by omega) h
  have h2 : 1 ≤ 2 ^ a := Nat.one_le_two_pow
  have hmx : (2 ^ w - 1) * 2 ^ a + 2 ^ a = 2 ^ w * 2 ^ a := by rw [← Nat.succ_mul]; congr 1; omega
  have hyx : y * 2 ^ a + 2 ^ a ≤ 2 ^ w * 2 ^ a := by rw [← Nat.succ_mul]; exact Nat.mul_le_mul_right _ hy
  refine Fx.mk Tryz.func191 k191 (Nat.le_of_ble_eq_true rfl) ?_
  dsimp only [c191, envOf, Nat.reduceAdd]
  repeat' (first|refine Zo0 rfl ?_|refine Zo1 ?_|refine Zo2 ?_|refine Zo3 ?_|refine Zo4 ?_|refine Zo5 ?_|refine Zo6 ?_|refine Zo7 ?_|refine Zo8 rfl ?_|refine Zo9 rfl ?_|refine Zoa ?_|refine Zob ?_|refine Zoc ?_|refine Zod ?_|refine Zoe ?_|refine Zof ?_|refine Zog ?_|refine Zoh ?_|refine Zoi rfl ?_|refine Zoj rfl ?_|refine Zok rfl ?_|refine Zol rfl ?_|refine Zom rfl (by rfl) ?_|refine Zon rfl rfl ?_|refine Zoo rfl rfl rfl rfl (by rfl) (by rfl) ?_|refine Zop rfl trivial ?_|refine Zoq rfl rfl rfl ?_)
  refine Sx.ca rfl (bitsField a w h) ?_
  rintro v L' ⟨rfl, rfl⟩
  repeat' (first|refine Zo0 rfl ?_|refine Zo1 ?_|refine Zo2 ?_|refine Zo3 ?_|refine Zo4 ?_|refine Zo5 ?_|refine Zo6 ?_|refine Zo7 ?_|refine Zo8 rfl ?_|refine Zo9 rfl ?_|refine Zoa ?_|refine Zob ?_|refine Zoc ?_|refine Zod ?_|refine Zoe ?_|refine Zof ?_|refine Zog ?_|refine Zoh ?_|refine Zoi rfl ?_|refine Zoj rfl ?_|refine Zok rfl ?_|refine Zol rfl ?_|refine Zom rfl (by rfl) ?_|refine Zon rfl rfl ?_|refine Zoo rfl rfl rfl rfl (by rfl) (by rfl) ?_|refine Zop rfl trivial ?_|refine Zoq rfl rfl rfl ?_)
  refine Sx.ca rfl (bitsFits y w hy hw) ?_
  rintro v L' ⟨rfl, rfl⟩
  repeat' (first|refine Zo0 rfl ?_|refine Zo1 ?_|refine Zo2 ?_|refine Zo3 ?_|refine Zo4 ?_|refine Zo5 ?_|refine Zo6 ?_|refine Zo7 ?_|refine Zo8 rfl ?_|refine Zo9 rfl ?_|refine Zoa ?_|refine Zob ?_|refine Zoc ?_|refine Zod ?_|refine Zoe ?_|refine Zof ?_|refine Zog ?_|refine Zoh ?_|refine Zoi rfl ?_|refine Zoj rfl ?_|refine Zok rfl ?_|refine Zol rfl ?_|refine Zom rfl (by rfl) ?_|refine Zon rfl rfl ?_|refine Zoo rfl rfl rfl rfl (by rfl) (by rfl) ?_|refine Zop rfl trivial ?_|refine Zoq rfl rfl rfl ?_)
  refine Cx.ordc rfl (by kernel_rfl) ?_
  repeat' (first|refine Ze0 0 rfl (by kernel_rfl) ?_|refine Ze1 (by kernel_rfl) rfl rfl ?_|refine Ze2 ?_|refine Ze3 ?_|refine Ze4 (by kernel_rfl) rfl rfl (by rfl) ?_|refine Ze5 (by kernel_rfl) rfl rfl rfl ?_)
  refine Ev.cakH (by kernel_rfl) rfl rfl (bitsMask w hw) ?_
  have e3 : min (a : Int).toNat IntKind.u64.bits = a := by rw [Int.toNat_natCast]; exact Nat.min_eq_left (by show a ≤ 64; omega)
  repeat' (first|refine Ze0 0 rfl (by kernel_rfl) ?_|refine Ze1 (by kernel_rfl) rfl rfl ?_|refine Ze2 ?_|refine Ze3 ?_|refine Ze4 (by kernel_rfl) rfl rfl (by rfl) ?_|refine Ze5 (by kernel_rfl) rfl rfl rfl ?_)
  refine Ev.pvH (by kernel_rfl) rfl rfl (by omega) ?_
  rw [e3, show ((2 ^ w - 1 : Nat) : Int) * 2 ^ a = (((2 ^ w - 1) * 2 ^ a : Nat) : Int) by push_cast; rfl, wrap64 (by omega)]
  repeat' (first|refine Ze0 0 rfl (by kernel_rfl) ?_|refine Ze1 (by kernel_rfl) rfl rfl ?_|refine Ze2 ?_|refine Ze3 ?_|refine Ze4 (by kernel_rfl) rfl rfl (by rfl) ?_|refine Ze5 (by kernel_rfl) rfl rfl rfl ?_)
  refine Ev.pvH (by kernel_rfl) rfl rfl (by omega) ?_
  rw [e3, show (y : Int) * 2 ^ a = ((y * 2 ^ a : Nat) : Int) by push_cast; rfl, wrap64 (by omega)]
  rw [andNot64 x ((2 ^ w - 1) * 2 ^ a) x (by omega) (fun i hi => by
    rw [Nat.mul_comm, Nat.testBit_two_pow_mul]
    by_cases hia : i < a
    · simp [show ¬ a ≤ i by omega]
    · rw [Nat.testBit_lt_two_pow (Nat.lt_of_lt_of_le hx (Nat.pow_le_pow_right (by omega) (by omega)))]; rfl)]
  repeat' (first|refine Ze0 0 rfl (by kernel_rfl) ?_|refine Ze1 (by kernel_rfl) rfl rfl ?_|refine Ze2 ?_|refine Ze3 ?_|refine Ze4 (by kernel_rfl) rfl rfl (by rfl) ?_|refine Ze5 (by kernel_rfl) rfl rfl rfl ?_)
  rw [or64 _ _ (by omega) (by omega)]
  have e5 : x ||| y * 2 ^ a = y * 2 ^ a + x := by
    rw [Nat.or_comm, Nat.mul_comm y, Nat.two_pow_add_eq_or_of_lt hx y]
  rw [e5]
  repeat' (first|refine Zo0 rfl ?_|refine Zo1 ?_|refine Zo2 ?_|refine Zo3 ?_|refine Zo4 ?_|refine Zo5 ?_|refine Zo6 ?_|refine Zo7 ?_|refine Zo8 rfl ?_|refine Zo9 rfl ?_|refine Zoa ?_|refine Zob ?_|refine Zoc ?_|refine Zod ?_|refine Zoe ?_|refine Zof ?_|refine Zog ?_|refine Zoh ?_|refine Zoi rfl ?_|refine Zoj rfl ?_|refine Zok rfl ?_|refine Zol rfl ?_|refine Zom rfl (by rfl) ?_|refine Zon rfl rfl ?_|refine Zoo rfl rfl rfl rfl (by rfl) (by rfl) ?_|refine Zop rfl trivial ?_|refine Zoq rfl rfl rfl ?_)
  exact Kr.two (.inr rfl) rfl rfl (Ent.refl _) ⟨rfl, rfl⟩
end
end Go.Proofs.YtnbkjcmmjgkdaaaGreat
