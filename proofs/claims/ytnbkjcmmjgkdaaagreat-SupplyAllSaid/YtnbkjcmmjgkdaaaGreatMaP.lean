/-
  The document's stacks: Fill; its places.
-/
import Derived.Test.YtnbkjcmmjgkdaaaGreatMaO
import Derived.Test.YtnbkjcmmjgkdaaaGreatSlO
set_option linter.unusedVariables false
set_option linter.unusedSimpArgs false
namespace Go.Proofs.YtnbkjcmmjgkdaaaGreat
open Go
attribute [local irreducible] Sx Cx Rx Fx Krg Ksq Kbl Klp Kr

theorem natTmod (a b : Nat) : ((a : Int)).tmod (b : Int) = ((a % b : Nat) : Int) := by
  rw [Int.tmod_eq_emod_of_nonneg (Int.natCast_nonneg a)]
  exact (Int.natCast_emod a b).symm
section
variable {L F G : St}
abbrev RSkO (mp : Nat) (k : Sk) : Option Addr → As := Blk 156 (skV mp k)
theorem refPutHead (i : Int) (t : Nat) (h1 : -1 ≤ i) (h2 : i < 4294967295) (ht : t < 4294967296) : Fx Tryz.prog 169 [hdV i t] L (fun v L' => v = .tuple #[wd (t * 4294967296 + (i + 1).toNat), .bool true] ∧ L = L') := by
  refine Fx.mk Tryz.func169 k169 (Nat.le_of_ble_eq_true rfl) ?_
  dsimp only [c169, envOf, Nat.reduceAdd]
  refine Cx.sq ?_
  refine Cx.rg ?_
  refine Sx.bx rfl rfl fun g => ?_
  repeat' (first|refine Zo0 rfl ?_|refine Zo1 ?_|refine Zo2 ?_|refine Zo3 ?_|refine Zo4 ?_|refine Zo5 ?_|refine Zo6 ?_|refine Zo7 ?_|refine Zo8 rfl ?_|refine Zo9 rfl ?_|refine Zoa ?_|refine Zob ?_|refine Zoc ?_|refine Zod ?_|refine Zoe ?_|refine Zof ?_|refine Zog ?_|refine Zoh ?_|refine Zoi rfl ?_|refine Zoj rfl ?_|refine Zok rfl ?_|refine Zol rfl ?_|refine Zom rfl (by rfl) ?_|refine Zon rfl rfl ?_|refine Zoo rfl rfl rfl rfl (by rfl) (by rfl) ?_|refine Zop rfl trivial ?_|refine Zoq rfl rfl rfl ?_)
  iterate 3 (try (refine Sx.gyes rfl (decide_eq_false (by omega)) ?_; repeat' (first|refine Zo0 rfl ?_|refine Zo1 ?_|refine Zo2 ?_|refine Zo3 ?_|refine Zo4 ?_|refine Zo5 ?_|refine Zo6 ?_|refine Zo7 ?_|refine Zo8 rfl ?_|refine Zo9 rfl ?_|refine Zoa ?_|refine Zob ?_|refine Zoc ?_|refine Zod ?_|refine Zoe ?_|refine Zof ?_|refine Zog ?_|refine Zoh ?_|refine Zoi rfl ?_|refine Zoj rfl ?_|refine Zok rfl ?_|refine Zol rfl ?_|refine Zom rfl (by rfl) ?_|refine Zon rfl rfl ?_|refine Zoo rfl rfl rfl rfl (by rfl) (by rfl) ?_|refine Zop rfl trivial ?_|refine Zoq rfl rfl rfl ?_)))
  refine Cx.cno rfl (decide_eq_false (by omega)) ?_
  repeat' (first|refine Zo0 rfl ?_|refine Zo1 ?_|refine Zo2 ?_|refine Zo3 ?_|refine Zo4 ?_|refine Zo5 ?_|refine Zo6 ?_|refine Zo7 ?_|refine Zo8 rfl ?_|refine Zo9 rfl ?_|refine Zoa ?_|refine Zob ?_|refine Zoc ?_|refine Zod ?_|refine Zoe ?_|refine Zof ?_|refine Zog ?_|refine Zoh ?_|refine Zoi rfl ?_|refine Zoj rfl ?_|refine Zok rfl ?_|refine Zol rfl ?_|refine Zom rfl (by rfl) ?_|refine Zon rfl rfl ?_|refine Zoo rfl rfl rfl rfl (by rfl) (by rfl) ?_|refine Zop rfl trivial ?_|refine Zoq rfl rfl rfl ?_)
  rw [wrap64 (n := t) (by omega), w64 (n := i + 1) (by omega) (by omega), show i + 1 = (((i + 1).toNat : Nat) : Int) by omega, wrap64 (n := (i + 1).toNat) (by omega), show (t : Int) * 4294967296 = ((t * 4294967296 : Nat) : Int) by omega, wrap64 (n := t * 4294967296) (by omega),
    show ((t * 4294967296 : Nat) : Int) + ((i + 1).toNat : Nat) = ((t * 4294967296 + (i + 1).toNat : Nat) : Int) by omega, wrap64 (n := t * 4294967296 + (i + 1).toNat) (by omega)]
  exact Kr.two (.inr rfl) rfl rfl Ent.drop ⟨rfl, rfl⟩
theorem Cn.ok.b {x : Cn} (hx : x.ok) : x.w ≤ 64 ∧ x.c ≤ 4096 ∧ x.wd ≤ 1024 ∧ x.sl ≤ 4096 ∧ x.ca ≤ 64 ∧ x.ba ≤ 8 ∧ 1 ≤ x.w ∧ 1 ≤ x.c ∧ 8 ≤ x.wd ∧ 1 ≤ x.sl ∧ 1 ≤ x.ba := by
  obtain ⟨h1, h2, h3, h4, h5, h6, h7⟩ := hx
  omega
theorem refLen {x : Cn} (hx : x.ok) : Fx Tryz.prog 129 [x.v] L (fun v L' => v = .int .i64 (x.len : Int) ∧ L = L') := by
  obtain ⟨b1, b2, b3, b4, b5, b6, b7⟩ := hx.b
  have hmul : x.c * x.wd ≤ 4194304 := by have := Nat.mul_le_mul b2 b3; omega
  refine Fx.mk Tryz.func129 k129 (Nat.le_of_ble_eq_true rfl) ?_
  dsimp only [c129, envOf, Nat.reduceAdd]
  refine Cx.sq ?_
  refine Cx.rg ?_
  refine Sx.bx rfl rfl fun g => ?_
  repeat' (first|refine Zo0 rfl ?_|refine Zo1 ?_|refine Zo2 ?_|refine Zo3 ?_|refine Zo4 ?_|refine Zo5 ?_|refine Zo6 ?_|refine Zo7 ?_|refine Zo8 rfl ?_|refine Zo9 rfl ?_|refine Zoa ?_|refine Zob ?_|refine Zoc ?_|refine Zod ?_|refine Zoe ?_|refine Zof ?_|refine Zog ?_|refine Zoh ?_|refine Zoi rfl ?_|refine Zoj rfl ?_|refine Zok rfl ?_|refine Zol rfl ?_|refine Zom rfl (by rfl) ?_|refine Zon rfl rfl ?_|refine Zoo rfl rfl rfl rfl (by rfl) (by rfl) ?_|refine Zop rfl trivial ?_|refine Zoq rfl rfl rfl ?_)
  refine Sx.ca rfl (refMay_ (x.w : Int) x.c x.wd x.sl x.ca x.ba) ?_
  rintro v L' ⟨rfl, rfl⟩
  rw [decide_eq_true (show MayC (x.w : Int) x.c x.wd x.sl x.ca x.ba from hx)]
  repeat' (first|refine Zo0 rfl ?_|refine Zo1 ?_|refine Zo2 ?_|refine Zo3 ?_|refine Zo4 ?_|refine Zo5 ?_|refine Zo6 ?_|refine Zo7 ?_|refine Zo8 rfl ?_|refine Zo9 rfl ?_|refine Zoa ?_|refine Zob ?_|refine Zoc ?_|refine Zod ?_|refine Zoe ?_|refine Zof ?_|refine Zog ?_|refine Zoh ?_|refine Zoi rfl ?_|refine Zoj rfl ?_|refine Zok rfl ?_|refine Zol rfl ?_|refine Zom rfl (by rfl) ?_|refine Zon rfl rfl ?_|refine Zoo rfl rfl rfl rfl (by rfl) (by rfl) ?_|refine Zop rfl trivial ?_|refine Zoq rfl rfl rfl ?_)
  rw [show (x.c : Int) * x.wd = ((x.c * x.wd : Nat) : Int) by push_cast; rfl, w64 (n := (3 : Int) + x.w) (by omega) (by omega), w64 (n := (2 : Int) * x.sl) (by omega) (by omega), w64 (n := (3 : Int) + x.w + 2 * x.sl) (by omega) (by omega), w64 (n := (3 : Int) + x.w + 2 * x.sl + x.c) (by omega) (by omega),
    w64 (n := ((x.c * x.wd : Nat) : Int)) (by omega) (by omega), w64 (n := (3 : Int) + x.w + 2 * x.sl + x.c + ((x.c * x.wd : Nat) : Int)) (by omega) (by omega)]
  refine Kr.one (.inr rfl) rfl Ent.drop ⟨congrArg (Value.int .i64) ?_, rfl⟩
  unfold Cn.len; omega
theorem refLink {x : Cn} (hx : x.ok) (i : Nat) (hi : i < x.c) : Fx Tryz.prog 130 [x.v, .int .i64 i] L (fun v L' => v = .int .i64 ((x.link + i : Nat) : Int) ∧ L = L') := by
  obtain ⟨b1, b2, b3, b4, b5, b6, b7⟩ := hx.b
  refine Fx.mk Tryz.func130 k130 (Nat.le_of_ble_eq_true rfl) ?_
  dsimp only [c130, envOf, Nat.reduceAdd]
  refine Cx.sq ?_
  refine Cx.rg ?_
  refine Sx.bx rfl rfl fun g => ?_
  repeat' (first|refine Zo0 rfl ?_|refine Zo1 ?_|refine Zo2 ?_|refine Zo3 ?_|refine Zo4 ?_|refine Zo5 ?_|refine Zo6 ?_|refine Zo7 ?_|refine Zo8 rfl ?_|refine Zo9 rfl ?_|refine Zoa ?_|refine Zob ?_|refine Zoc ?_|refine Zod ?_|refine Zoe ?_|refine Zof ?_|refine Zog ?_|refine Zoh ?_|refine Zoi rfl ?_|refine Zoj rfl ?_|refine Zok rfl ?_|refine Zol rfl ?_|refine Zom rfl (by rfl) ?_|refine Zon rfl rfl ?_|refine Zoo rfl rfl rfl rfl (by rfl) (by rfl) ?_|refine Zop rfl trivial ?_|refine Zoq rfl rfl rfl ?_)
  rw [w64 (n := (3 : Int) + x.w) (by omega) (by omega), w64 (n := (2 : Int) * x.sl) (by omega) (by omega), w64 (n := (3 : Int) + x.w + 2 * x.sl) (by omega) (by omega)]
  refine Sx.ca rfl (refAt hx ((3 : Int) + x.w + 2 * x.sl) x.c i hi (by omega) (by omega)) ?_
  rintro v L' ⟨rfl, rfl⟩
  repeat' (first|refine Zo0 rfl ?_|refine Zo1 ?_|refine Zo2 ?_|refine Zo3 ?_|refine Zo4 ?_|refine Zo5 ?_|refine Zo6 ?_|refine Zo7 ?_|refine Zo8 rfl ?_|refine Zo9 rfl ?_|refine Zoa ?_|refine Zob ?_|refine Zoc ?_|refine Zod ?_|refine Zoe ?_|refine Zof ?_|refine Zog ?_|refine Zoh ?_|refine Zoi rfl ?_|refine Zoj rfl ?_|refine Zok rfl ?_|refine Zol rfl ?_|refine Zom rfl (by rfl) ?_|refine Zon rfl rfl ?_|refine Zoo rfl rfl rfl rfl (by rfl) (by rfl) ?_|refine Zop rfl trivial ?_|refine Zoq rfl rfl rfl ?_)
  refine Kr.one (.inr rfl) rfl Ent.drop ⟨congrArg (Value.int .i64) ?_, rfl⟩
  unfold Cn.link; omega
theorem refSlot {x : Cn} (hx : x.ok) (i : Nat) (hi : i < x.sl) : Fx Tryz.prog 71 [x.v, .int .i64 i] L (fun v L' => v = .int .i64 ((x.slot + i : Nat) : Int) ∧ L = L') := by
  obtain ⟨b1, b2, b3, b4, b5, b6, b7⟩ := hx.b
  refine Fx.mk Tryz.func71 k71 (Nat.le_of_ble_eq_true rfl) ?_
  dsimp only [c71, envOf, Nat.reduceAdd]
  refine Cx.sq ?_
  refine Cx.rg ?_
  refine Sx.bx rfl rfl fun g => ?_
  repeat' (first|refine Zo0 rfl ?_|refine Zo1 ?_|refine Zo2 ?_|refine Zo3 ?_|refine Zo4 ?_|refine Zo5 ?_|refine Zo6 ?_|refine Zo7 ?_|refine Zo8 rfl ?_|refine Zo9 rfl ?_|refine Zoa ?_|refine Zob ?_|refine Zoc ?_|refine Zod ?_|refine Zoe ?_|refine Zof ?_|refine Zog ?_|refine Zoh ?_|refine Zoi rfl ?_|refine Zoj rfl ?_|refine Zok rfl ?_|refine Zol rfl ?_|refine Zom rfl (by rfl) ?_|refine Zon rfl rfl ?_|refine Zoo rfl rfl rfl rfl (by rfl) (by rfl) ?_|refine Zop rfl trivial ?_|refine Zoq rfl rfl rfl ?_)
  rw [w64 (n := (3 : Int) + x.w) (by omega) (by omega), w64 (n := (3 : Int) + x.w + x.sl) (by omega) (by omega)]
  refine Sx.ca rfl (refAt hx ((3 : Int) + x.w + x.sl) x.sl i hi (by omega) (by omega)) ?_
  rintro v L' ⟨rfl, rfl⟩
  repeat' (first|refine Zo0 rfl ?_|refine Zo1 ?_|refine Zo2 ?_|refine Zo3 ?_|refine Zo4 ?_|refine Zo5 ?_|refine Zo6 ?_|refine Zo7 ?_|refine Zo8 rfl ?_|refine Zo9 rfl ?_|refine Zoa ?_|refine Zob ?_|refine Zoc ?_|refine Zod ?_|refine Zoe ?_|refine Zof ?_|refine Zog ?_|refine Zoh ?_|refine Zoi rfl ?_|refine Zoj rfl ?_|refine Zok rfl ?_|refine Zol rfl ?_|refine Zom rfl (by rfl) ?_|refine Zon rfl rfl ?_|refine Zoo rfl rfl rfl rfl (by rfl) (by rfl) ?_|refine Zop rfl trivial ?_|refine Zoq rfl rfl rfl ?_)
  refine Kr.one (.inr rfl) rfl Ent.drop ⟨congrArg (Value.int .i64) ?_, rfl⟩
  unfold Cn.slot; omega
theorem refPin {x : Cn} (hx : x.ok) (i : Nat) (hi : i < x.w) : Fx Tryz.prog 47 [x.v, .int .i64 i] L (fun v L' => v = .int .i64 ((3 + i : Nat) : Int) ∧ L = L') := by
  obtain ⟨b1, b2, b3, b4, b5, b6, b7⟩ := hx.b
  refine Fx.mk Tryz.func47 k47 (Nat.le_of_ble_eq_true rfl) ?_
  dsimp only [c47, envOf, Nat.reduceAdd]
  refine Cx.sq ?_
  refine Cx.rg ?_
  refine Sx.bx rfl rfl fun g => ?_
  repeat' (first|refine Zo0 rfl ?_|refine Zo1 ?_|refine Zo2 ?_|refine Zo3 ?_|refine Zo4 ?_|refine Zo5 ?_|refine Zo6 ?_|refine Zo7 ?_|refine Zo8 rfl ?_|refine Zo9 rfl ?_|refine Zoa ?_|refine Zob ?_|refine Zoc ?_|refine Zod ?_|refine Zoe ?_|refine Zof ?_|refine Zog ?_|refine Zoh ?_|refine Zoi rfl ?_|refine Zoj rfl ?_|refine Zok rfl ?_|refine Zol rfl ?_|refine Zom rfl (by rfl) ?_|refine Zon rfl rfl ?_|refine Zoo rfl rfl rfl rfl (by rfl) (by rfl) ?_|refine Zop rfl trivial ?_|refine Zoq rfl rfl rfl ?_)
  refine Sx.ca rfl (refAt hx (3 : Int) x.w i hi (by omega) (by omega)) ?_
  rintro v L' ⟨rfl, rfl⟩
  repeat' (first|refine Zo0 rfl ?_|refine Zo1 ?_|refine Zo2 ?_|refine Zo3 ?_|refine Zo4 ?_|refine Zo5 ?_|refine Zo6 ?_|refine Zo7 ?_|refine Zo8 rfl ?_|refine Zo9 rfl ?_|refine Zoa ?_|refine Zob ?_|refine Zoc ?_|refine Zod ?_|refine Zoe ?_|refine Zof ?_|refine Zog ?_|refine Zoh ?_|refine Zoi rfl ?_|refine Zoj rfl ?_|refine Zok rfl ?_|refine Zol rfl ?_|refine Zom rfl (by rfl) ?_|refine Zon rfl rfl ?_|refine Zoo rfl rfl rfl rfl (by rfl) (by rfl) ?_|refine Zop rfl trivial ?_|refine Zoq rfl rfl rfl ?_)
  refine Kr.one (.inr rfl) rfl Ent.drop ⟨congrArg (Value.int .i64) ?_, rfl⟩
  omega
set_option maxHeartbeats 2000000 in
theorem refFill {sb mp : Nat} {k : Sk} {m : Mm} (hk : k.ok m.ws.length) [t : Take L (some ⟨mp, 0, none⟩) (RMemO m) F] [s : Take F (some ⟨sb, 0, none⟩) (RSkO mp k) G] :
    Fx Tryz.prog 131 [.pointer (some ⟨sb, 0, none⟩)] L (fun v L' => L' = pt (some ⟨mp, 0, none⟩) (RMemO (fillM k m)) :: F) := by
  have hfill := rUp_fill hk rfl
  have hk0 := hk
  obtain ⟨k1, k2, k3, k4, k5, k6⟩ := hk
  refine Fx.mk Tryz.func131 k131 (Nat.le_of_ble_eq_true rfl) ?_
  dsimp only [c131, envOf, Nat.reduceAdd]
  refine Cx.ent (Ent.trans (Ent.of t.out) (Ent.cons (Ent.of s.out))) ?_
  refine Cx.openp (a := some ⟨mp, 0, none⟩) rfl ?_
  rintro ⟨r, c⟩
  simp only [rmemL, List.cons_append, List.nil_append]
  refine Cx.liftp fun hm => ?_
  refine Cx.rowkey (a := r) fun hx0 hn0 _ hk1 => ?_
  obtain ⟨rg, rfl⟩ : ∃ g, r = some ⟨g, 0, none⟩ := by
    rcases hk1 with h | h
    · omega
    · exact h
  repeat' (first|refine Zo0 rfl ?_|refine Zo1 ?_|refine Zo2 ?_|refine Zo3 ?_|refine Zo4 ?_|refine Zo5 ?_|refine Zo6 ?_|refine Zo7 ?_|refine Zo8 rfl ?_|refine Zo9 rfl ?_|refine Zoa ?_|refine Zob ?_|refine Zoc ?_|refine Zod ?_|refine Zoe ?_|refine Zof ?_|refine Zog ?_|refine Zoh ?_|refine Zoi rfl ?_|refine Zoj rfl ?_|refine Zok rfl ?_|refine Zol rfl ?_|refine Zom rfl (by rfl) ?_|refine Zon rfl rfl ?_|refine Zoo rfl rfl rfl rfl (by rfl) (by rfl) ?_|refine Zop rfl trivial ?_|refine Zoq rfl rfl rfl ?_)
  refine Sx.ca rfl (refPutHead 0 0 (by omega) (by omega) (by omega)) ?_
  rintro v L' ⟨rfl, rfl⟩
  repeat' (first|refine Zo0 rfl ?_|refine Zo1 ?_|refine Zo2 ?_|refine Zo3 ?_|refine Zo4 ?_|refine Zo5 ?_|refine Zo6 ?_|refine Zo7 ?_|refine Zo8 rfl ?_|refine Zo9 rfl ?_|refine Zoa ?_|refine Zob ?_|refine Zoc ?_|refine Zod ?_|refine Zoe ?_|refine Zof ?_|refine Zog ?_|refine Zoh ?_|refine Zoi rfl ?_|refine Zoj rfl ?_|refine Zok rfl ?_|refine Zol rfl ?_|refine Zom rfl (by rfl) ?_|refine Zon rfl rfl ?_|refine Zoo rfl rfl rfl rfl (by rfl) (by rfl) ?_|refine Zop rfl trivial ?_|refine Zoq rfl rfl rfl ?_)
  refine Cx.ordc rfl (by kernel_rfl) ?_
  repeat' (first|refine Ze0 0 rfl (by kernel_rfl) ?_|refine Ze1 (by kernel_rfl) rfl rfl ?_|refine Ze2 ?_|refine Ze3 ?_|refine Ze4 (by kernel_rfl) rfl rfl (by rfl) ?_|refine Ze5 (by kernel_rfl) rfl rfl rfl ?_|refine Ev.pvH (by kernel_rfl) rfl rfl ⟨by omega, by omega⟩ ?_|refine Ev.pvH (by kernel_rfl) rfl rfl (by decide) ?_|fail)
  refine Ev.strH (b := rg) (by kernel_rfl) rfl rfl rfl rfl rfl (by rw [length_us]; simp; omega) rfl (Pres.deps (by kernel_rfl)) ?_
  repeat' (first|refine Ze0 0 rfl (by kernel_rfl) ?_|refine Ze1 (by kernel_rfl) rfl rfl ?_|refine Ze2 ?_|refine Ze3 ?_|refine Ze4 (by kernel_rfl) rfl rfl (by rfl) ?_|refine Ze5 (by kernel_rfl) rfl rfl rfl ?_|refine Ev.pvH (by kernel_rfl) rfl rfl ⟨by omega, by omega⟩ ?_|refine Ev.pvH (by kernel_rfl) rfl rfl (by decide) ?_|fail)
  repeat' (first|refine Zo0 rfl ?_|refine Zo1 ?_|refine Zo2 ?_|refine Zo3 ?_|refine Zo4 ?_|refine Zo5 ?_|refine Zo6 ?_|refine Zo7 ?_|refine Zo8 rfl ?_|refine Zo9 rfl ?_|refine Zoa ?_|refine Zob ?_|refine Zoc ?_|refine Zod ?_|refine Zoe ?_|refine Zof ?_|refine Zog ?_|refine Zoh ?_|refine Zoi rfl ?_|refine Zoj rfl ?_|refine Zok rfl ?_|refine Zol rfl ?_|refine Zom rfl (by rfl) ?_|refine Zon rfl rfl ?_|refine Zoo rfl rfl rfl rfl (by rfl) (by rfl) ?_|refine Zop rfl trivial ?_|refine Zoq rfl rfl rfl ?_)
  have hset : (us m.ws).set (0 + (k.head : Int).toNat * 1) (wd (0 * 4294967296 + (0 + 1 : Int).toNat)) = us (rUp k m 0).ws := by
    rw [show 0 + (k.head : Int).toNat * 1 = k.head by simp]
    exact us_set m.ws k.head 1
  refine Cx.lp (α := {i : Nat // i ≤ k.n}) (fun i => [(0, .pointer (some ⟨sb, 0, none⟩)), (4, .int .i64 i.1)])
    (fun i => pt (some ⟨rg, 0, none⟩) (Row 103 1 m.ws.length c (us (rUp k m i.1).ws)) :: pt (some ⟨mp, 0, none⟩) (Blk 108 [.slice (some ⟨rg, 0, none⟩) m.ws.length c, .int .i64 (IntKind.i64.wrap (m.n : Int))]) :: pt (some ⟨sb, 0, none⟩) (RSkO mp k) :: G)
    (fun i => k.n - i.1) ⟨0, by omega⟩ (sub.cons rfl (sub.cons rfl sub.nil)) (by rw [← hset]; exact Ent.refl _) ?_
  rintro ⟨i, hi⟩
  dsimp only
  have hil := rUp_len k m i
  have hul : (us (rUp k m i).ws).length = m.ws.length := by rw [length_us, hil]
  repeat' (first|refine Zo0 rfl ?_|refine Zo1 ?_|refine Zo2 ?_|refine Zo3 ?_|refine Zo4 ?_|refine Zo5 ?_|refine Zo6 ?_|refine Zo7 ?_|refine Zo8 rfl ?_|refine Zo9 rfl ?_|refine Zoa ?_|refine Zob ?_|refine Zoc ?_|refine Zod ?_|refine Zoe ?_|refine Zof ?_|refine Zog ?_|refine Zoh ?_|refine Zoi rfl ?_|refine Zoj rfl ?_|refine Zok rfl ?_|refine Zol rfl ?_|refine Zom rfl (by rfl) ?_|refine Zon rfl rfl ?_|refine Zoo rfl rfl rfl rfl (by rfl) (by rfl) ?_|refine Zop rfl trivial ?_|refine Zoq rfl rfl rfl ?_)
  refine Cx.ifp rfl (fun h => ?_) (fun h => ?_)
  · repeat' (first|refine Zo0 rfl ?_|refine Zo1 ?_|refine Zo2 ?_|refine Zo3 ?_|refine Zo4 ?_|refine Zo5 ?_|refine Zo6 ?_|refine Zo7 ?_|refine Zo8 rfl ?_|refine Zo9 rfl ?_|refine Zoa ?_|refine Zob ?_|refine Zoc ?_|refine Zod ?_|refine Zoe ?_|refine Zof ?_|refine Zog ?_|refine Zoh ?_|refine Zoi rfl ?_|refine Zoj rfl ?_|refine Zok rfl ?_|refine Zol rfl ?_|refine Zom rfl (by rfl) ?_|refine Zon rfl rfl ?_|refine Zoo rfl rfl rfl rfl (by rfl) (by rfl) ?_|refine Zop rfl trivial ?_|refine Zoq rfl rfl rfl ?_)
    refine Cx.ordc rfl (by kernel_rfl) ?_
    repeat' (first|refine Ze0 0 rfl (by kernel_rfl) ?_|refine Ze1 (by kernel_rfl) rfl rfl ?_|refine Ze2 ?_|refine Ze3 ?_|refine Ze4 (by kernel_rfl) rfl rfl (by rfl) ?_|refine Ze5 (by kernel_rfl) rfl rfl rfl ?_|refine Ev.pvH (by kernel_rfl) rfl rfl ⟨by omega, by omega⟩ ?_|refine Ev.pvH (by kernel_rfl) rfl rfl (by decide) ?_|fail)
    rw [w64 (n := (k.links : Int) + i) (by omega) (by omega), w64 (n := (i : Int) + 2) (by omega) (by omega), w64 (n := (k.n : Int) + 1) (by omega) (by omega)]
    refine Ev.pvH (by kernel_rfl) rfl rfl (by omega) ?_
    have hmlt : (i + 2) % (k.n + 1) < k.n + 1 := Nat.mod_lt _ (by omega)
    rw [show (i : Int) + 2 = ((i + 2 : Nat) : Int) by omega, show (k.n : Int) + 1 = ((k.n + 1 : Nat) : Int) by omega, natTmod]
    repeat' (first|refine Ze0 0 rfl (by kernel_rfl) ?_|refine Ze1 (by kernel_rfl) rfl rfl ?_|refine Ze2 ?_|refine Ze3 ?_|refine Ze4 (by kernel_rfl) rfl rfl (by rfl) ?_|refine Ze5 (by kernel_rfl) rfl rfl rfl ?_|refine Ev.pvH (by kernel_rfl) rfl rfl ⟨by omega, by omega⟩ ?_|refine Ev.pvH (by kernel_rfl) rfl rfl (by decide) ?_|fail)
    rw [wrap64 (n := (i + 2) % (k.n + 1)) (by omega)]
    refine Ev.strH (b := rg) (by kernel_rfl) rfl rfl rfl rfl rfl (by rw [hul]; simp; omega) rfl (Pres.deps (by kernel_rfl)) ?_
    repeat' (first|refine Ze0 0 rfl (by kernel_rfl) ?_|refine Ze1 (by kernel_rfl) rfl rfl ?_|refine Ze2 ?_|refine Ze3 ?_|refine Ze4 (by kernel_rfl) rfl rfl (by rfl) ?_|refine Ze5 (by kernel_rfl) rfl rfl rfl ?_|refine Ev.pvH (by kernel_rfl) rfl rfl ⟨by omega, by omega⟩ ?_|refine Ev.pvH (by kernel_rfl) rfl rfl (by decide) ?_|fail)
    rw [show (us (rUp k m i).ws).set (0 + ((k.links : Int) + i).toNat * 1) (.int .u64 (((i + 2) % (k.n + 1) : Nat) : Int)) = us ((rUp k m i).lay (k.links + i) ((i + 2) % (k.n + 1))).ws by
      rw [show 0 + ((k.links : Int) + i).toNat * 1 = k.links + i by omega]
      exact us_set _ _ _]
    have hul2 : (us ((rUp k m i).lay (k.links + i) ((i + 2) % (k.n + 1))).ws).length = m.ws.length := by rw [length_us, Mm.len_lay, hil]
    repeat' (first|refine Zo0 rfl ?_|refine Zo1 ?_|refine Zo2 ?_|refine Zo3 ?_|refine Zo4 ?_|refine Zo5 ?_|refine Zo6 ?_|refine Zo7 ?_|refine Zo8 rfl ?_|refine Zo9 rfl ?_|refine Zoa ?_|refine Zob ?_|refine Zoc ?_|refine Zod ?_|refine Zoe ?_|refine Zof ?_|refine Zog ?_|refine Zoh ?_|refine Zoi rfl ?_|refine Zoj rfl ?_|refine Zok rfl ?_|refine Zol rfl ?_|refine Zom rfl (by rfl) ?_|refine Zon rfl rfl ?_|refine Zoo rfl rfl rfl rfl (by rfl) (by rfl) ?_|refine Zop rfl trivial ?_|refine Zoq rfl rfl rfl ?_)
    rw [w64 (n := (k.n : Int) - 1) (by omega) (by omega)]
    refine Cx.ifp rfl (fun h2 => ?_) (fun h2 => ?_)
    · have e : rUp k m (i + 1) = ((rUp k m i).lay (k.links + i) ((i + 2) % (k.n + 1))).lay (k.links + i) 0 := by rw [rUp.eq_def]; simp only; rw [if_pos (by omega)]
      repeat' (first|refine Zo0 rfl ?_|refine Zo1 ?_|refine Zo2 ?_|refine Zo3 ?_|refine Zo4 ?_|refine Zo5 ?_|refine Zo6 ?_|refine Zo7 ?_|refine Zo8 rfl ?_|refine Zo9 rfl ?_|refine Zoa ?_|refine Zob ?_|refine Zoc ?_|refine Zod ?_|refine Zoe ?_|refine Zof ?_|refine Zog ?_|refine Zoh ?_|refine Zoi rfl ?_|refine Zoj rfl ?_|refine Zok rfl ?_|refine Zol rfl ?_|refine Zom rfl (by rfl) ?_|refine Zon rfl rfl ?_|refine Zoo rfl rfl rfl rfl (by rfl) (by rfl) ?_|refine Zop rfl trivial ?_|refine Zoq rfl rfl rfl ?_)
      refine Cx.orde rfl (by kernel_rfl) ?_
      repeat' (first|refine Ze0 0 rfl (by kernel_rfl) ?_|refine Ze1 (by kernel_rfl) rfl rfl ?_|refine Ze2 ?_|refine Ze3 ?_|refine Ze4 (by kernel_rfl) rfl rfl (by rfl) ?_|refine Ze5 (by kernel_rfl) rfl rfl rfl ?_|refine Ev.pvH (by kernel_rfl) rfl rfl ⟨by omega, by omega⟩ ?_|refine Ev.pvH (by kernel_rfl) rfl rfl (by decide) ?_|fail)
      rw [w64 (n := (k.links : Int) + i) (by omega) (by omega)]
      repeat' (first|refine Ze0 0 rfl (by kernel_rfl) ?_|refine Ze1 (by kernel_rfl) rfl rfl ?_|refine Ze2 ?_|refine Ze3 ?_|refine Ze4 (by kernel_rfl) rfl rfl (by rfl) ?_|refine Ze5 (by kernel_rfl) rfl rfl rfl ?_|refine Ev.pvH (by kernel_rfl) rfl rfl ⟨by omega, by omega⟩ ?_|refine Ev.pvH (by kernel_rfl) rfl rfl (by decide) ?_|fail)
      refine Ev.strH (b := rg) (by kernel_rfl) rfl rfl rfl rfl rfl (by rw [hul2]; simp; omega) rfl (Pres.deps (by kernel_rfl)) ?_
      repeat' (first|refine Ze0 0 rfl (by kernel_rfl) ?_|refine Ze1 (by kernel_rfl) rfl rfl ?_|refine Ze2 ?_|refine Ze3 ?_|refine Ze4 (by kernel_rfl) rfl rfl (by rfl) ?_|refine Ze5 (by kernel_rfl) rfl rfl rfl ?_|refine Ev.pvH (by kernel_rfl) rfl rfl ⟨by omega, by omega⟩ ?_|refine Ev.pvH (by kernel_rfl) rfl rfl (by decide) ?_|fail)
      rw [show (us ((rUp k m i).lay (k.links + i) ((i + 2) % (k.n + 1))).ws).set (0 + ((k.links : Int) + i).toNat * 1) (.int .u64 0) = us (rUp k m (i + 1)).ws by
        rw [show 0 + ((k.links : Int) + i).toNat * 1 = k.links + i by omega, e]
        exact us_set _ _ 0]
      repeat' (first|refine Zo0 rfl ?_|refine Zo1 ?_|refine Zo2 ?_|refine Zo3 ?_|refine Zo4 ?_|refine Zo5 ?_|refine Zo6 ?_|refine Zo7 ?_|refine Zo8 rfl ?_|refine Zo9 rfl ?_|refine Zoa ?_|refine Zob ?_|refine Zoc ?_|refine Zod ?_|refine Zoe ?_|refine Zof ?_|refine Zog ?_|refine Zoh ?_|refine Zoi rfl ?_|refine Zoj rfl ?_|refine Zok rfl ?_|refine Zol rfl ?_|refine Zom rfl (by rfl) ?_|refine Zon rfl rfl ?_|refine Zoo rfl rfl rfl rfl (by rfl) (by rfl) ?_|refine Zop rfl trivial ?_|refine Zoq rfl rfl rfl ?_)
      rw [w64 (n := (i : Int) + 1) (by omega) (by omega)]
      exact Klp.nm ⟨i + 1, by omega⟩ (sub.cons rfl (sub.cons rfl sub.nil)) (Ent.refl _) (by dsimp only; omega)
    · have e : rUp k m (i + 1) = (rUp k m i).lay (k.links + i) ((i + 2) % (k.n + 1)) := by rw [rUp.eq_def]; simp only; rw [if_neg (by omega)]
      rw [← e]
      repeat' (first|refine Zo0 rfl ?_|refine Zo1 ?_|refine Zo2 ?_|refine Zo3 ?_|refine Zo4 ?_|refine Zo5 ?_|refine Zo6 ?_|refine Zo7 ?_|refine Zo8 rfl ?_|refine Zo9 rfl ?_|refine Zoa ?_|refine Zob ?_|refine Zoc ?_|refine Zod ?_|refine Zoe ?_|refine Zof ?_|refine Zog ?_|refine Zoh ?_|refine Zoi rfl ?_|refine Zoj rfl ?_|refine Zok rfl ?_|refine Zol rfl ?_|refine Zom rfl (by rfl) ?_|refine Zon rfl rfl ?_|refine Zoo rfl rfl rfl rfl (by rfl) (by rfl) ?_|refine Zop rfl trivial ?_|refine Zoq rfl rfl rfl ?_)
      rw [w64 (n := (i : Int) + 1) (by omega) (by omega)]
      exact Klp.nm ⟨i + 1, by omega⟩ (sub.cons rfl (sub.cons rfl sub.nil)) (Ent.refl _) (by dsimp only; omega)
  · have hin : i = k.n := by omega
    subst hin
    repeat' (first|refine Zo0 rfl ?_|refine Zo1 ?_|refine Zo2 ?_|refine Zo3 ?_|refine Zo4 ?_|refine Zo5 ?_|refine Zo6 ?_|refine Zo7 ?_|refine Zo8 rfl ?_|refine Zo9 rfl ?_|refine Zoa ?_|refine Zob ?_|refine Zoc ?_|refine Zod ?_|refine Zoe ?_|refine Zof ?_|refine Zog ?_|refine Zoh ?_|refine Zoi rfl ?_|refine Zoj rfl ?_|refine Zok rfl ?_|refine Zol rfl ?_|refine Zom rfl (by rfl) ?_|refine Zon rfl rfl ?_|refine Zoo rfl rfl rfl rfl (by rfl) (by rfl) ?_|refine Zop rfl trivial ?_|refine Zoq rfl rfl rfl ?_)
    refine Kr.none (.inl rfl) ?_ rfl
    have hl2 : (fillM k m).ws.length = m.ws.length := fillM_len k m
    refine Ent.trans ?_ (Ent.cons (Ent.of s.back))
    refine RMemO.close (a := some ⟨mp, 0, none⟩) (r := some ⟨rg, 0, none⟩) (fillM k m) ⟨fillM_ok hm.1 k2, by rw [hl2]; exact hm.2⟩ ?_ hl2.symm ?_
    · rw [fillM_n]
    · rw [hfill]
end
end Go.Proofs.YtnbkjcmmjgkdaaaGreat
