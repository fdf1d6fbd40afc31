/-
  Chains: New, Fill, Pool.
-/
import Derived.Test.YtnbkjcmmjgkdaaaGreatMaI
set_option linter.unusedVariables false
set_option linter.unusedSimpArgs false
namespace Go.Proofs.YtnbkjcmmjgkdaaaGreat
open Go
attribute [local irreducible] Sx Cx Rx Fx Krg Ksq Kbl Klp Kr

/-- A configuration in natural numbers. -/
structure Cn where
  w : Nat
  c : Nat
  wd : Nat
  sl : Nat
  ca : Nat
  ba : Nat
abbrev Cn.v (x : Cn) : Value := cfg x.w x.c x.wd x.sl x.ca x.ba
abbrev Cn.l (x : Cn) : List Value := [.int .i64 x.w, .int .i64 x.c, .int .i64 x.wd, .int .i64 x.sl, .int .i64 x.ca, .int .i64 x.ba]
def Cn.ok (x : Cn) : Prop := MayC x.w x.c x.wd x.sl x.ca x.ba
def Cn.len (x : Cn) : Nat := 3 + x.w + x.sl + x.sl + x.c + x.c * x.wd
def Cn.link (x : Cn) : Nat := 3 + x.w + x.sl + x.sl
def Cn.slot (x : Cn) : Nat := 3 + x.w + x.sl
def Cn.pool (x : Cn) : Sk := ⟨0, x.link, x.c⟩
def Cn.spare (x : Cn) : Sk := ⟨1, x.slot, x.sl⟩
theorem Cn.lenC (x : Cn) : Proofs.YtnbkjcmmjgkdaaaGreat.lenC x.w x.c x.wd x.sl = (x.len : Int) := by unfold Proofs.YtnbkjcmmjgkdaaaGreat.lenC Cn.len; push_cast; rfl
theorem Cn.ok.len_le {x : Cn} (h : x.ok) : x.len ≤ 8388608 := by
  have hm := MayC.mul h
  obtain ⟨h1, h2, h3, h4, h5, h6, h7⟩ := h
  have : ((x.c * x.wd : Nat) : Int) ≤ 4194304 := by push_cast; exact hm.2
  unfold Cn.len; omega
theorem Cn.ok.pool {x : Cn} (h : x.ok) {n : Nat} (hn : x.len ≤ n) (hn2 : n ≤ 8388608) : x.pool.ok n := by
  obtain ⟨h1, h2, h3, h4, h5, h6, h7⟩ := h
  unfold Cn.len at hn
  refine ⟨?_, ?_, ?_, ?_, ?_, hn2⟩ <;> simp only [Cn.pool, Cn.link] <;> omega
theorem Cn.ok.spare {x : Cn} (h : x.ok) {n : Nat} (hn : x.len ≤ n) (hn2 : n ≤ 8388608) : x.spare.ok n := by
  obtain ⟨h1, h2, h3, h4, h5, h6, h7⟩ := h
  unfold Cn.len at hn
  refine ⟨?_, ?_, ?_, ?_, ?_, hn2⟩ <;> simp only [Cn.spare, Cn.slot] <;> omega
section
variable {L F G : St}
theorem layLinkN {x : Cn} (h : x.ok) (n : Nat) (hn : n < x.c) : Fx Tryz.prog 126 [x.v, .int .i64 n] L (fun v L' => v = .int .i64 ((x.link + n : Nat) : Int) ∧ L = L') := by
  refine (layLink _ _ _ _ _ _ h (n : Int)).mono ?_
  rintro v L' ⟨rfl, rfl⟩
  refine ⟨congrArg (Value.int .i64) ?_, rfl⟩
  unfold cellC
  rw [if_pos ⟨by omega, by simp only [manyC]; omega⟩]
  simp only [startC, Cn.link]
  push_cast; rfl
abbrev ChO (mp sb : Nat) (x : Cn) : Option Addr → As := Blk 198 (.pointer (some ⟨mp, 0, none⟩) :: x.l ++ [.pointer (some ⟨sb, 0, none⟩)])
set_option maxHeartbeats 1000000 in
theorem chainNew {mp : Nat} {m : Mm} {x : Cn} (hx : x.ok) (hl : x.len ≤ m.ws.length) [t : Take L (some ⟨mp, 0, none⟩) (MemO m) F] :
    Fx Tryz.prog 66 [.pointer (some ⟨mp, 0, none⟩), x.v] L (fun v L' => ∃ g sb, v = .tuple #[.pointer (some ⟨g, 0, none⟩), .int .i64 0] ∧ L' = pt (some ⟨g, 0, none⟩) (ChO mp sb x) :: pt (some ⟨sb, 0, none⟩) (SkO mp x.pool) :: L) := by
  refine Fx.mk Tryz.func66 k66 (Nat.le_of_ble_eq_true rfl) ?_
  dsimp only [c66, envOf, Nat.reduceAdd]
  refine Cx.pure (memKey (b := mp) (m := m)) fun hm => ?_
  refine Cx.sq ?_
  refine Cx.rg ?_
  refine Sx.bx rfl rfl fun g => ?_
  repeat' (first|refine Zo0 rfl ?_|refine Zo1 ?_|refine Zo2 ?_|refine Zo3 ?_|refine Zo4 ?_|refine Zo5 ?_|refine Zo6 ?_|refine Zo7 ?_|refine Zo8 rfl ?_|refine Zo9 rfl ?_|refine Zoa ?_|refine Zob ?_|refine Zoc ?_|refine Zod ?_|refine Zoe ?_|refine Zof ?_|refine Zog ?_|refine Zoh ?_|refine Zoi rfl ?_|refine Zoj rfl ?_|refine Zok rfl ?_|refine Zol rfl ?_|refine Zom rfl (by rfl) ?_|refine Zon rfl rfl ?_|refine Zoo rfl rfl rfl rfl (by rfl) (by rfl) ?_|refine Zop rfl trivial ?_|refine Zoq rfl rfl rfl ?_)
  refine Cx.ordc rfl (by kernel_rfl) ?_
  repeat' (first|refine Ze0 0 rfl (by kernel_rfl) ?_|refine Ze1 (by kernel_rfl) rfl rfl ?_|refine Ze2 ?_|refine Ze3 ?_|refine Ze4 (by kernel_rfl) rfl rfl (by rfl) ?_|refine Ze5 (by kernel_rfl) rfl rfl rfl ?_|refine Ev.pvH (by kernel_rfl) rfl rfl ⟨by omega, by omega⟩ ?_|refine Ev.pvH (by kernel_rfl) rfl rfl (by decide) ?_|fail)
  refine Ev.cakH (by kernel_rfl) rfl rfl (may_ (x.w : Int) x.c x.wd x.sl x.ca x.ba) ?_
  rw [decide_eq_true (show MayC (x.w : Int) x.c x.wd x.sl x.ca x.ba from hx)]
  repeat' (first|refine Ze0 0 rfl (by kernel_rfl) ?_|refine Ze1 (by kernel_rfl) rfl rfl ?_|refine Ze2 ?_|refine Ze3 ?_|refine Ze4 (by kernel_rfl) rfl rfl (by rfl) ?_|refine Ze5 (by kernel_rfl) rfl rfl rfl ?_|refine Ev.pvH (by kernel_rfl) rfl rfl ⟨by omega, by omega⟩ ?_|refine Ev.pvH (by kernel_rfl) rfl rfl (by decide) ?_|fail)
  refine Ev.cakH (by kernel_rfl) rfl rfl (cellsLen (b := mp) (m := m)) ?_
  repeat' (first|refine Ze0 0 rfl (by kernel_rfl) ?_|refine Ze1 (by kernel_rfl) rfl rfl ?_|refine Ze2 ?_|refine Ze3 ?_|refine Ze4 (by kernel_rfl) rfl rfl (by rfl) ?_|refine Ze5 (by kernel_rfl) rfl rfl rfl ?_|refine Ev.pvH (by kernel_rfl) rfl rfl ⟨by omega, by omega⟩ ?_|refine Ev.pvH (by kernel_rfl) rfl rfl (by decide) ?_|fail)
  refine Ev.cakH (by kernel_rfl) rfl rfl (layLen (x.w : Int) x.c x.wd x.sl x.ca x.ba hx) ?_
  rw [x.lenC]
  repeat' (first|refine Ze0 0 rfl (by kernel_rfl) ?_|refine Ze1 (by kernel_rfl) rfl rfl ?_|refine Ze2 ?_|refine Ze3 ?_|refine Ze4 (by kernel_rfl) rfl rfl (by rfl) ?_|refine Ze5 (by kernel_rfl) rfl rfl rfl ?_|refine Ev.pvH (by kernel_rfl) rfl rfl ⟨by omega, by omega⟩ ?_|refine Ev.pvH (by kernel_rfl) rfl rfl (by decide) ?_|fail)
  refine Cx.cno rfl (decide_eq_false (by omega)) ?_
  repeat' (first|refine Zo0 rfl ?_|refine Zo1 ?_|refine Zo2 ?_|refine Zo3 ?_|refine Zo4 ?_|refine Zo5 ?_|refine Zo6 ?_|refine Zo7 ?_|refine Zo8 rfl ?_|refine Zo9 rfl ?_|refine Zoa ?_|refine Zob ?_|refine Zoc ?_|refine Zod ?_|refine Zoe ?_|refine Zof ?_|refine Zog ?_|refine Zoh ?_|refine Zoi rfl ?_|refine Zoj rfl ?_|refine Zok rfl ?_|refine Zol rfl ?_|refine Zom rfl (by rfl) ?_|refine Zon rfl rfl ?_|refine Zoo rfl rfl rfl rfl (by rfl) (by rfl) ?_|refine Zop rfl trivial ?_|refine Zoq rfl rfl rfl ?_)
  refine Cx.ordc rfl (by kernel_rfl) ?_
  repeat' (first|refine Ze0 0 rfl (by kernel_rfl) ?_|refine Ze1 (by kernel_rfl) rfl rfl ?_|refine Ze2 ?_|refine Ze3 ?_|refine Ze4 (by kernel_rfl) rfl rfl (by rfl) ?_|refine Ze5 (by kernel_rfl) rfl rfl rfl ?_|refine Ev.pvH (by kernel_rfl) rfl rfl ⟨by omega, by omega⟩ ?_|refine Ev.pvH (by kernel_rfl) rfl rfl (by decide) ?_|fail)
  refine Ev.cakH (by kernel_rfl) rfl rfl (layLinkN hx 0 (by have := hx.2.1; omega)) ?_
  repeat' (first|refine Ze0 0 rfl (by kernel_rfl) ?_|refine Ze1 (by kernel_rfl) rfl rfl ?_|refine Ze2 ?_|refine Ze3 ?_|refine Ze4 (by kernel_rfl) rfl rfl (by rfl) ?_|refine Ze5 (by kernel_rfl) rfl rfl rfl ?_|refine Ev.pvH (by kernel_rfl) rfl rfl ⟨by omega, by omega⟩ ?_|refine Ev.pvH (by kernel_rfl) rfl rfl (by decide) ?_|fail)
  refine Ev.caH (by kernel_rfl) rfl rfl (stackNew (mp := mp) (m := m) (k := x.pool) (hx.pool hl hm.2)) (Pres.deps (by kernel_rfl)) ?_
  rintro v L' ⟨sb, rfl, rfl⟩
  repeat' (first|refine Ze0 0 rfl (by kernel_rfl) ?_|refine Ze1 (by kernel_rfl) rfl rfl ?_|refine Ze2 ?_|refine Ze3 ?_|refine Ze4 (by kernel_rfl) rfl rfl (by rfl) ?_|refine Ze5 (by kernel_rfl) rfl rfl rfl ?_|refine Ev.pvH (by kernel_rfl) rfl rfl ⟨by omega, by omega⟩ ?_|refine Ev.pvH (by kernel_rfl) rfl rfl (by decide) ?_|fail)
  repeat' (first|refine Zo0 rfl ?_|refine Zo1 ?_|refine Zo2 ?_|refine Zo3 ?_|refine Zo4 ?_|refine Zo5 ?_|refine Zo6 ?_|refine Zo7 ?_|refine Zo8 rfl ?_|refine Zo9 rfl ?_|refine Zoa ?_|refine Zob ?_|refine Zoc ?_|refine Zod ?_|refine Zoe ?_|refine Zof ?_|refine Zog ?_|refine Zoh ?_|refine Zoi rfl ?_|refine Zoj rfl ?_|refine Zok rfl ?_|refine Zol rfl ?_|refine Zom rfl (by rfl) ?_|refine Zon rfl rfl ?_|refine Zoo rfl rfl rfl rfl (by rfl) (by rfl) ?_|refine Zop rfl trivial ?_|refine Zoq rfl rfl rfl ?_)
  refine Sx.bx rfl rfl fun q => ?_
  repeat' (first|refine Zo0 rfl ?_|refine Zo1 ?_|refine Zo2 ?_|refine Zo3 ?_|refine Zo4 ?_|refine Zo5 ?_|refine Zo6 ?_|refine Zo7 ?_|refine Zo8 rfl ?_|refine Zo9 rfl ?_|refine Zoa ?_|refine Zob ?_|refine Zoc ?_|refine Zod ?_|refine Zoe ?_|refine Zof ?_|refine Zog ?_|refine Zoh ?_|refine Zoi rfl ?_|refine Zoj rfl ?_|refine Zok rfl ?_|refine Zol rfl ?_|refine Zom rfl (by rfl) ?_|refine Zon rfl rfl ?_|refine Zoo rfl rfl rfl rfl (by rfl) (by rfl) ?_|refine Zop rfl trivial ?_|refine Zoq rfl rfl rfl ?_)
  exact Kr.two (.inr rfl) rfl rfl (Ent.cons (Ent.cons Ent.drop)) ⟨q, sb, rfl, rfl⟩
/-- No chains: a configuration that may not be. -/
theorem chainNewBad {mp : Nat} (w c wd sl ca ba : Int) (hx : ¬ MayC w c wd sl ca ba) :
    Fx Tryz.prog 66 [.pointer (some ⟨mp, 0, none⟩), cfg w c wd sl ca ba] L (fun v L' => v = .tuple #[.pointer none, .int .i64 1] ∧ L = L') := by
  refine Fx.mk Tryz.func66 k66 (Nat.le_of_ble_eq_true rfl) ?_
  dsimp only [c66, envOf, Nat.reduceAdd]
  refine Cx.sq ?_
  refine Cx.rg ?_
  refine Sx.bx rfl rfl fun g => ?_
  repeat' (first|refine Zo0 rfl ?_|refine Zo1 ?_|refine Zo2 ?_|refine Zo3 ?_|refine Zo4 ?_|refine Zo5 ?_|refine Zo6 ?_|refine Zo7 ?_|refine Zo8 rfl ?_|refine Zo9 rfl ?_|refine Zoa ?_|refine Zob ?_|refine Zoc ?_|refine Zod ?_|refine Zoe ?_|refine Zof ?_|refine Zog ?_|refine Zoh ?_|refine Zoi rfl ?_|refine Zoj rfl ?_|refine Zok rfl ?_|refine Zol rfl ?_|refine Zom rfl (by rfl) ?_|refine Zon rfl rfl ?_|refine Zoo rfl rfl rfl rfl (by rfl) (by rfl) ?_|refine Zop rfl trivial ?_|refine Zoq rfl rfl rfl ?_)
  refine Cx.ordc rfl (by kernel_rfl) ?_
  repeat' (first|refine Ze0 0 rfl (by kernel_rfl) ?_|refine Ze1 (by kernel_rfl) rfl rfl ?_|refine Ze2 ?_|refine Ze3 ?_|refine Ze4 (by kernel_rfl) rfl rfl (by rfl) ?_|refine Ze5 (by kernel_rfl) rfl rfl rfl ?_|refine Ev.pvH (by kernel_rfl) rfl rfl ⟨by omega, by omega⟩ ?_|refine Ev.pvH (by kernel_rfl) rfl rfl (by decide) ?_|fail)
  refine Ev.cakH (by kernel_rfl) rfl rfl (may_ w c wd sl ca ba) ?_
  rw [decide_eq_false hx]
  repeat' (first|refine Ze0 0 rfl (by kernel_rfl) ?_|refine Ze1 (by kernel_rfl) rfl rfl ?_|refine Ze2 ?_|refine Ze3 ?_|refine Ze4 (by kernel_rfl) rfl rfl (by rfl) ?_|refine Ze5 (by kernel_rfl) rfl rfl rfl ?_|refine Ev.pvH (by kernel_rfl) rfl rfl ⟨by omega, by omega⟩ ?_|refine Ev.pvH (by kernel_rfl) rfl rfl (by decide) ?_|fail)
  repeat' (first|refine Zo0 rfl ?_|refine Zo1 ?_|refine Zo2 ?_|refine Zo3 ?_|refine Zo4 ?_|refine Zo5 ?_|refine Zo6 ?_|refine Zo7 ?_|refine Zo8 rfl ?_|refine Zo9 rfl ?_|refine Zoa ?_|refine Zob ?_|refine Zoc ?_|refine Zod ?_|refine Zoe ?_|refine Zof ?_|refine Zog ?_|refine Zoh ?_|refine Zoi rfl ?_|refine Zoj rfl ?_|refine Zok rfl ?_|refine Zol rfl ?_|refine Zom rfl (by rfl) ?_|refine Zon rfl rfl ?_|refine Zoo rfl rfl rfl rfl (by rfl) (by rfl) ?_|refine Zop rfl trivial ?_|refine Zoq rfl rfl rfl ?_)
  exact Kr.two (.inr rfl) rfl rfl Ent.drop ⟨rfl, rfl⟩
theorem chainNewSmall {mp : Nat} {m : Mm} {x : Cn} (hx : x.ok) (hl : m.ws.length < x.len) [t : Take L (some ⟨mp, 0, none⟩) (MemO m) F] :
    Fx Tryz.prog 66 [.pointer (some ⟨mp, 0, none⟩), x.v] L (fun v L' => v = .tuple #[.pointer none, .int .i64 1] ∧ L = L') := by
  refine Fx.mk Tryz.func66 k66 (Nat.le_of_ble_eq_true rfl) ?_
  dsimp only [c66, envOf, Nat.reduceAdd]
  refine Cx.sq ?_
  refine Cx.rg ?_
  refine Sx.bx rfl rfl fun g => ?_
  repeat' (first|refine Zo0 rfl ?_|refine Zo1 ?_|refine Zo2 ?_|refine Zo3 ?_|refine Zo4 ?_|refine Zo5 ?_|refine Zo6 ?_|refine Zo7 ?_|refine Zo8 rfl ?_|refine Zo9 rfl ?_|refine Zoa ?_|refine Zob ?_|refine Zoc ?_|refine Zod ?_|refine Zoe ?_|refine Zof ?_|refine Zog ?_|refine Zoh ?_|refine Zoi rfl ?_|refine Zoj rfl ?_|refine Zok rfl ?_|refine Zol rfl ?_|refine Zom rfl (by rfl) ?_|refine Zon rfl rfl ?_|refine Zoo rfl rfl rfl rfl (by rfl) (by rfl) ?_|refine Zop rfl trivial ?_|refine Zoq rfl rfl rfl ?_)
  refine Cx.ordc rfl (by kernel_rfl) ?_
  repeat' (first|refine Ze0 0 rfl (by kernel_rfl) ?_|refine Ze1 (by kernel_rfl) rfl rfl ?_|refine Ze2 ?_|refine Ze3 ?_|refine Ze4 (by kernel_rfl) rfl rfl (by rfl) ?_|refine Ze5 (by kernel_rfl) rfl rfl rfl ?_|refine Ev.pvH (by kernel_rfl) rfl rfl ⟨by omega, by omega⟩ ?_|refine Ev.pvH (by kernel_rfl) rfl rfl (by decide) ?_|fail)
  refine Ev.cakH (by kernel_rfl) rfl rfl (may_ (x.w : Int) x.c x.wd x.sl x.ca x.ba) ?_
  rw [decide_eq_true (show MayC (x.w : Int) x.c x.wd x.sl x.ca x.ba from hx)]
  repeat' (first|refine Ze0 0 rfl (by kernel_rfl) ?_|refine Ze1 (by kernel_rfl) rfl rfl ?_|refine Ze2 ?_|refine Ze3 ?_|refine Ze4 (by kernel_rfl) rfl rfl (by rfl) ?_|refine Ze5 (by kernel_rfl) rfl rfl rfl ?_|refine Ev.pvH (by kernel_rfl) rfl rfl ⟨by omega, by omega⟩ ?_|refine Ev.pvH (by kernel_rfl) rfl rfl (by decide) ?_|fail)
  refine Ev.cakH (by kernel_rfl) rfl rfl (cellsLen (b := mp) (m := m)) ?_
  repeat' (first|refine Ze0 0 rfl (by kernel_rfl) ?_|refine Ze1 (by kernel_rfl) rfl rfl ?_|refine Ze2 ?_|refine Ze3 ?_|refine Ze4 (by kernel_rfl) rfl rfl (by rfl) ?_|refine Ze5 (by kernel_rfl) rfl rfl rfl ?_|refine Ev.pvH (by kernel_rfl) rfl rfl ⟨by omega, by omega⟩ ?_|refine Ev.pvH (by kernel_rfl) rfl rfl (by decide) ?_|fail)
  refine Ev.cakH (by kernel_rfl) rfl rfl (layLen (x.w : Int) x.c x.wd x.sl x.ca x.ba hx) ?_
  rw [x.lenC]
  repeat' (first|refine Ze0 0 rfl (by kernel_rfl) ?_|refine Ze1 (by kernel_rfl) rfl rfl ?_|refine Ze2 ?_|refine Ze3 ?_|refine Ze4 (by kernel_rfl) rfl rfl (by rfl) ?_|refine Ze5 (by kernel_rfl) rfl rfl rfl ?_|refine Ev.pvH (by kernel_rfl) rfl rfl ⟨by omega, by omega⟩ ?_|refine Ev.pvH (by kernel_rfl) rfl rfl (by decide) ?_|fail)
  refine Cx.cyes rfl (decide_eq_true (by omega)) ?_
  repeat' (first|refine Zo0 rfl ?_|refine Zo1 ?_|refine Zo2 ?_|refine Zo3 ?_|refine Zo4 ?_|refine Zo5 ?_|refine Zo6 ?_|refine Zo7 ?_|refine Zo8 rfl ?_|refine Zo9 rfl ?_|refine Zoa ?_|refine Zob ?_|refine Zoc ?_|refine Zod ?_|refine Zoe ?_|refine Zof ?_|refine Zog ?_|refine Zoh ?_|refine Zoi rfl ?_|refine Zoj rfl ?_|refine Zok rfl ?_|refine Zol rfl ?_|refine Zom rfl (by rfl) ?_|refine Zon rfl rfl ?_|refine Zoo rfl rfl rfl rfl (by rfl) (by rfl) ?_|refine Zop rfl trivial ?_|refine Zoq rfl rfl rfl ?_)
  exact Kr.two (.inr rfl) rfl rfl Ent.drop ⟨rfl, rfl⟩
theorem chainPool {g mp sb : Nat} {x : Cn} [t : Take L (some ⟨g, 0, none⟩) (ChO mp sb x) F] : Fx Tryz.prog 67 [.pointer (some ⟨g, 0, none⟩)] L (fun v L' => v = .pointer (some ⟨sb, 0, none⟩) ∧ L = L') := by
  refine Fx.mk Tryz.func67 k67 (Nat.le_of_ble_eq_true rfl) ?_
  dsimp only [c67, envOf, Nat.reduceAdd]
  repeat' (first|refine Zo0 rfl ?_|refine Zo1 ?_|refine Zo2 ?_|refine Zo3 ?_|refine Zo4 ?_|refine Zo5 ?_|refine Zo6 ?_|refine Zo7 ?_|refine Zo8 rfl ?_|refine Zo9 rfl ?_|refine Zoa ?_|refine Zob ?_|refine Zoc ?_|refine Zod ?_|refine Zoe ?_|refine Zof ?_|refine Zog ?_|refine Zoh ?_|refine Zoi rfl ?_|refine Zoj rfl ?_|refine Zok rfl ?_|refine Zol rfl ?_|refine Zom rfl (by rfl) ?_|refine Zon rfl rfl ?_|refine Zoo rfl rfl rfl rfl (by rfl) (by rfl) ?_|refine Zop rfl trivial ?_|refine Zoq rfl rfl rfl ?_)
  exact Kr.one (.inr rfl) rfl (Ent.refl _) ⟨rfl, rfl⟩
theorem chainFill {g mp sb : Nat} {x : Cn} {m : Mm} {F G H : St} (hk : x.pool.ok m.ws.length) [t : Take L (some ⟨mp, 0, none⟩) (MemO m) F] [s : Take F (some ⟨sb, 0, none⟩) (SkO mp x.pool) G] [c : Take L (some ⟨g, 0, none⟩) (ChO mp sb x) H] :
    Fx Tryz.prog 68 [.pointer (some ⟨g, 0, none⟩)] L (fun v L' => L' = pt (some ⟨mp, 0, none⟩) (MemO (fillM x.pool m)) :: F) := by
  refine Fx.mk Tryz.func68 k68 (Nat.le_of_ble_eq_true rfl) ?_
  dsimp only [c68, envOf, Nat.reduceAdd]
  repeat' (first|refine Zo0 rfl ?_|refine Zo1 ?_|refine Zo2 ?_|refine Zo3 ?_|refine Zo4 ?_|refine Zo5 ?_|refine Zo6 ?_|refine Zo7 ?_|refine Zo8 rfl ?_|refine Zo9 rfl ?_|refine Zoa ?_|refine Zob ?_|refine Zoc ?_|refine Zod ?_|refine Zoe ?_|refine Zof ?_|refine Zog ?_|refine Zoh ?_|refine Zoi rfl ?_|refine Zoj rfl ?_|refine Zok rfl ?_|refine Zol rfl ?_|refine Zom rfl (by rfl) ?_|refine Zon rfl rfl ?_|refine Zoo rfl rfl rfl rfl (by rfl) (by rfl) ?_|refine Zop rfl trivial ?_|refine Zoq rfl rfl rfl ?_)
  refine Sx.ca rfl (stackFill (sb := sb) (mp := mp) (k := x.pool) (m := m) hk) ?_
  rintro v L' rfl
  repeat' (first|refine Zo0 rfl ?_|refine Zo1 ?_|refine Zo2 ?_|refine Zo3 ?_|refine Zo4 ?_|refine Zo5 ?_|refine Zo6 ?_|refine Zo7 ?_|refine Zo8 rfl ?_|refine Zo9 rfl ?_|refine Zoa ?_|refine Zob ?_|refine Zoc ?_|refine Zod ?_|refine Zoe ?_|refine Zof ?_|refine Zog ?_|refine Zoh ?_|refine Zoi rfl ?_|refine Zoj rfl ?_|refine Zok rfl ?_|refine Zol rfl ?_|refine Zom rfl (by rfl) ?_|refine Zon rfl rfl ?_|refine Zoo rfl rfl rfl rfl (by rfl) (by rfl) ?_|refine Zop rfl trivial ?_|refine Zoq rfl rfl rfl ?_)
  exact Kr.none (.inl rfl) (Ent.refl _) rfl
end
end Go.Proofs.YtnbkjcmmjgkdaaaGreat
