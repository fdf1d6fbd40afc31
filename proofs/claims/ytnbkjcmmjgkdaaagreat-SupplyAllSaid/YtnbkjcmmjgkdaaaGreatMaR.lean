/-
  A memory with its pool filled, and one supply.
-/
import Derived.Test.YtnbkjcmmjgkdaaaGreatMaQ
import Derived.Test.YtnbkjcmmjgkdaaaGreatMaK
set_option linter.unusedVariables false
set_option linter.unusedSimpArgs false
namespace Go.Proofs.YtnbkjcmmjgkdaaaGreat
open Go
attribute [local irreducible] Sx Cx Rx Fx Krg Ksq Kbl Klp Kr

section
variable {L F G : St}
/-- Slots without links, as the document has them here. -/
def zeroUp (x : Cn) (m : Mm) : Nat → Mm
  | 0 => m
  | i + 1 => (zeroUp x m i).lay (x.slot + i) 0
theorem zeroUp_len (x : Cn) (m : Mm) : ∀ i, (zeroUp x m i).ws.length = m.ws.length
  | 0 => rfl
  | i + 1 => by simp only [zeroUp, Mm.len_lay]; exact zeroUp_len x m i
theorem zeroUp_ok {x : Cn} {m : Mm} (h : m.ok) : ∀ i, (zeroUp x m i).ok
  | 0 => h
  | i + 1 => Mm.ok_lay (zeroUp_ok h i) (by omega)
/-- The pool filled. -/
def poolM (x : Cn) : Mm := fillM x.pool (zeroM x)
theorem poolM_len (x : Cn) : (poolM x).ws.length = x.len := by unfold poolM; rw [fillM_len, zeroM_len]
abbrev allV (mp pb w : Nat) (r r2 : Option Addr) (n c c2 : Nat) : List Value := [.pointer (some ⟨mp, 0, none⟩), .pointer (some ⟨pb, 0, none⟩), .slice r n c, .pointer (some ⟨w, 0, none⟩), .slice r2 n c2]
theorem rmemPut {rm : Nat} {m : Mm} {i : Nat} (hi : i < m.ws.length) {r : Nat} {c : Nat} (hm : m.ok ∧ m.ws.length ≤ 8388608) : Ent
    (pt (some ⟨r, 0, none⟩) (Row 103 1 m.ws.length c ((us m.ws).set i (wd 0))) :: pt (some ⟨rm, 0, none⟩) (Blk 108 [.slice (some ⟨r, 0, none⟩) m.ws.length c, .int .i64 (IntKind.i64.wrap (m.n : Int))]) :: G)
    (pt (some ⟨rm, 0, none⟩) (RMemO (m.lay i 0)) :: G) :=
  RMemO.close (a := some ⟨rm, 0, none⟩) (r := some ⟨r, 0, none⟩) (m.lay i 0) ⟨Mm.ok_lay hm.1 (by omega), by rw [Mm.len_lay]; exact hm.2⟩ rfl Mm.len_lay.symm (us_set m.ws i 0)
set_option maxHeartbeats 8000000 in
theorem supMade1 {x : Cn} (hx : x.ok) : Fx Tryz.prog 17 [x.v, .int .i64 1] L (fun v L' => ∃ a mp pb w r r2 c c2 u pb2, v = .pointer (some ⟨a, 0, none⟩) ∧
    L' = pt (some ⟨a, 0, none⟩) (Blk 45 (allV mp pb w (some ⟨r, 0, none⟩) r2 1 c c2)) :: pt (some ⟨r, 0, none⟩) (Row 39 1 1 c [.pointer (some ⟨u, 0, none⟩)]) ::
      pt (some ⟨u, 0, none⟩) (SupO mp pb2 x (SupS.nil x.ca)) :: pt (some ⟨mp, 0, none⟩) (MemO (poolM x)) :: pt (some ⟨pb, 0, none⟩) (SkO mp x.pool) :: pt (some ⟨pb2, 0, none⟩) (SkO mp x.pool) :: L) := by
  obtain ⟨b1, b2, b3, b4, b5, b6, b7⟩ := hx.b
  have hlen := hx.len_le
  have hl1 : 1 ≤ x.len := by unfold Cn.len; omega
  have hl3 : 3 ≤ x.len := by unfold Cn.len; omega
  have hpl := poolM_len x
  refine Fx.mk Tryz.func17 k17 (Nat.le_of_ble_eq_true rfl) ?_
  dsimp only [c17, envOf, Nat.reduceAdd]
  refine Cx.sq ?_
  refine Cx.rg ?_
  refine Sx.bx rfl rfl fun g => ?_
  repeat' (first|refine Zo0 rfl ?_|refine Zo1 ?_|refine Zo2 ?_|refine Zo3 ?_|refine Zo4 ?_|refine Zo5 ?_|refine Zo6 ?_|refine Zo7 ?_|refine Zo8 rfl ?_|refine Zo9 rfl ?_|refine Zoa ?_|refine Zob ?_|refine Zoc ?_|refine Zod ?_|refine Zoe ?_|refine Zof ?_|refine Zog ?_|refine Zoh ?_|refine Zoi rfl ?_|refine Zoj rfl ?_|refine Zok rfl ?_|refine Zol rfl ?_|refine Zom rfl (by rfl) ?_|refine Zon rfl rfl ?_|refine Zoo rfl rfl rfl rfl (by rfl) (by rfl) ?_|refine Zop rfl trivial ?_|refine Zoq rfl rfl rfl ?_)
  refine Sx.ca rfl (layLen (x.w : Int) x.c x.wd x.sl x.ca x.ba hx) ?_
  rintro v L' ⟨rfl, rfl⟩
  rw [x.lenC]
  repeat' (first|refine Zo0 rfl ?_|refine Zo1 ?_|refine Zo2 ?_|refine Zo3 ?_|refine Zo4 ?_|refine Zo5 ?_|refine Zo6 ?_|refine Zo7 ?_|refine Zo8 rfl ?_|refine Zo9 rfl ?_|refine Zoa ?_|refine Zob ?_|refine Zoc ?_|refine Zod ?_|refine Zoe ?_|refine Zof ?_|refine Zog ?_|refine Zoh ?_|refine Zoi rfl ?_|refine Zoj rfl ?_|refine Zok rfl ?_|refine Zol rfl ?_|refine Zom rfl (by rfl) ?_|refine Zon rfl rfl ?_|refine Zoo rfl rfl rfl rfl (by rfl) (by rfl) ?_|refine Zop rfl trivial ?_|refine Zoq rfl rfl rfl ?_)
  refine Sx.ca rfl (cellsNew x.len hl1 hlen) ?_
  rintro v L' ⟨mp, rfl, rfl⟩
  repeat' (first|refine Zo0 rfl ?_|refine Zo1 ?_|refine Zo2 ?_|refine Zo3 ?_|refine Zo4 ?_|refine Zo5 ?_|refine Zo6 ?_|refine Zo7 ?_|refine Zo8 rfl ?_|refine Zo9 rfl ?_|refine Zoa ?_|refine Zob ?_|refine Zoc ?_|refine Zod ?_|refine Zoe ?_|refine Zof ?_|refine Zog ?_|refine Zoh ?_|refine Zoi rfl ?_|refine Zoj rfl ?_|refine Zok rfl ?_|refine Zol rfl ?_|refine Zom rfl (by rfl) ?_|refine Zon rfl rfl ?_|refine Zoo rfl rfl rfl rfl (by rfl) (by rfl) ?_|refine Zop rfl trivial ?_|refine Zoq rfl rfl rfl ?_)
  refine Sx.ca rfl (chainNew (mp := mp) (m := zeroM x) hx (by rw [zeroM_len]; exact Nat.le_refl _)) ?_
  rintro v L' ⟨ch, pb, rfl, rfl⟩
  repeat' (first|refine Zo0 rfl ?_|refine Zo1 ?_|refine Zo2 ?_|refine Zo3 ?_|refine Zo4 ?_|refine Zo5 ?_|refine Zo6 ?_|refine Zo7 ?_|refine Zo8 rfl ?_|refine Zo9 rfl ?_|refine Zoa ?_|refine Zob ?_|refine Zoc ?_|refine Zod ?_|refine Zoe ?_|refine Zof ?_|refine Zog ?_|refine Zoh ?_|refine Zoi rfl ?_|refine Zoj rfl ?_|refine Zok rfl ?_|refine Zol rfl ?_|refine Zom rfl (by rfl) ?_|refine Zon rfl rfl ?_|refine Zoo rfl rfl rfl rfl (by rfl) (by rfl) ?_|refine Zop rfl trivial ?_|refine Zoq rfl rfl rfl ?_)
  refine Sx.ca rfl (chainPool (g := ch) (mp := mp) (sb := pb) (x := x)) ?_
  rintro v L' ⟨rfl, rfl⟩
  repeat' (first|refine Zo0 rfl ?_|refine Zo1 ?_|refine Zo2 ?_|refine Zo3 ?_|refine Zo4 ?_|refine Zo5 ?_|refine Zo6 ?_|refine Zo7 ?_|refine Zo8 rfl ?_|refine Zo9 rfl ?_|refine Zoa ?_|refine Zob ?_|refine Zoc ?_|refine Zod ?_|refine Zoe ?_|refine Zof ?_|refine Zog ?_|refine Zoh ?_|refine Zoi rfl ?_|refine Zoj rfl ?_|refine Zok rfl ?_|refine Zol rfl ?_|refine Zom rfl (by rfl) ?_|refine Zon rfl rfl ?_|refine Zoo rfl rfl rfl rfl (by rfl) (by rfl) ?_|refine Zop rfl trivial ?_|refine Zoq rfl rfl rfl ?_)
  refine Sx.ca rfl (chainFill (g := ch) (mp := mp) (sb := pb) (x := x) (m := zeroM x) (hx.pool (by rw [zeroM_len]; exact Nat.le_refl _) (by rw [zeroM_len]; exact hlen))) ?_
  rintro v L' rfl
  repeat' (first|refine Zo0 rfl ?_|refine Zo1 ?_|refine Zo2 ?_|refine Zo3 ?_|refine Zo4 ?_|refine Zo5 ?_|refine Zo6 ?_|refine Zo7 ?_|refine Zo8 rfl ?_|refine Zo9 rfl ?_|refine Zoa ?_|refine Zob ?_|refine Zoc ?_|refine Zod ?_|refine Zoe ?_|refine Zof ?_|refine Zog ?_|refine Zoh ?_|refine Zoi rfl ?_|refine Zoj rfl ?_|refine Zok rfl ?_|refine Zol rfl ?_|refine Zom rfl (by rfl) ?_|refine Zon rfl rfl ?_|refine Zoo rfl rfl rfl rfl (by rfl) (by rfl) ?_|refine Zop rfl trivial ?_|refine Zoq rfl rfl rfl ?_)
  refine Cx.ordc rfl (by kernel_rfl) ?_
  repeat' (first|refine Ze0 0 rfl (by kernel_rfl) ?_|refine Ze1 (by kernel_rfl) rfl rfl ?_|refine Ze2 ?_|refine Ze3 ?_|refine Ze4 (by kernel_rfl) rfl rfl (by rfl) ?_|refine Ze5 (by kernel_rfl) rfl rfl rfl ?_|refine Ev.pvH (by kernel_rfl) rfl rfl ⟨by omega, by omega⟩ ?_|refine Ev.pvH (by kernel_rfl) rfl rfl (by decide) ?_|fail)
  refine Ev.cakH (by kernel_rfl) rfl rfl (chainPool (g := ch) (mp := mp) (sb := pb) (x := x)) ?_
  repeat' (first|refine Ze0 0 rfl (by kernel_rfl) ?_|refine Ze1 (by kernel_rfl) rfl rfl ?_|refine Ze2 ?_|refine Ze3 ?_|refine Ze4 (by kernel_rfl) rfl rfl (by rfl) ?_|refine Ze5 (by kernel_rfl) rfl rfl rfl ?_|refine Ev.pvH (by kernel_rfl) rfl rfl ⟨by omega, by omega⟩ ?_|refine Ev.pvH (by kernel_rfl) rfl rfl (by decide) ?_|fail)
  refine Ev.caH (by kernel_rfl) rfl rfl (refWNew hx) (Pres.deps (by kernel_rfl)) ?_
  rintro v L' ⟨w, rm, rp, rs, re, rfl, rfl⟩
  repeat' (first|refine Ze0 0 rfl (by kernel_rfl) ?_|refine Ze1 (by kernel_rfl) rfl rfl ?_|refine Ze2 ?_|refine Ze3 ?_|refine Ze4 (by kernel_rfl) rfl rfl (by rfl) ?_|refine Ze5 (by kernel_rfl) rfl rfl rfl ?_|refine Ev.pvH (by kernel_rfl) rfl rfl ⟨by omega, by omega⟩ ?_|refine Ev.pvH (by kernel_rfl) rfl rfl (by decide) ?_|fail)
  refine Ev.bxH (by kernel_rfl) rfl rfl rfl (Pres.deps (by kernel_rfl)) fun a => ?_
  repeat' (first|refine Ze0 0 rfl (by kernel_rfl) ?_|refine Ze1 (by kernel_rfl) rfl rfl ?_|refine Ze2 ?_|refine Ze3 ?_|refine Ze4 (by kernel_rfl) rfl rfl (by rfl) ?_|refine Ze5 (by kernel_rfl) rfl rfl rfl ?_|refine Ev.pvH (by kernel_rfl) rfl rfl ⟨by omega, by omega⟩ ?_|refine Ev.pvH (by kernel_rfl) rfl rfl (by decide) ?_|fail)
  repeat' (first|refine Zo0 rfl ?_|refine Zo1 ?_|refine Zo2 ?_|refine Zo3 ?_|refine Zo4 ?_|refine Zo5 ?_|refine Zo6 ?_|refine Zo7 ?_|refine Zo8 rfl ?_|refine Zo9 rfl ?_|refine Zoa ?_|refine Zob ?_|refine Zoc ?_|refine Zod ?_|refine Zoe ?_|refine Zof ?_|refine Zog ?_|refine Zoh ?_|refine Zoi rfl ?_|refine Zoj rfl ?_|refine Zok rfl ?_|refine Zol rfl ?_|refine Zom rfl (by rfl) ?_|refine Zon rfl rfl ?_|refine Zoo rfl rfl rfl rfl (by rfl) (by rfl) ?_|refine Zop rfl trivial ?_|refine Zoq rfl rfl rfl ?_)
  refine Cx.lp (α := Option (Nat × Nat × (Option Addr × Nat) × (Option Addr × Nat)))
    (fun o => [(2, .pointer (some ⟨g, 0, none⟩)), (1, .int .i64 1), (5, .pointer (some ⟨mp, 0, none⟩)), (9, .pointer (some ⟨a, 0, none⟩)), (10, .int .i64 (match o with | none => 0 | some _ => 1))])
    (fun o => match o with
      | none => pt (some ⟨a, 0, none⟩) (Blk 45 (allV mp pb w none none 0 0 0)) :: pt (some ⟨g, 0, none⟩) (Blk 24 x.l) :: pt (some ⟨mp, 0, none⟩) (MemO (poolM x)) :: pt (some ⟨pb, 0, none⟩) (SkO mp x.pool) ::
        pt (some ⟨w, 0, none⟩) (RWO x rm rp rs re) :: pt (some ⟨rm, 0, none⟩) (RMemO (fillM x.spare (poolM x))) :: L
      | some (u, pb2, (r, c), (r2, c2)) => pt (some ⟨a, 0, none⟩) (Blk 45 (allV mp pb w r r2 1 c c2)) :: pt r (Row 39 1 1 c [.pointer (some ⟨u, 0, none⟩)]) :: pt (some ⟨u, 0, none⟩) (SupO mp pb2 x (SupS.nil x.ca)) :: pt (some ⟨pb2, 0, none⟩) (SkO mp x.pool) ::
        pt (some ⟨g, 0, none⟩) (Blk 24 x.l) :: pt (some ⟨mp, 0, none⟩) (MemO (poolM x)) :: pt (some ⟨pb, 0, none⟩) (SkO mp x.pool) ::
        pt (some ⟨w, 0, none⟩) (RWO x rm rp rs re) :: pt (some ⟨rm, 0, none⟩) (RMemO (fillM x.spare (poolM x))) :: L)
    (fun o => match o with | none => 1 | some _ => 0) none (sub.cons rfl (sub.cons rfl (sub.cons rfl (sub.cons rfl (sub.cons rfl sub.nil))))) ?_ ?_
  · dsimp only
    unfold poolM
    repeat (first | exact Ent.refl _ | (refine Ent.take1 ?_) | (refine Ent.trans Ent.drop ?_))
  rintro (_ | ⟨u, pb2, ⟨r, c⟩, ⟨r2, c2⟩⟩)
  · dsimp only
    repeat' (first|refine Zo0 rfl ?_|refine Zo1 ?_|refine Zo2 ?_|refine Zo3 ?_|refine Zo4 ?_|refine Zo5 ?_|refine Zo6 ?_|refine Zo7 ?_|refine Zo8 rfl ?_|refine Zo9 rfl ?_|refine Zoa ?_|refine Zob ?_|refine Zoc ?_|refine Zod ?_|refine Zoe ?_|refine Zof ?_|refine Zog ?_|refine Zoh ?_|refine Zoi rfl ?_|refine Zoj rfl ?_|refine Zok rfl ?_|refine Zol rfl ?_|refine Zom rfl (by rfl) ?_|refine Zon rfl rfl ?_|refine Zoo rfl rfl rfl rfl (by rfl) (by rfl) ?_|refine Zop rfl trivial ?_|refine Zoq rfl rfl rfl ?_)
    refine Sx.ca rfl (supNew (mp := mp) (m := poolM x) hx (by omega)) ?_
    rintro v L' ⟨u, pb2, rfl, rfl⟩
    repeat' (first|refine Zo0 rfl ?_|refine Zo1 ?_|refine Zo2 ?_|refine Zo3 ?_|refine Zo4 ?_|refine Zo5 ?_|refine Zo6 ?_|refine Zo7 ?_|refine Zo8 rfl ?_|refine Zo9 rfl ?_|refine Zoa ?_|refine Zob ?_|refine Zoc ?_|refine Zod ?_|refine Zoe ?_|refine Zof ?_|refine Zog ?_|refine Zoh ?_|refine Zoi rfl ?_|refine Zoj rfl ?_|refine Zok rfl ?_|refine Zol rfl ?_|refine Zom rfl (by rfl) ?_|refine Zon rfl rfl ?_|refine Zoo rfl rfl rfl rfl (by rfl) (by rfl) ?_|refine Zop rfl trivial ?_|refine Zoq rfl rfl rfl ?_)
    refine Sx.bs (sz := 1) rfl rfl fun q => ?_
    refine Sx.apn rfl rfl (Rd.row (b := q) (E := 39) (cap := 1) rfl) rfl (by simp [maxLen]) (by omega) fun r c hc => ?_
    repeat' (first|refine Zo0 rfl ?_|refine Zo1 ?_|refine Zo2 ?_|refine Zo3 ?_|refine Zo4 ?_|refine Zo5 ?_|refine Zo6 ?_|refine Zo7 ?_|refine Zo8 rfl ?_|refine Zo9 rfl ?_|refine Zoa ?_|refine Zob ?_|refine Zoc ?_|refine Zod ?_|refine Zoe ?_|refine Zof ?_|refine Zog ?_|refine Zoh ?_|refine Zoi rfl ?_|refine Zoj rfl ?_|refine Zok rfl ?_|refine Zol rfl ?_|refine Zom rfl (by rfl) ?_|refine Zon rfl rfl ?_|refine Zoo rfl rfl rfl rfl (by rfl) (by rfl) ?_|refine Zop rfl trivial ?_|refine Zoq rfl rfl rfl ?_)
    refine Cx.orde rfl (by kernel_rfl) ?_
    repeat' (first|refine Ze0 0 rfl (by kernel_rfl) ?_|refine Ze1 (by kernel_rfl) rfl rfl ?_|refine Ze2 ?_|refine Ze3 ?_|refine Ze4 (by kernel_rfl) rfl rfl (by rfl) ?_|refine Ze5 (by kernel_rfl) rfl rfl rfl ?_|refine Ev.pvH (by kernel_rfl) rfl rfl ⟨by omega, by omega⟩ ?_|refine Ev.pvH (by kernel_rfl) rfl rfl (by decide) ?_|fail)
    refine Ev.caH (by kernel_rfl) rfl rfl (refSupply (w := w) (rm := rm) (rp := rp) (rs := rs) (re := re) (x := x)) (.dep rfl (.keep (fun v L' ⟨_, _, _, _, e⟩ => by subst e; exact Has.cell rfl) .nil)) ?_
    rintro v L' ⟨s, st, lm, rfl, rfl⟩
    repeat' (first|refine Ze0 0 rfl (by kernel_rfl) ?_|refine Ze1 (by kernel_rfl) rfl rfl ?_|refine Ze2 ?_|refine Ze3 ?_|refine Ze4 (by kernel_rfl) rfl rfl (by rfl) ?_|refine Ze5 (by kernel_rfl) rfl rfl rfl ?_|refine Ev.pvH (by kernel_rfl) rfl rfl ⟨by omega, by omega⟩ ?_|refine Ev.pvH (by kernel_rfl) rfl rfl (by decide) ?_|fail)
    refine Ev.bsH (sz := 1) (by kernel_rfl) rfl rfl rfl (.dep rfl (.keep (fun v L' ⟨_, _, e⟩ => by subst e; exact Has.cell rfl) .nil)) fun q2 => ?_
    repeat' (first|refine Ze0 0 rfl (by kernel_rfl) ?_|refine Ze1 (by kernel_rfl) rfl rfl ?_|refine Ze2 ?_|refine Ze3 ?_|refine Ze4 (by kernel_rfl) rfl rfl (by rfl) ?_|refine Ze5 (by kernel_rfl) rfl rfl rfl ?_|refine Ev.pvH (by kernel_rfl) rfl rfl ⟨by omega, by omega⟩ ?_|refine Ev.pvH (by kernel_rfl) rfl rfl (by decide) ?_|fail)
    refine Ev.apnH (by kernel_rfl) rfl rfl rfl (Rd.row (b := q2) (E := 89) (cap := 1) rfl) rfl (by simp [maxLen]) (by omega) (Pres.deps (by kernel_rfl)) fun r2 c2 hc2 hk2 => ?_
    repeat' (first|refine Ze0 0 rfl (by kernel_rfl) ?_|refine Ze1 (by kernel_rfl) rfl rfl ?_|refine Ze2 ?_|refine Ze3 ?_|refine Ze4 (by kernel_rfl) rfl rfl (by rfl) ?_|refine Ze5 (by kernel_rfl) rfl rfl rfl ?_|refine Ev.pvH (by kernel_rfl) rfl rfl ⟨by omega, by omega⟩ ?_|refine Ev.pvH (by kernel_rfl) rfl rfl (by decide) ?_|fail)
    refine Ev.stbH (b := a) (by kernel_rfl) rfl rfl rfl rfl rfl (by rfl) rfl (Pres.deps (by kernel_rfl)) ?_
    repeat' (first|refine Ze0 0 rfl (by kernel_rfl) ?_|refine Ze1 (by kernel_rfl) rfl rfl ?_|refine Ze2 ?_|refine Ze3 ?_|refine Ze4 (by kernel_rfl) rfl rfl (by rfl) ?_|refine Ze5 (by kernel_rfl) rfl rfl rfl ?_|refine Ev.pvH (by kernel_rfl) rfl rfl ⟨by omega, by omega⟩ ?_|refine Ev.pvH (by kernel_rfl) rfl rfl (by decide) ?_|fail)
    repeat' (first|refine Zo0 rfl ?_|refine Zo1 ?_|refine Zo2 ?_|refine Zo3 ?_|refine Zo4 ?_|refine Zo5 ?_|refine Zo6 ?_|refine Zo7 ?_|refine Zo8 rfl ?_|refine Zo9 rfl ?_|refine Zoa ?_|refine Zob ?_|refine Zoc ?_|refine Zod ?_|refine Zoe ?_|refine Zof ?_|refine Zog ?_|refine Zoh ?_|refine Zoi rfl ?_|refine Zoj rfl ?_|refine Zok rfl ?_|refine Zol rfl ?_|refine Zom rfl (by rfl) ?_|refine Zon rfl rfl ?_|refine Zoo rfl rfl rfl rfl (by rfl) (by rfl) ?_|refine Zop rfl trivial ?_|refine Zoq rfl rfl rfl ?_)
    refine Klp.nm (some (u, pb2, (r, c), (r2, c2))) (sub.cons rfl (sub.cons rfl (sub.cons rfl (sub.cons rfl (sub.cons rfl sub.nil))))) ?_ (by simp)
    dsimp only
    repeat (first | exact Ent.refl _ | (refine Ent.take1 ?_) | (refine Ent.trans Ent.drop ?_))
  · dsimp only
    refine Cx.rowkey (a := r) fun _ _ _ hkr => ?_
    obtain ⟨rr, rfl⟩ : ∃ g, r = some ⟨g, 0, none⟩ := by
      rcases hkr with h | h
      · omega
      · exact h
    have hsl : ∀ i, (zeroUp x (fillM x.spare (poolM x)) i).ws.length = x.len := fun i => by rw [zeroUp_len, fillM_len, hpl]
    have hsz : x.slot + x.sl ≤ x.len := by unfold Cn.slot Cn.len; omega
    repeat' (first|refine Zo0 rfl ?_|refine Zo1 ?_|refine Zo2 ?_|refine Zo3 ?_|refine Zo4 ?_|refine Zo5 ?_|refine Zo6 ?_|refine Zo7 ?_|refine Zo8 rfl ?_|refine Zo9 rfl ?_|refine Zoa ?_|refine Zob ?_|refine Zoc ?_|refine Zod ?_|refine Zoe ?_|refine Zof ?_|refine Zog ?_|refine Zoh ?_|refine Zoi rfl ?_|refine Zoj rfl ?_|refine Zok rfl ?_|refine Zol rfl ?_|refine Zom rfl (by rfl) ?_|refine Zon rfl rfl ?_|refine Zoo rfl rfl rfl rfl (by rfl) (by rfl) ?_|refine Zop rfl trivial ?_|refine Zoq rfl rfl rfl ?_)
    refine Cx.lp (α := {i : Nat // i ≤ x.sl}) (fun i => [(2, .pointer (some ⟨g, 0, none⟩)), (9, .pointer (some ⟨a, 0, none⟩)), (13, .int .i64 i.1)])
      (fun i => pt (some ⟨rm, 0, none⟩) (RMemO (zeroUp x (fillM x.spare (poolM x)) i.1)) :: pt (some ⟨a, 0, none⟩) (Blk 45 (allV mp pb w (some ⟨rr, 0, none⟩) r2 1 c c2)) :: pt (some ⟨rr, 0, none⟩) (Row 39 1 1 c [.pointer (some ⟨u, 0, none⟩)]) :: pt (some ⟨u, 0, none⟩) (SupO mp pb2 x (SupS.nil x.ca)) :: pt (some ⟨pb2, 0, none⟩) (SkO mp x.pool) ::
        pt (some ⟨g, 0, none⟩) (Blk 24 x.l) :: pt (some ⟨mp, 0, none⟩) (MemO (poolM x)) :: pt (some ⟨pb, 0, none⟩) (SkO mp x.pool) :: pt (some ⟨w, 0, none⟩) (RWO x rm rp rs re) :: L)
      (fun i => x.sl - i.1) ⟨0, by omega⟩ (sub.cons rfl (sub.cons rfl (sub.cons rfl sub.nil))) ?_ ?_
    · dsimp only [zeroUp]
      repeat (first | exact Ent.refl _ | (refine Ent.take1 ?_) | (refine Ent.trans Ent.drop ?_))
    rintro ⟨i, hi⟩
    dsimp only
    have hli := hsl i
    refine Cx.openp (a := some ⟨rm, 0, none⟩) rfl ?_
    rintro ⟨mr, mc⟩
    simp only [rmemL, List.cons_append, List.nil_append]
    refine Cx.liftp fun hm => ?_
    refine Cx.rowkey (a := mr) fun hx0 hn0 _ hk1 => ?_
    obtain ⟨rg, rfl⟩ : ∃ g, mr = some ⟨g, 0, none⟩ := by
      rcases hk1 with h | h
      · omega
      · exact h
    repeat' (first|refine Zo0 rfl ?_|refine Zo1 ?_|refine Zo2 ?_|refine Zo3 ?_|refine Zo4 ?_|refine Zo5 ?_|refine Zo6 ?_|refine Zo7 ?_|refine Zo8 rfl ?_|refine Zo9 rfl ?_|refine Zoa ?_|refine Zob ?_|refine Zoc ?_|refine Zod ?_|refine Zoe ?_|refine Zof ?_|refine Zog ?_|refine Zoh ?_|refine Zoi rfl ?_|refine Zoj rfl ?_|refine Zok rfl ?_|refine Zol rfl ?_|refine Zom rfl (by rfl) ?_|refine Zon rfl rfl ?_|refine Zoo rfl rfl rfl rfl (by rfl) (by rfl) ?_|refine Zop rfl trivial ?_|refine Zoq rfl rfl rfl ?_)
    refine Cx.ifp rfl (fun h => ?_) (fun h => ?_)
    · repeat' (first|refine Zo0 rfl ?_|refine Zo1 ?_|refine Zo2 ?_|refine Zo3 ?_|refine Zo4 ?_|refine Zo5 ?_|refine Zo6 ?_|refine Zo7 ?_|refine Zo8 rfl ?_|refine Zo9 rfl ?_|refine Zoa ?_|refine Zob ?_|refine Zoc ?_|refine Zod ?_|refine Zoe ?_|refine Zof ?_|refine Zog ?_|refine Zoh ?_|refine Zoi rfl ?_|refine Zoj rfl ?_|refine Zok rfl ?_|refine Zol rfl ?_|refine Zom rfl (by rfl) ?_|refine Zon rfl rfl ?_|refine Zoo rfl rfl rfl rfl (by rfl) (by rfl) ?_|refine Zop rfl trivial ?_|refine Zoq rfl rfl rfl ?_)
      refine Cx.orde rfl (by kernel_rfl) ?_
      repeat' (first|refine Ze0 0 rfl (by kernel_rfl) ?_|refine Ze1 (by kernel_rfl) rfl rfl ?_|refine Ze2 ?_|refine Ze3 ?_|refine Ze4 (by kernel_rfl) rfl rfl (by rfl) ?_|refine Ze5 (by kernel_rfl) rfl rfl rfl ?_|refine Ev.pvH (by kernel_rfl) rfl rfl ⟨by omega, by omega⟩ ?_|refine Ev.pvH (by kernel_rfl) rfl rfl (by decide) ?_|fail)
      refine Ev.cakH (by kernel_rfl) rfl rfl (refSlot hx i (by omega)) ?_
      repeat' (first|refine Ze0 0 rfl (by kernel_rfl) ?_|refine Ze1 (by kernel_rfl) rfl rfl ?_|refine Ze2 ?_|refine Ze3 ?_|refine Ze4 (by kernel_rfl) rfl rfl (by rfl) ?_|refine Ze5 (by kernel_rfl) rfl rfl rfl ?_|refine Ev.pvH (by kernel_rfl) rfl rfl ⟨by omega, by omega⟩ ?_|refine Ev.pvH (by kernel_rfl) rfl rfl (by decide) ?_|fail)
      refine Ev.strH (b := rg) (by kernel_rfl) rfl rfl rfl rfl rfl (by rw [length_us]; simp; omega) rfl (Pres.deps (by kernel_rfl)) ?_
      repeat' (first|refine Ze0 0 rfl (by kernel_rfl) ?_|refine Ze1 (by kernel_rfl) rfl rfl ?_|refine Ze2 ?_|refine Ze3 ?_|refine Ze4 (by kernel_rfl) rfl rfl (by rfl) ?_|refine Ze5 (by kernel_rfl) rfl rfl rfl ?_|refine Ev.pvH (by kernel_rfl) rfl rfl ⟨by omega, by omega⟩ ?_|refine Ev.pvH (by kernel_rfl) rfl rfl (by decide) ?_|fail)
      repeat' (first|refine Zo0 rfl ?_|refine Zo1 ?_|refine Zo2 ?_|refine Zo3 ?_|refine Zo4 ?_|refine Zo5 ?_|refine Zo6 ?_|refine Zo7 ?_|refine Zo8 rfl ?_|refine Zo9 rfl ?_|refine Zoa ?_|refine Zob ?_|refine Zoc ?_|refine Zod ?_|refine Zoe ?_|refine Zof ?_|refine Zog ?_|refine Zoh ?_|refine Zoi rfl ?_|refine Zoj rfl ?_|refine Zok rfl ?_|refine Zol rfl ?_|refine Zom rfl (by rfl) ?_|refine Zon rfl rfl ?_|refine Zoo rfl rfl rfl rfl (by rfl) (by rfl) ?_|refine Zop rfl trivial ?_|refine Zoq rfl rfl rfl ?_)
      rw [w64 (n := (i : Int) + 1) (by omega) (by omega)]
      refine Klp.nm ⟨i + 1, by omega⟩ (sub.cons rfl (sub.cons rfl (sub.cons rfl sub.nil))) ?_ (by dsimp only; omega)
      dsimp only [zeroUp]
      rw [show 0 + (((x.slot + i : Nat) : Int)).toNat * 1 = x.slot + i by omega]
      refine Ent.trans (rmemPut (rm := rm) (i := x.slot + i) (by omega) hm) ?_
      repeat (first | exact Ent.refl _ | (refine Ent.take1 ?_) | (refine Ent.trans Ent.drop ?_))
    · repeat' (first|refine Zo0 rfl ?_|refine Zo1 ?_|refine Zo2 ?_|refine Zo3 ?_|refine Zo4 ?_|refine Zo5 ?_|refine Zo6 ?_|refine Zo7 ?_|refine Zo8 rfl ?_|refine Zo9 rfl ?_|refine Zoa ?_|refine Zob ?_|refine Zoc ?_|refine Zod ?_|refine Zoe ?_|refine Zof ?_|refine Zog ?_|refine Zoh ?_|refine Zoi rfl ?_|refine Zoj rfl ?_|refine Zok rfl ?_|refine Zol rfl ?_|refine Zom rfl (by rfl) ?_|refine Zon rfl rfl ?_|refine Zoo rfl rfl rfl rfl (by rfl) (by rfl) ?_|refine Zop rfl trivial ?_|refine Zoq rfl rfl rfl ?_|refine Sx.pv rfl ⟨by omega, by omega⟩ ?_|refine Sx.pv rfl (by decide) ?_|fail)
      refine Sx.str1 (b := rg) rfl rfl rfl rfl (show 0 + (1 : Int).toNat * 1 < (us (zeroUp x (fillM x.spare (poolM x)) i).ws).length by rw [length_us, hli]; show 1 < x.len; omega) rfl ?_
      repeat' (first|refine Zo0 rfl ?_|refine Zo1 ?_|refine Zo2 ?_|refine Zo3 ?_|refine Zo4 ?_|refine Zo5 ?_|refine Zo6 ?_|refine Zo7 ?_|refine Zo8 rfl ?_|refine Zo9 rfl ?_|refine Zoa ?_|refine Zob ?_|refine Zoc ?_|refine Zod ?_|refine Zoe ?_|refine Zof ?_|refine Zog ?_|refine Zoh ?_|refine Zoi rfl ?_|refine Zoj rfl ?_|refine Zok rfl ?_|refine Zol rfl ?_|refine Zom rfl (by rfl) ?_|refine Zon rfl rfl ?_|refine Zoo rfl rfl rfl rfl (by rfl) (by rfl) ?_|refine Zop rfl trivial ?_|refine Zoq rfl rfl rfl ?_)
      refine Kr.one (.inr rfl) rfl ?_ ⟨a, mp, pb, w, rr, r2, c, c2, u, pb2, rfl, rfl⟩
      repeat (first | exact Ent.refl _ | (refine Ent.take1 ?_) | (refine Ent.trans Ent.drop ?_))
end
end Go.Proofs.YtnbkjcmmjgkdaaaGreat
