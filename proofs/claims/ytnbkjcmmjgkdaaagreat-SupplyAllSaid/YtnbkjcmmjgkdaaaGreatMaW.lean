/-
  Stacks: a Push's accesses.
-/
import Derived.Test.YtnbkjcmmjgkdaaaGreatMaV
set_option linter.unusedVariables false
set_option linter.unusedSimpArgs false
namespace Go.Proofs.YtnbkjcmmjgkdaaaGreat
open Go
attribute [local irreducible] Sx Cx Rx Fx Krg Ksq Kbl Klp Kr

section
variable {L F G : St}
/-- The frame of a Push's access. -/
abbrev pushF (b sb mp : Nat) (k : Sk) (m : Mm) (p : PushS) (r : Option Addr) (c : Nat) (cnt : Int) (G : St) : St :=
  pt (some ⟨b, 0, none⟩) (Blk 239 [.nilFunc, .nilFunc, .nilFunc, .nilFunc, .int .i64 cnt, .pointer (some ⟨sb, 0, none⟩), .slice r p.l.length c, .int .i64 (pushI p : Nat), wd p.was]) ::
  pt r (Row 3 1 p.l.length c (ints p.l)) :: pt (some ⟨mp, 0, none⟩) (MemO m) :: pt (some ⟨sb, 0, none⟩) (SkO mp k) :: G
abbrev pushR (b sb mp : Nat) (k : Sk) (m : Mm) (p : PushS) (G : St) (v : Value) (L' : St) : Prop :=
  L' = pt (some ⟨b, 0, none⟩) (PushO sb k (pushStep k m p).1) :: pt (some ⟨mp, 0, none⟩) (MemO (pushStep k m p).2) :: pt (some ⟨sb, 0, none⟩) (SkO mp k) :: G
theorem wrapS {x : Int} (h1 : 0 ≤ x) (h2 : x ≤ 9223372036854775807) : IntKind.u64.wrap (IntKind.i64.wrap x) = ((x.toNat : Nat) : Int) := by
  rw [w64 (by omega) h2, wu64 h1 (by omega)]; omega
theorem push_link_ {b sb mp : Nat} {k : Sk} {m : Mm} {p : PushS} {r : Option Addr} {c : Nat} {cnt : Int} (hm : m.ok) (hk : k.ok m.ws.length) (hp : p.ok k) (ha : p.at_ + 1 < p.l.length) (hd : p.done = false) :
    Fx Tryz.prog 172 [.pointer (some ⟨b, 0, none⟩)] (pushF b sb mp k m p r c cnt G) (pushR b sb mp k m p G) := by
  have hok := pushStep_ok (k := k) hm hp
  have e : pushStep k m p = ({ p with at_ := p.at_ + 1 }, m.put (k.links + (itI p.l p.at_).toNat) (itI p.l (p.at_ + 1) + 1).toNat) := by
    unfold pushStep; rw [hd]; simp only [Bool.false_eq_true, if_false]; rw [if_pos ha]
  have hI : pushI p = p.at_ := by unfold pushI; omega
  have hv1 := itI_some (l := p.l) (i := p.at_) (by omega)
  have hv2 := itI_some (l := p.l) (i := p.at_ + 1) (by omega)
  have hr1 := hp.g _ (itI_mem (l := p.l) (i := p.at_) (by omega))
  have hr2 := hp.g _ (itI_mem (l := p.l) (i := p.at_ + 1) (by omega))
  obtain ⟨k1, k2, k3, k4, k5, k6⟩ := hk
  obtain ⟨x, hx⟩ : ∃ x : Nat, itI p.l p.at_ = x := ⟨(itI p.l p.at_).toNat, by omega⟩
  obtain ⟨y, hy⟩ : ∃ y : Nat, itI p.l (p.at_ + 1) = y := ⟨(itI p.l (p.at_ + 1)).toNat, by omega⟩
  have e' : pushStep k m p = ({ p with at_ := p.at_ + 1 }, m.put (k.links + x) (y + 1)) := by rw [e, hx, hy]; rfl
  rw [hx] at hr1 hv1
  rw [hy] at hr2 hv2
  refine Fx.mk Tryz.func172 k172 (Nat.le_of_ble_eq_true rfl) ?_
  dsimp only [c172, envOf, Nat.reduceAdd]
  unfold pushF
  rw [hI]
  refine Cx.rowkey (a := r) fun hxl hc1 hc2 hkr => ?_
  have hc3 : c ≤ 18446744073709551616 := by have := hc2; unfold maxLen at this; omega
  obtain ⟨rg, rfl⟩ : ∃ g, r = some ⟨g, 0, none⟩ := by
    rcases hkr with h | h
    · omega
    · exact h
  have hlm : p.l.length ≤ 9223372036854775807 := by unfold maxLen at hc2; omega
  repeat' (first|refine Zo0 rfl ?_|refine Zo1 ?_|refine Zo2 ?_|refine Zo3 ?_|refine Zo4 ?_|refine Zo5 ?_|refine Zo6 ?_|refine Zo7 ?_|refine Zo8 rfl ?_|refine Zo9 rfl ?_|refine Zoa ?_|refine Zob ?_|refine Zoc ?_|refine Zod ?_|refine Zoe ?_|refine Zof ?_|refine Zog ?_|refine Zoh ?_|refine Zoi rfl ?_|refine Zoj rfl ?_|refine Zok rfl ?_|refine Zol rfl ?_|refine Zom rfl (by rfl) ?_|refine Zon rfl rfl ?_|refine Zoo rfl rfl rfl rfl (by rfl) (by rfl) ?_|refine Zop rfl trivial ?_|refine Zoq rfl rfl rfl ?_)
  refine Cx.ordc rfl (by kernel_rfl) ?_
  repeat' (first|refine Ze0 0 rfl (by kernel_rfl) ?_|refine Ze1 (by kernel_rfl) rfl rfl ?_|refine Ze2 ?_|refine Ze3 ?_|refine Ze4 (by kernel_rfl) rfl rfl (by rfl) ?_|refine Ze5 (by kernel_rfl) rfl rfl rfl ?_|refine Ev.pvH (by kernel_rfl) rfl rfl ⟨by omega, by omega⟩ ?_|refine Ev.pvH (by kernel_rfl) rfl rfl (by decide) ?_|fail)
  refine Ev.ldrH (b := rg) (by kernel_rfl) rfl rfl (v := .int .i64 (x : Nat)) (by rw [show 0 + ((p.at_ : Int)).toNat * 1 = p.at_ by omega]; exact hv1) ?_
  repeat' (first|refine Ze0 0 rfl (by kernel_rfl) ?_|refine Ze1 (by kernel_rfl) rfl rfl ?_|refine Ze2 ?_|refine Ze3 ?_|refine Ze4 (by kernel_rfl) rfl rfl (by rfl) ?_|refine Ze5 (by kernel_rfl) rfl rfl rfl ?_|refine Ev.pvH (by kernel_rfl) rfl rfl ⟨by omega, by omega⟩ ?_|refine Ev.pvH (by kernel_rfl) rfl rfl (by decide) ?_|fail)
  rw [w64 (n := (p.at_ : Int) + 1) (by omega) (by omega)]
  refine Ev.pvH (by kernel_rfl) rfl rfl ⟨by omega, by omega⟩ ?_
  refine Ev.ldrH (b := rg) (by kernel_rfl) rfl rfl (v := .int .i64 (y : Nat)) (by rw [show 0 + ((p.at_ : Int) + 1).toNat * 1 = p.at_ + 1 by omega]; exact hv2) ?_
  repeat' (first|refine Ze0 0 rfl (by kernel_rfl) ?_|refine Ze1 (by kernel_rfl) rfl rfl ?_|refine Ze2 ?_|refine Ze3 ?_|refine Ze4 (by kernel_rfl) rfl rfl (by rfl) ?_|refine Ze5 (by kernel_rfl) rfl rfl rfl ?_|refine Ev.pvH (by kernel_rfl) rfl rfl ⟨by omega, by omega⟩ ?_|refine Ev.pvH (by kernel_rfl) rfl rfl (by decide) ?_|fail)
  rw [w64 (n := (k.links : Int) + x) (by omega) (by omega), show (k.links : Int) + x = ((k.links + x : Nat) : Int) by omega, wrapS (x := (y : Int) + 1) (by omega) (by omega), show ((y : Int) + 1).toNat = y + 1 by omega]
  refine Ev.caH (by kernel_rfl) rfl rfl (cellsStore (b := mp) (m := m) (k.links + x) (y + 1) (by omega) (by omega)) (Pres.deps (by kernel_rfl)) ?_
  rintro v L' ⟨rfl, rfl⟩
  repeat' (first|refine Ze0 0 rfl (by kernel_rfl) ?_|refine Ze1 (by kernel_rfl) rfl rfl ?_|refine Ze2 ?_|refine Ze3 ?_|refine Ze4 (by kernel_rfl) rfl rfl (by rfl) ?_|refine Ze5 (by kernel_rfl) rfl rfl rfl ?_|refine Ev.pvH (by kernel_rfl) rfl rfl ⟨by omega, by omega⟩ ?_|refine Ev.pvH (by kernel_rfl) rfl rfl (by decide) ?_|fail)
  repeat' (first|refine Zo0 rfl ?_|refine Zo1 ?_|refine Zo2 ?_|refine Zo3 ?_|refine Zo4 ?_|refine Zo5 ?_|refine Zo6 ?_|refine Zo7 ?_|refine Zo8 rfl ?_|refine Zo9 rfl ?_|refine Zoa ?_|refine Zob ?_|refine Zoc ?_|refine Zod ?_|refine Zoe ?_|refine Zof ?_|refine Zog ?_|refine Zoh ?_|refine Zoi rfl ?_|refine Zoj rfl ?_|refine Zok rfl ?_|refine Zol rfl ?_|refine Zom rfl (by rfl) ?_|refine Zon rfl rfl ?_|refine Zoo rfl rfl rfl rfl (by rfl) (by rfl) ?_|refine Zop rfl trivial ?_|refine Zoq rfl rfl rfl ?_)
  rw [w64 (n := (p.at_ : Int) + 1) (by omega) (by omega)]
  repeat' (first|refine Zo0 rfl ?_|refine Zo1 ?_|refine Zo2 ?_|refine Zo3 ?_|refine Zo4 ?_|refine Zo5 ?_|refine Zo6 ?_|refine Zo7 ?_|refine Zo8 rfl ?_|refine Zo9 rfl ?_|refine Zoa ?_|refine Zob ?_|refine Zoc ?_|refine Zod ?_|refine Zoe ?_|refine Zof ?_|refine Zog ?_|refine Zoh ?_|refine Zoi rfl ?_|refine Zoj rfl ?_|refine Zok rfl ?_|refine Zol rfl ?_|refine Zom rfl (by rfl) ?_|refine Zon rfl rfl ?_|refine Zoo rfl rfl rfl rfl (by rfl) (by rfl) ?_|refine Zop rfl trivial ?_|refine Zoq rfl rfl rfl ?_)
  refine Cx.ordc rfl (by kernel_rfl) ?_
  repeat' (first|refine Ze0 0 rfl (by kernel_rfl) ?_|refine Ze1 (by kernel_rfl) rfl rfl ?_|refine Ze2 ?_|refine Ze3 ?_|refine Ze4 (by kernel_rfl) rfl rfl (by rfl) ?_|refine Ze5 (by kernel_rfl) rfl rfl rfl ?_|refine Ev.pvH (by kernel_rfl) rfl rfl ⟨by omega, by omega⟩ ?_|refine Ev.pvH (by kernel_rfl) rfl rfl (by decide) ?_|fail)
  rw [w64 (n := (p.l.length : Int) - 1) (by omega) (by omega)]
  rw [e'] at hok
  have hI2 : pushI { p with at_ := p.at_ + 1 } = p.at_ + 1 := by unfold pushI; dsimp only; omega
  refine Cx.ifp rfl (fun h => ?_) (fun h => ?_)
  · repeat' (first|refine Zo0 rfl ?_|refine Zo1 ?_|refine Zo2 ?_|refine Zo3 ?_|refine Zo4 ?_|refine Zo5 ?_|refine Zo6 ?_|refine Zo7 ?_|refine Zo8 rfl ?_|refine Zo9 rfl ?_|refine Zoa ?_|refine Zob ?_|refine Zoc ?_|refine Zod ?_|refine Zoe ?_|refine Zof ?_|refine Zog ?_|refine Zoh ?_|refine Zoi rfl ?_|refine Zoj rfl ?_|refine Zok rfl ?_|refine Zol rfl ?_|refine Zom rfl (by rfl) ?_|refine Zon rfl rfl ?_|refine Zoo rfl rfl rfl rfl (by rfl) (by rfl) ?_|refine Zop rfl trivial ?_|refine Zoq rfl rfl rfl ?_)
    refine Sx.ca rfl (machGo (b := b)) ?_
    rintro v L' ⟨rfl, rfl⟩
    repeat' (first|refine Zo0 rfl ?_|refine Zo1 ?_|refine Zo2 ?_|refine Zo3 ?_|refine Zo4 ?_|refine Zo5 ?_|refine Zo6 ?_|refine Zo7 ?_|refine Zo8 rfl ?_|refine Zo9 rfl ?_|refine Zoa ?_|refine Zob ?_|refine Zoc ?_|refine Zod ?_|refine Zoe ?_|refine Zof ?_|refine Zog ?_|refine Zoh ?_|refine Zoi rfl ?_|refine Zoj rfl ?_|refine Zok rfl ?_|refine Zol rfl ?_|refine Zom rfl (by rfl) ?_|refine Zon rfl rfl ?_|refine Zoo rfl rfl rfl rfl (by rfl) (by rfl) ?_|refine Zop rfl trivial ?_|refine Zoq rfl rfl rfl ?_)
    refine Kr.none (.inl rfl) ?_ rfl
    rw [e']
    refine Ent.trans (PushO.close (a := some ⟨b, 0, none⟩) (r := some ⟨rg, 0, none⟩) (sb := sb) (k := k) _ hok ?_ ?_ rfl rfl rfl) ?_
    · simp [pushNx, pushFn, hd, show p.at_ + 1 + 1 < p.l.length by omega]
    · rw [hI2]; rfl
    · repeat (first | exact Ent.refl _ | (refine Ent.take1 ?_) | (refine Ent.trans Ent.drop ?_))
  · repeat' (first|refine Zo0 rfl ?_|refine Zo1 ?_|refine Zo2 ?_|refine Zo3 ?_|refine Zo4 ?_|refine Zo5 ?_|refine Zo6 ?_|refine Zo7 ?_|refine Zo8 rfl ?_|refine Zo9 rfl ?_|refine Zoa ?_|refine Zob ?_|refine Zoc ?_|refine Zod ?_|refine Zoe ?_|refine Zof ?_|refine Zog ?_|refine Zoh ?_|refine Zoi rfl ?_|refine Zoj rfl ?_|refine Zok rfl ?_|refine Zol rfl ?_|refine Zom rfl (by rfl) ?_|refine Zon rfl rfl ?_|refine Zoo rfl rfl rfl rfl (by rfl) (by rfl) ?_|refine Zop rfl trivial ?_|refine Zoq rfl rfl rfl ?_)
    refine Sx.ca rfl (machGo (b := b)) ?_
    rintro v L' ⟨rfl, rfl⟩
    repeat' (first|refine Zo0 rfl ?_|refine Zo1 ?_|refine Zo2 ?_|refine Zo3 ?_|refine Zo4 ?_|refine Zo5 ?_|refine Zo6 ?_|refine Zo7 ?_|refine Zo8 rfl ?_|refine Zo9 rfl ?_|refine Zoa ?_|refine Zob ?_|refine Zoc ?_|refine Zod ?_|refine Zoe ?_|refine Zof ?_|refine Zog ?_|refine Zoh ?_|refine Zoi rfl ?_|refine Zoj rfl ?_|refine Zok rfl ?_|refine Zol rfl ?_|refine Zom rfl (by rfl) ?_|refine Zon rfl rfl ?_|refine Zoo rfl rfl rfl rfl (by rfl) (by rfl) ?_|refine Zop rfl trivial ?_|refine Zoq rfl rfl rfl ?_)
    refine Kr.none (.inl rfl) ?_ rfl
    rw [e']
    refine Ent.trans (PushO.close (a := some ⟨b, 0, none⟩) (r := some ⟨rg, 0, none⟩) (sb := sb) (k := k) _ hok ?_ ?_ rfl rfl rfl) ?_
    · simp [pushNx, pushFn, hd, show ¬ p.at_ + 1 + 1 < p.l.length by omega, show p.at_ + 1 + 1 = p.l.length by omega]
    · rw [hI2]; rfl
    · repeat (first | exact Ent.refl _ | (refine Ent.take1 ?_) | (refine Ent.trans Ent.drop ?_))
theorem push_load_ {b sb mp : Nat} {k : Sk} {m : Mm} {p : PushS} {r : Option Addr} {c : Nat} {cnt : Int} (hm : m.ok) (hk : k.ok m.ws.length) (hp : p.ok k) (ha : p.at_ + 1 = p.l.length) (hd : p.done = false) :
    Fx Tryz.prog 171 [.pointer (some ⟨b, 0, none⟩)] (pushF b sb mp k m p r c cnt G) (pushR b sb mp k m p G) := by
  have hok := pushStep_ok (k := k) hm hp
  have e : pushStep k m p = ({ p with at_ := p.at_ + 1, was := m.at_ k.head }, m.tick) := by
    unfold pushStep; rw [hd]; simp only [Bool.false_eq_true, if_false]; rw [if_neg (by omega), if_pos ha]
  rw [e] at hok
  have hI : pushI p = p.at_ := by unfold pushI; omega
  obtain ⟨k1, k2, k3, k4, k5, k6⟩ := hk
  refine Fx.mk Tryz.func171 k171 (Nat.le_of_ble_eq_true rfl) ?_
  dsimp only [c171, envOf, Nat.reduceAdd]
  unfold pushF
  rw [hI]
  repeat' (first|refine Zo0 rfl ?_|refine Zo1 ?_|refine Zo2 ?_|refine Zo3 ?_|refine Zo4 ?_|refine Zo5 ?_|refine Zo6 ?_|refine Zo7 ?_|refine Zo8 rfl ?_|refine Zo9 rfl ?_|refine Zoa ?_|refine Zob ?_|refine Zoc ?_|refine Zod ?_|refine Zoe ?_|refine Zof ?_|refine Zog ?_|refine Zoh ?_|refine Zoi rfl ?_|refine Zoj rfl ?_|refine Zok rfl ?_|refine Zol rfl ?_|refine Zom rfl (by rfl) ?_|refine Zon rfl rfl ?_|refine Zoo rfl rfl rfl rfl (by rfl) (by rfl) ?_|refine Zop rfl trivial ?_|refine Zoq rfl rfl rfl ?_)
  refine Cx.ordc rfl (by kernel_rfl) ?_
  repeat' (first|refine Ze0 0 rfl (by kernel_rfl) ?_|refine Ze1 (by kernel_rfl) rfl rfl ?_|refine Ze2 ?_|refine Ze3 ?_|refine Ze4 (by kernel_rfl) rfl rfl (by rfl) ?_|refine Ze5 (by kernel_rfl) rfl rfl rfl ?_|refine Ev.pvH (by kernel_rfl) rfl rfl ⟨by omega, by omega⟩ ?_|refine Ev.pvH (by kernel_rfl) rfl rfl (by decide) ?_|fail)
  refine Ev.caH (by kernel_rfl) rfl rfl (cellsLoad (b := mp) (m := m) k.head k3) (Pres.deps (by kernel_rfl)) ?_
  rintro v L' ⟨rfl, rfl⟩
  repeat' (first|refine Ze0 0 rfl (by kernel_rfl) ?_|refine Ze1 (by kernel_rfl) rfl rfl ?_|refine Ze2 ?_|refine Ze3 ?_|refine Ze4 (by kernel_rfl) rfl rfl (by rfl) ?_|refine Ze5 (by kernel_rfl) rfl rfl rfl ?_|refine Ev.pvH (by kernel_rfl) rfl rfl ⟨by omega, by omega⟩ ?_|refine Ev.pvH (by kernel_rfl) rfl rfl (by decide) ?_|fail)
  refine Ev.stbH (b := b) (by kernel_rfl) rfl rfl rfl rfl rfl (by rfl) rfl (Pres.deps (by kernel_rfl)) ?_
  repeat' (first|refine Ze0 0 rfl (by kernel_rfl) ?_|refine Ze1 (by kernel_rfl) rfl rfl ?_|refine Ze2 ?_|refine Ze3 ?_|refine Ze4 (by kernel_rfl) rfl rfl (by rfl) ?_|refine Ze5 (by kernel_rfl) rfl rfl rfl ?_|refine Ev.pvH (by kernel_rfl) rfl rfl ⟨by omega, by omega⟩ ?_|refine Ev.pvH (by kernel_rfl) rfl rfl (by decide) ?_|fail)
  repeat' (first|refine Zo0 rfl ?_|refine Zo1 ?_|refine Zo2 ?_|refine Zo3 ?_|refine Zo4 ?_|refine Zo5 ?_|refine Zo6 ?_|refine Zo7 ?_|refine Zo8 rfl ?_|refine Zo9 rfl ?_|refine Zoa ?_|refine Zob ?_|refine Zoc ?_|refine Zod ?_|refine Zoe ?_|refine Zof ?_|refine Zog ?_|refine Zoh ?_|refine Zoi rfl ?_|refine Zoj rfl ?_|refine Zok rfl ?_|refine Zol rfl ?_|refine Zom rfl (by rfl) ?_|refine Zon rfl rfl ?_|refine Zoo rfl rfl rfl rfl (by rfl) (by rfl) ?_|refine Zop rfl trivial ?_|refine Zoq rfl rfl rfl ?_)
  refine Sx.ca rfl (machGo (b := b)) ?_
  rintro v L' ⟨rfl, rfl⟩
  repeat' (first|refine Zo0 rfl ?_|refine Zo1 ?_|refine Zo2 ?_|refine Zo3 ?_|refine Zo4 ?_|refine Zo5 ?_|refine Zo6 ?_|refine Zo7 ?_|refine Zo8 rfl ?_|refine Zo9 rfl ?_|refine Zoa ?_|refine Zob ?_|refine Zoc ?_|refine Zod ?_|refine Zoe ?_|refine Zof ?_|refine Zog ?_|refine Zoh ?_|refine Zoi rfl ?_|refine Zoj rfl ?_|refine Zok rfl ?_|refine Zol rfl ?_|refine Zom rfl (by rfl) ?_|refine Zon rfl rfl ?_|refine Zoo rfl rfl rfl rfl (by rfl) (by rfl) ?_|refine Zop rfl trivial ?_|refine Zoq rfl rfl rfl ?_)
  refine Kr.none (.inl rfl) ?_ rfl
  rw [e]
  refine Ent.trans (PushO.close (a := some ⟨b, 0, none⟩) (r := r) (sb := sb) (k := k) _ hok ?_ ?_ rfl rfl rfl) ?_
  · simp [pushNx, pushFn, hd, ha]
  · rw [show pushI { p with at_ := p.at_ + 1, was := m.at_ k.head } = p.at_ by unfold pushI; dsimp only; omega]
  · repeat (first | exact Ent.refl _ | (refine Ent.take1 ?_) | (refine Ent.trans Ent.drop ?_))
theorem push_last_ {b sb mp : Nat} {k : Sk} {m : Mm} {p : PushS} {r : Option Addr} {c : Nat} {cnt : Int} (hm : m.ok) (hk : k.ok m.ws.length) (hp : p.ok k) (ha : p.at_ = p.l.length) (hd : p.done = false) :
    Fx Tryz.prog 193 [.pointer (some ⟨b, 0, none⟩)] (pushF b sb mp k m p r c cnt G) (pushR b sb mp k m p G) := by
  have hok := pushStep_ok (k := k) hm hp
  have hlp := List.length_pos_iff.2 (hp.ne hd)
  have hv1 := itI_some (l := p.l) (i := p.l.length - 1) (by omega)
  have hr1 := hp.g _ (itI_mem (l := p.l) (i := p.l.length - 1) (by omega))
  have ht1 := k.top_ge p.was
  have ht2 := k.top_lt p.was
  obtain ⟨k1, k2, k3, k4, k5, k6⟩ := hk
  obtain ⟨x, hx⟩ : ∃ x : Nat, itI p.l (p.l.length - 1) = x := ⟨(itI p.l (p.l.length - 1)).toNat, by omega⟩
  have e : pushStep k m p = ({ p with at_ := p.at_ + 1 }, m.put (k.links + x) (k.top p.was + 1).toNat) := by
    unfold pushStep; rw [hd]; simp only [Bool.false_eq_true, if_false]; rw [if_neg (by omega), if_neg (by omega), if_pos ha, hx]; rfl
  rw [e] at hok
  rw [hx] at hr1 hv1
  have hI : pushI p = p.l.length - 1 := by unfold pushI; omega
  refine Fx.mk Tryz.func193 k193 (Nat.le_of_ble_eq_true rfl) ?_
  dsimp only [c193, envOf, Nat.reduceAdd]
  unfold pushF
  rw [hI]
  refine Cx.rowkey (a := r) fun hxl hc1 hc2 hkr => ?_
  obtain ⟨rg, rfl⟩ : ∃ g, r = some ⟨g, 0, none⟩ := by
    rcases hkr with h | h
    · omega
    · exact h
  have hlm : p.l.length ≤ 9223372036854775807 := by unfold maxLen at hc2; omega
  repeat' (first|refine Zo0 rfl ?_|refine Zo1 ?_|refine Zo2 ?_|refine Zo3 ?_|refine Zo4 ?_|refine Zo5 ?_|refine Zo6 ?_|refine Zo7 ?_|refine Zo8 rfl ?_|refine Zo9 rfl ?_|refine Zoa ?_|refine Zob ?_|refine Zoc ?_|refine Zod ?_|refine Zoe ?_|refine Zof ?_|refine Zog ?_|refine Zoh ?_|refine Zoi rfl ?_|refine Zoj rfl ?_|refine Zok rfl ?_|refine Zol rfl ?_|refine Zom rfl (by rfl) ?_|refine Zon rfl rfl ?_|refine Zoo rfl rfl rfl rfl (by rfl) (by rfl) ?_|refine Zop rfl trivial ?_|refine Zoq rfl rfl rfl ?_)
  refine Cx.ordc rfl (by kernel_rfl) ?_
  repeat' (first|refine Ze0 0 rfl (by kernel_rfl) ?_|refine Ze1 (by kernel_rfl) rfl rfl ?_|refine Ze2 ?_|refine Ze3 ?_|refine Ze4 (by kernel_rfl) rfl rfl (by rfl) ?_|refine Ze5 (by kernel_rfl) rfl rfl rfl ?_|refine Ev.pvH (by kernel_rfl) rfl rfl ⟨by omega, by omega⟩ ?_|refine Ev.pvH (by kernel_rfl) rfl rfl (by decide) ?_|fail)
  rw [w64 (n := (p.l.length : Int) - 1) (by omega) (by omega)]
  refine Ev.pvH (by kernel_rfl) rfl rfl ⟨by omega, by omega⟩ ?_
  refine Ev.ldrH (b := rg) (by kernel_rfl) rfl rfl (v := .int .i64 (x : Nat)) (by rw [show 0 + ((p.l.length : Int) - 1).toNat * 1 = p.l.length - 1 by omega]; exact hv1) ?_
  repeat' (first|refine Ze0 0 rfl (by kernel_rfl) ?_|refine Ze1 (by kernel_rfl) rfl rfl ?_|refine Ze2 ?_|refine Ze3 ?_|refine Ze4 (by kernel_rfl) rfl rfl (by rfl) ?_|refine Ze5 (by kernel_rfl) rfl rfl rfl ?_|refine Ev.pvH (by kernel_rfl) rfl rfl ⟨by omega, by omega⟩ ?_|refine Ev.pvH (by kernel_rfl) rfl rfl (by decide) ?_|fail)
  refine Ev.cakH (by kernel_rfl) rfl rfl (stackTop (sb := sb) (mp := mp) (k := k) p.was hp.w) ?_
  repeat' (first|refine Ze0 0 rfl (by kernel_rfl) ?_|refine Ze1 (by kernel_rfl) rfl rfl ?_|refine Ze2 ?_|refine Ze3 ?_|refine Ze4 (by kernel_rfl) rfl rfl (by rfl) ?_|refine Ze5 (by kernel_rfl) rfl rfl rfl ?_|refine Ev.pvH (by kernel_rfl) rfl rfl ⟨by omega, by omega⟩ ?_|refine Ev.pvH (by kernel_rfl) rfl rfl (by decide) ?_|fail)
  rw [w64 (n := (k.links : Int) + x) (by omega) (by omega), show (k.links : Int) + x = ((k.links + x : Nat) : Int) by omega, wrapS (x := k.top p.was + 1) (by omega) (by omega)]
  refine Ev.caH (by kernel_rfl) rfl rfl (cellsStore (b := mp) (m := m) (k.links + x) (k.top p.was + 1).toNat (by omega) (by omega)) (Pres.deps (by kernel_rfl)) ?_
  rintro v L' ⟨rfl, rfl⟩
  repeat' (first|refine Ze0 0 rfl (by kernel_rfl) ?_|refine Ze1 (by kernel_rfl) rfl rfl ?_|refine Ze2 ?_|refine Ze3 ?_|refine Ze4 (by kernel_rfl) rfl rfl (by rfl) ?_|refine Ze5 (by kernel_rfl) rfl rfl rfl ?_|refine Ev.pvH (by kernel_rfl) rfl rfl ⟨by omega, by omega⟩ ?_|refine Ev.pvH (by kernel_rfl) rfl rfl (by decide) ?_|fail)
  repeat' (first|refine Zo0 rfl ?_|refine Zo1 ?_|refine Zo2 ?_|refine Zo3 ?_|refine Zo4 ?_|refine Zo5 ?_|refine Zo6 ?_|refine Zo7 ?_|refine Zo8 rfl ?_|refine Zo9 rfl ?_|refine Zoa ?_|refine Zob ?_|refine Zoc ?_|refine Zod ?_|refine Zoe ?_|refine Zof ?_|refine Zog ?_|refine Zoh ?_|refine Zoi rfl ?_|refine Zoj rfl ?_|refine Zok rfl ?_|refine Zol rfl ?_|refine Zom rfl (by rfl) ?_|refine Zon rfl rfl ?_|refine Zoo rfl rfl rfl rfl (by rfl) (by rfl) ?_|refine Zop rfl trivial ?_|refine Zoq rfl rfl rfl ?_)
  refine Sx.ca rfl (machGo (b := b)) ?_
  rintro v L' ⟨rfl, rfl⟩
  repeat' (first|refine Zo0 rfl ?_|refine Zo1 ?_|refine Zo2 ?_|refine Zo3 ?_|refine Zo4 ?_|refine Zo5 ?_|refine Zo6 ?_|refine Zo7 ?_|refine Zo8 rfl ?_|refine Zo9 rfl ?_|refine Zoa ?_|refine Zob ?_|refine Zoc ?_|refine Zod ?_|refine Zoe ?_|refine Zof ?_|refine Zog ?_|refine Zoh ?_|refine Zoi rfl ?_|refine Zoj rfl ?_|refine Zok rfl ?_|refine Zol rfl ?_|refine Zom rfl (by rfl) ?_|refine Zon rfl rfl ?_|refine Zoo rfl rfl rfl rfl (by rfl) (by rfl) ?_|refine Zop rfl trivial ?_|refine Zoq rfl rfl rfl ?_)
  refine Kr.none (.inl rfl) ?_ rfl
  rw [e]
  refine Ent.trans (PushO.close (a := some ⟨b, 0, none⟩) (r := some ⟨rg, 0, none⟩) (sb := sb) (k := k) _ hok ?_ ?_ rfl rfl rfl) ?_
  · (unfold pushNx pushFn; dsimp only; rw [hd]; (first | rw [if_pos (by omega)] | rw [if_neg (by omega), if_pos (by omega)] | rw [if_neg (by omega), if_neg (by omega), if_pos (by omega)] | rw [if_neg (by omega), if_neg (by omega), if_neg (by omega)]); rfl)
  · rw [show pushI { p with at_ := p.at_ + 1 } = p.l.length - 1 by unfold pushI; dsimp only; omega]
  · repeat (first | exact Ent.refl _ | (refine Ent.take1 ?_) | (refine Ent.trans Ent.drop ?_))
theorem push_cas_ {b sb mp : Nat} {k : Sk} {m : Mm} {p : PushS} {r : Option Addr} {c : Nat} {cnt : Int} (hm : m.ok) (hk : k.ok m.ws.length) (hp : p.ok k) (ha : p.at_ = p.l.length + 1) (hd : p.done = false) :
    Fx Tryz.prog 201 [.pointer (some ⟨b, 0, none⟩)] (pushF b sb mp k m p r c cnt G) (pushR b sb mp k m p G) := by
  have hok := pushStep_ok (k := k) hm hp
  have hlp := List.length_pos_iff.2 (hp.ne hd)
  have hv1 := itI_some (l := p.l) (i := 0) (by omega)
  have hr1 := hp.g _ (itI_mem (l := p.l) (i := 0) (by omega))
  have e : pushStep k m p = ({ p with at_ := p.l.length - 1, done := decide (m.at_ k.head = p.was) }, m.cas k.head p.was (nextW p.was (itI p.l 0))) := by
    unfold pushStep; rw [hd]; simp only [Bool.false_eq_true, if_false]; rw [if_neg (by omega), if_neg (by omega), if_neg (by omega)]
  rw [e] at hok
  have hI : pushI p = p.l.length - 1 := by unfold pushI; omega
  refine Fx.mk Tryz.func201 k201 (Nat.le_of_ble_eq_true rfl) ?_
  dsimp only [c201, envOf, Nat.reduceAdd]
  unfold pushF
  rw [hI]
  refine Cx.rowkey (a := r) fun hxl hc1 hc2 hkr => ?_
  obtain ⟨rg, rfl⟩ : ∃ g, r = some ⟨g, 0, none⟩ := by
    rcases hkr with h | h
    · omega
    · exact h
  repeat' (first|refine Zo0 rfl ?_|refine Zo1 ?_|refine Zo2 ?_|refine Zo3 ?_|refine Zo4 ?_|refine Zo5 ?_|refine Zo6 ?_|refine Zo7 ?_|refine Zo8 rfl ?_|refine Zo9 rfl ?_|refine Zoa ?_|refine Zob ?_|refine Zoc ?_|refine Zod ?_|refine Zoe ?_|refine Zof ?_|refine Zog ?_|refine Zoh ?_|refine Zoi rfl ?_|refine Zoj rfl ?_|refine Zok rfl ?_|refine Zol rfl ?_|refine Zom rfl (by rfl) ?_|refine Zon rfl rfl ?_|refine Zoo rfl rfl rfl rfl (by rfl) (by rfl) ?_|refine Zop rfl trivial ?_|refine Zoq rfl rfl rfl ?_)
  refine Cx.ordc rfl (by kernel_rfl) ?_
  repeat' (first|refine Ze0 0 rfl (by kernel_rfl) ?_|refine Ze1 (by kernel_rfl) rfl rfl ?_|refine Ze2 ?_|refine Ze3 ?_|refine Ze4 (by kernel_rfl) rfl rfl (by rfl) ?_|refine Ze5 (by kernel_rfl) rfl rfl rfl ?_|refine Ev.pvH (by kernel_rfl) rfl rfl ⟨by omega, by omega⟩ ?_|refine Ev.pvH (by kernel_rfl) rfl rfl (by decide) ?_|fail)
  refine Ev.ldrH (b := rg) (by kernel_rfl) rfl rfl (v := .int .i64 (itI p.l 0)) hv1 ?_
  repeat' (first|refine Ze0 0 rfl (by kernel_rfl) ?_|refine Ze1 (by kernel_rfl) rfl rfl ?_|refine Ze2 ?_|refine Ze3 ?_|refine Ze4 (by kernel_rfl) rfl rfl (by rfl) ?_|refine Ze5 (by kernel_rfl) rfl rfl rfl ?_|refine Ev.pvH (by kernel_rfl) rfl rfl ⟨by omega, by omega⟩ ?_|refine Ev.pvH (by kernel_rfl) rfl rfl (by decide) ?_|fail)
  refine Ev.caH (by kernel_rfl) rfl rfl (stackExchange (sb := sb) (mp := mp) (k := k) (m := m) p.was (itI p.l 0) hk hp.w (by omega) hr1.2) (Pres.deps (by kernel_rfl)) ?_
  rintro v L' ⟨rfl, rfl⟩
  repeat' (first|refine Ze0 0 rfl (by kernel_rfl) ?_|refine Ze1 (by kernel_rfl) rfl rfl ?_|refine Ze2 ?_|refine Ze3 ?_|refine Ze4 (by kernel_rfl) rfl rfl (by rfl) ?_|refine Ze5 (by kernel_rfl) rfl rfl rfl ?_|refine Ev.pvH (by kernel_rfl) rfl rfl ⟨by omega, by omega⟩ ?_|refine Ev.pvH (by kernel_rfl) rfl rfl (by decide) ?_|fail)
  have hI2 : ∀ d, pushI { p with at_ := p.l.length - 1, done := d } = p.l.length - 1 := fun d => by unfold pushI; dsimp only; omega
  refine Cx.ifn rfl (fun h => ?_) (fun h => ?_)
  · rw [decide_eq_false h] at e hok
    repeat' (first|refine Zo0 rfl ?_|refine Zo1 ?_|refine Zo2 ?_|refine Zo3 ?_|refine Zo4 ?_|refine Zo5 ?_|refine Zo6 ?_|refine Zo7 ?_|refine Zo8 rfl ?_|refine Zo9 rfl ?_|refine Zoa ?_|refine Zob ?_|refine Zoc ?_|refine Zod ?_|refine Zoe ?_|refine Zof ?_|refine Zog ?_|refine Zoh ?_|refine Zoi rfl ?_|refine Zoj rfl ?_|refine Zok rfl ?_|refine Zol rfl ?_|refine Zom rfl (by rfl) ?_|refine Zon rfl rfl ?_|refine Zoo rfl rfl rfl rfl (by rfl) (by rfl) ?_|refine Zop rfl trivial ?_|refine Zoq rfl rfl rfl ?_)
    refine Sx.ca rfl (machGo (b := b)) ?_
    rintro v L' ⟨rfl, rfl⟩
    repeat' (first|refine Zo0 rfl ?_|refine Zo1 ?_|refine Zo2 ?_|refine Zo3 ?_|refine Zo4 ?_|refine Zo5 ?_|refine Zo6 ?_|refine Zo7 ?_|refine Zo8 rfl ?_|refine Zo9 rfl ?_|refine Zoa ?_|refine Zob ?_|refine Zoc ?_|refine Zod ?_|refine Zoe ?_|refine Zof ?_|refine Zog ?_|refine Zoh ?_|refine Zoi rfl ?_|refine Zoj rfl ?_|refine Zok rfl ?_|refine Zol rfl ?_|refine Zom rfl (by rfl) ?_|refine Zon rfl rfl ?_|refine Zoo rfl rfl rfl rfl (by rfl) (by rfl) ?_|refine Zop rfl trivial ?_|refine Zoq rfl rfl rfl ?_)
    refine Kr.none (.inl rfl) ?_ rfl
    rw [e]
    refine Ent.trans (PushO.close (a := some ⟨b, 0, none⟩) (r := some ⟨rg, 0, none⟩) (sb := sb) (k := k) _ hok ?_ ?_ rfl rfl rfl) ?_
    · simp [pushNx, pushFn, show ¬ p.l.length - 1 + 1 < p.l.length by omega, show p.l.length - 1 + 1 = p.l.length by omega]
    · rw [hI2]
    · repeat (first | exact Ent.refl _ | (refine Ent.take1 ?_) | (refine Ent.trans Ent.drop ?_))
  · rw [decide_eq_true h] at e hok
    repeat' (first|refine Zo0 rfl ?_|refine Zo1 ?_|refine Zo2 ?_|refine Zo3 ?_|refine Zo4 ?_|refine Zo5 ?_|refine Zo6 ?_|refine Zo7 ?_|refine Zo8 rfl ?_|refine Zo9 rfl ?_|refine Zoa ?_|refine Zob ?_|refine Zoc ?_|refine Zod ?_|refine Zoe ?_|refine Zof ?_|refine Zog ?_|refine Zoh ?_|refine Zoi rfl ?_|refine Zoj rfl ?_|refine Zok rfl ?_|refine Zol rfl ?_|refine Zom rfl (by rfl) ?_|refine Zon rfl rfl ?_|refine Zoo rfl rfl rfl rfl (by rfl) (by rfl) ?_|refine Zop rfl trivial ?_|refine Zoq rfl rfl rfl ?_)
    refine Kr.none (.inl rfl) ?_ rfl
    rw [e]
    refine Ent.trans (PushO.close (a := some ⟨b, 0, none⟩) (r := some ⟨rg, 0, none⟩) (sb := sb) (k := k) _ hok ?_ ?_ rfl rfl rfl) ?_
    · simp [pushNx]
    · rw [hI2]
    · repeat (first | exact Ent.refl _ | (refine Ent.take1 ?_) | (refine Ent.trans Ent.drop ?_))
/-- One access of a Push. -/
theorem pushStepC {b sb mp : Nat} {k : Sk} {m : Mm} {p : PushS} {F1 F2 : St} (hk : k.ok m.ws.length) [tp : Take L (some ⟨b, 0, none⟩) (PushO sb k p) F1] [t : Take F1 (some ⟨mp, 0, none⟩) (MemO m) F2] [s : Take F2 (some ⟨sb, 0, none⟩) (SkO mp k) G] :
    Fx Tryz.prog 136 [.pointer (some ⟨b, 0, none⟩)] L (fun v L' => v = .bool (!p.done) ∧ L' = pt (some ⟨b, 0, none⟩) (PushO sb k (pushStep k m p).1) :: pt (some ⟨mp, 0, none⟩) (MemO (pushStep k m p).2) :: F2) := by
  refine Fx.mk Tryz.func136 k136 (Nat.le_of_ble_eq_true rfl) ?_
  dsimp only [c136, envOf, Nat.reduceAdd]
  refine Cx.ent (Ent.trans (Ent.of tp.out) (Ent.cons (Ent.trans (Ent.of t.out) (Ent.cons (Ent.of s.out))))) ?_
  refine Cx.pure (memKey (b := mp) (m := m)) fun hm => ?_
  refine Cx.openp (a := some ⟨b, 0, none⟩) rfl ?_
  rintro ⟨⟨r, c⟩, cnt⟩
  simp only [pushL, List.cons_append, List.nil_append]
  refine Cx.liftp fun hp => ?_
  cases hd : p.done with
  | true =>
    have e : pushStep k m p = (p, m) := by unfold pushStep; rw [hd]; rfl
    rw [e, show pushNx (some ⟨b, 0, none⟩) p = .nilFunc by simp [pushNx, hd]]
    repeat' (first|refine Zo0 rfl ?_|refine Zo1 ?_|refine Zo2 ?_|refine Zo3 ?_|refine Zo4 ?_|refine Zo5 ?_|refine Zo6 ?_|refine Zo7 ?_|refine Zo8 rfl ?_|refine Zo9 rfl ?_|refine Zoa ?_|refine Zob ?_|refine Zoc ?_|refine Zod ?_|refine Zoe ?_|refine Zof ?_|refine Zog ?_|refine Zoh ?_|refine Zoi rfl ?_|refine Zoj rfl ?_|refine Zok rfl ?_|refine Zol rfl ?_|refine Zom rfl (by rfl) ?_|refine Zon rfl rfl ?_|refine Zoo rfl rfl rfl rfl (by rfl) (by rfl) ?_|refine Zop rfl trivial ?_|refine Zoq rfl rfl rfl ?_)
    refine Sx.ca rfl (machStepDone (b := b)) ?_
    rintro v L' ⟨rfl, rfl⟩
    repeat' (first|refine Zo0 rfl ?_|refine Zo1 ?_|refine Zo2 ?_|refine Zo3 ?_|refine Zo4 ?_|refine Zo5 ?_|refine Zo6 ?_|refine Zo7 ?_|refine Zo8 rfl ?_|refine Zo9 rfl ?_|refine Zoa ?_|refine Zob ?_|refine Zoc ?_|refine Zod ?_|refine Zoe ?_|refine Zof ?_|refine Zog ?_|refine Zoh ?_|refine Zoi rfl ?_|refine Zoj rfl ?_|refine Zok rfl ?_|refine Zol rfl ?_|refine Zom rfl (by rfl) ?_|refine Zon rfl rfl ?_|refine Zoo rfl rfl rfl rfl (by rfl) (by rfl) ?_|refine Zop rfl trivial ?_|refine Zoq rfl rfl rfl ?_)
    refine Kr.one (.inr rfl) rfl ?_ ⟨rfl, rfl⟩
    refine Ent.trans (PushO.close (a := some ⟨b, 0, none⟩) (r := r) (sb := sb) (k := k) p hp ?_ rfl rfl rfl rfl) (Ent.cons (Ent.cons (Ent.of s.back)))
    simp [pushNx, hd]
  | false =>
    have hcase := hp.a
    rcases (show p.at_ + 1 < p.l.length ∨ p.at_ + 1 = p.l.length ∨ p.at_ = p.l.length ∨ p.at_ = p.l.length + 1 by omega) with ha | ha | ha | ha
    · rw [show pushNx (some ⟨b, 0, none⟩) p = .func (.func 172) #[.pointer (some ⟨b, 0, none⟩)] #[] by (unfold pushNx pushFn; rw [hd]; (first | rw [if_pos (by omega)] | rw [if_neg (by omega), if_pos (by omega)] | rw [if_neg (by omega), if_neg (by omega), if_pos (by omega)] | rw [if_neg (by omega), if_neg (by omega), if_neg (by omega)]); rfl)]
      repeat' (first|refine Zo0 rfl ?_|refine Zo1 ?_|refine Zo2 ?_|refine Zo3 ?_|refine Zo4 ?_|refine Zo5 ?_|refine Zo6 ?_|refine Zo7 ?_|refine Zo8 rfl ?_|refine Zo9 rfl ?_|refine Zoa ?_|refine Zob ?_|refine Zoc ?_|refine Zod ?_|refine Zoe ?_|refine Zof ?_|refine Zog ?_|refine Zoh ?_|refine Zoi rfl ?_|refine Zoj rfl ?_|refine Zok rfl ?_|refine Zol rfl ?_|refine Zom rfl (by rfl) ?_|refine Zon rfl rfl ?_|refine Zoo rfl rfl rfl rfl (by rfl) (by rfl) ?_|refine Zop rfl trivial ?_|refine Zoq rfl rfl rfl ?_)
      refine Sx.ca rfl (machStep (b := b) (by kernel_rfl) (push_link_ (G := G) hm.1 hk hp ha hd)) ?_
      rintro v L' ⟨rfl, u, rfl⟩
      repeat' (first|refine Zo0 rfl ?_|refine Zo1 ?_|refine Zo2 ?_|refine Zo3 ?_|refine Zo4 ?_|refine Zo5 ?_|refine Zo6 ?_|refine Zo7 ?_|refine Zo8 rfl ?_|refine Zo9 rfl ?_|refine Zoa ?_|refine Zob ?_|refine Zoc ?_|refine Zod ?_|refine Zoe ?_|refine Zof ?_|refine Zog ?_|refine Zoh ?_|refine Zoi rfl ?_|refine Zoj rfl ?_|refine Zok rfl ?_|refine Zol rfl ?_|refine Zom rfl (by rfl) ?_|refine Zon rfl rfl ?_|refine Zoo rfl rfl rfl rfl (by rfl) (by rfl) ?_|refine Zop rfl trivial ?_|refine Zoq rfl rfl rfl ?_)
      exact Kr.one (.inr rfl) rfl (Ent.cons (Ent.cons (Ent.of s.back))) ⟨rfl, rfl⟩
    · rw [show pushNx (some ⟨b, 0, none⟩) p = .func (.func 171) #[.pointer (some ⟨b, 0, none⟩)] #[] by (unfold pushNx pushFn; rw [hd]; (first | rw [if_pos (by omega)] | rw [if_neg (by omega), if_pos (by omega)] | rw [if_neg (by omega), if_neg (by omega), if_pos (by omega)] | rw [if_neg (by omega), if_neg (by omega), if_neg (by omega)]); rfl)]
      repeat' (first|refine Zo0 rfl ?_|refine Zo1 ?_|refine Zo2 ?_|refine Zo3 ?_|refine Zo4 ?_|refine Zo5 ?_|refine Zo6 ?_|refine Zo7 ?_|refine Zo8 rfl ?_|refine Zo9 rfl ?_|refine Zoa ?_|refine Zob ?_|refine Zoc ?_|refine Zod ?_|refine Zoe ?_|refine Zof ?_|refine Zog ?_|refine Zoh ?_|refine Zoi rfl ?_|refine Zoj rfl ?_|refine Zok rfl ?_|refine Zol rfl ?_|refine Zom rfl (by rfl) ?_|refine Zon rfl rfl ?_|refine Zoo rfl rfl rfl rfl (by rfl) (by rfl) ?_|refine Zop rfl trivial ?_|refine Zoq rfl rfl rfl ?_)
      refine Sx.ca rfl (machStep (b := b) (by kernel_rfl) (push_load_ (G := G) hm.1 hk hp ha hd)) ?_
      rintro v L' ⟨rfl, u, rfl⟩
      repeat' (first|refine Zo0 rfl ?_|refine Zo1 ?_|refine Zo2 ?_|refine Zo3 ?_|refine Zo4 ?_|refine Zo5 ?_|refine Zo6 ?_|refine Zo7 ?_|refine Zo8 rfl ?_|refine Zo9 rfl ?_|refine Zoa ?_|refine Zob ?_|refine Zoc ?_|refine Zod ?_|refine Zoe ?_|refine Zof ?_|refine Zog ?_|refine Zoh ?_|refine Zoi rfl ?_|refine Zoj rfl ?_|refine Zok rfl ?_|refine Zol rfl ?_|refine Zom rfl (by rfl) ?_|refine Zon rfl rfl ?_|refine Zoo rfl rfl rfl rfl (by rfl) (by rfl) ?_|refine Zop rfl trivial ?_|refine Zoq rfl rfl rfl ?_)
      exact Kr.one (.inr rfl) rfl (Ent.cons (Ent.cons (Ent.of s.back))) ⟨rfl, rfl⟩
    · rw [show pushNx (some ⟨b, 0, none⟩) p = .func (.func 193) #[.pointer (some ⟨b, 0, none⟩)] #[] by (unfold pushNx pushFn; rw [hd]; (first | rw [if_pos (by omega)] | rw [if_neg (by omega), if_pos (by omega)] | rw [if_neg (by omega), if_neg (by omega), if_pos (by omega)] | rw [if_neg (by omega), if_neg (by omega), if_neg (by omega)]); rfl)]
      repeat' (first|refine Zo0 rfl ?_|refine Zo1 ?_|refine Zo2 ?_|refine Zo3 ?_|refine Zo4 ?_|refine Zo5 ?_|refine Zo6 ?_|refine Zo7 ?_|refine Zo8 rfl ?_|refine Zo9 rfl ?_|refine Zoa ?_|refine Zob ?_|refine Zoc ?_|refine Zod ?_|refine Zoe ?_|refine Zof ?_|refine Zog ?_|refine Zoh ?_|refine Zoi rfl ?_|refine Zoj rfl ?_|refine Zok rfl ?_|refine Zol rfl ?_|refine Zom rfl (by rfl) ?_|refine Zon rfl rfl ?_|refine Zoo rfl rfl rfl rfl (by rfl) (by rfl) ?_|refine Zop rfl trivial ?_|refine Zoq rfl rfl rfl ?_)
      refine Sx.ca rfl (machStep (b := b) (by kernel_rfl) (push_last_ (G := G) hm.1 hk hp ha hd)) ?_
      rintro v L' ⟨rfl, u, rfl⟩
      repeat' (first|refine Zo0 rfl ?_|refine Zo1 ?_|refine Zo2 ?_|refine Zo3 ?_|refine Zo4 ?_|refine Zo5 ?_|refine Zo6 ?_|refine Zo7 ?_|refine Zo8 rfl ?_|refine Zo9 rfl ?_|refine Zoa ?_|refine Zob ?_|refine Zoc ?_|refine Zod ?_|refine Zoe ?_|refine Zof ?_|refine Zog ?_|refine Zoh ?_|refine Zoi rfl ?_|refine Zoj rfl ?_|refine Zok rfl ?_|refine Zol rfl ?_|refine Zom rfl (by rfl) ?_|refine Zon rfl rfl ?_|refine Zoo rfl rfl rfl rfl (by rfl) (by rfl) ?_|refine Zop rfl trivial ?_|refine Zoq rfl rfl rfl ?_)
      exact Kr.one (.inr rfl) rfl (Ent.cons (Ent.cons (Ent.of s.back))) ⟨rfl, rfl⟩
    · rw [show pushNx (some ⟨b, 0, none⟩) p = .func (.func 201) #[.pointer (some ⟨b, 0, none⟩)] #[] by (unfold pushNx pushFn; rw [hd]; (first | rw [if_pos (by omega)] | rw [if_neg (by omega), if_pos (by omega)] | rw [if_neg (by omega), if_neg (by omega), if_pos (by omega)] | rw [if_neg (by omega), if_neg (by omega), if_neg (by omega)]); rfl)]
      repeat' (first|refine Zo0 rfl ?_|refine Zo1 ?_|refine Zo2 ?_|refine Zo3 ?_|refine Zo4 ?_|refine Zo5 ?_|refine Zo6 ?_|refine Zo7 ?_|refine Zo8 rfl ?_|refine Zo9 rfl ?_|refine Zoa ?_|refine Zob ?_|refine Zoc ?_|refine Zod ?_|refine Zoe ?_|refine Zof ?_|refine Zog ?_|refine Zoh ?_|refine Zoi rfl ?_|refine Zoj rfl ?_|refine Zok rfl ?_|refine Zol rfl ?_|refine Zom rfl (by rfl) ?_|refine Zon rfl rfl ?_|refine Zoo rfl rfl rfl rfl (by rfl) (by rfl) ?_|refine Zop rfl trivial ?_|refine Zoq rfl rfl rfl ?_)
      refine Sx.ca rfl (machStep (b := b) (by kernel_rfl) (push_cas_ (G := G) hm.1 hk hp ha hd)) ?_
      rintro v L' ⟨rfl, u, rfl⟩
      repeat' (first|refine Zo0 rfl ?_|refine Zo1 ?_|refine Zo2 ?_|refine Zo3 ?_|refine Zo4 ?_|refine Zo5 ?_|refine Zo6 ?_|refine Zo7 ?_|refine Zo8 rfl ?_|refine Zo9 rfl ?_|refine Zoa ?_|refine Zob ?_|refine Zoc ?_|refine Zod ?_|refine Zoe ?_|refine Zof ?_|refine Zog ?_|refine Zoh ?_|refine Zoi rfl ?_|refine Zoj rfl ?_|refine Zok rfl ?_|refine Zol rfl ?_|refine Zom rfl (by rfl) ?_|refine Zon rfl rfl ?_|refine Zoo rfl rfl rfl rfl (by rfl) (by rfl) ?_|refine Zop rfl trivial ?_|refine Zoq rfl rfl rfl ?_)
      exact Kr.one (.inr rfl) rfl (Ent.cons (Ent.cons (Ent.of s.back))) ⟨rfl, rfl⟩
theorem pushDoneC {b sb : Nat} {k : Sk} {p : PushS} {F1 : St} [tp : Take L (some ⟨b, 0, none⟩) (PushO sb k p) F1] : Fx Tryz.prog 137 [.pointer (some ⟨b, 0, none⟩)] L (fun v L' => v = .bool p.done ∧ L = L') := by
  refine Fx.kept (t := tp) ?_
  refine Fx.mk Tryz.func137 k137 (Nat.le_of_ble_eq_true rfl) ?_
  dsimp only [c137, envOf, Nat.reduceAdd]
  refine Cx.openp (t := tp) rfl ?_
  rintro ⟨⟨r, c⟩, cnt⟩
  simp only [pushL, List.cons_append, List.nil_append]
  refine Cx.liftp fun hp => ?_
  cases hd : p.done with
  | true =>
    have e : pushNx (some ⟨b, 0, none⟩) p = .nilFunc := by simp [pushNx, hd]
    rw [e]
    repeat' (first|refine Zo0 rfl ?_|refine Zo1 ?_|refine Zo2 ?_|refine Zo3 ?_|refine Zo4 ?_|refine Zo5 ?_|refine Zo6 ?_|refine Zo7 ?_|refine Zo8 rfl ?_|refine Zo9 rfl ?_|refine Zoa ?_|refine Zob ?_|refine Zoc ?_|refine Zod ?_|refine Zoe ?_|refine Zof ?_|refine Zog ?_|refine Zoh ?_|refine Zoi rfl ?_|refine Zoj rfl ?_|refine Zok rfl ?_|refine Zol rfl ?_|refine Zom rfl (by rfl) ?_|refine Zon rfl rfl ?_|refine Zoo rfl rfl rfl rfl (by rfl) (by rfl) ?_|refine Zop rfl trivial ?_|refine Zoq rfl rfl rfl ?_)
    refine Sx.ca rfl (machDoneYes (b := b)) ?_
    rintro v L' ⟨rfl, rfl⟩
    repeat' (first|refine Zo0 rfl ?_|refine Zo1 ?_|refine Zo2 ?_|refine Zo3 ?_|refine Zo4 ?_|refine Zo5 ?_|refine Zo6 ?_|refine Zo7 ?_|refine Zo8 rfl ?_|refine Zo9 rfl ?_|refine Zoa ?_|refine Zob ?_|refine Zoc ?_|refine Zod ?_|refine Zoe ?_|refine Zof ?_|refine Zog ?_|refine Zoh ?_|refine Zoi rfl ?_|refine Zoj rfl ?_|refine Zok rfl ?_|refine Zol rfl ?_|refine Zom rfl (by rfl) ?_|refine Zon rfl rfl ?_|refine Zoo rfl rfl rfl rfl (by rfl) (by rfl) ?_|refine Zop rfl trivial ?_|refine Zoq rfl rfl rfl ?_)
    exact Kr.one (.inr rfl) rfl (PushO.close (a := some ⟨b, 0, none⟩) (r := r) (sb := sb) (k := k) p hp e.symm rfl rfl rfl rfl) ⟨rfl, rfl⟩
  | false =>
    have e : pushNx (some ⟨b, 0, none⟩) p = .func (.func (pushFn p)) #[.pointer (some ⟨b, 0, none⟩)] #[] := by simp [pushNx, hd]
    rw [e]
    repeat' (first|refine Zo0 rfl ?_|refine Zo1 ?_|refine Zo2 ?_|refine Zo3 ?_|refine Zo4 ?_|refine Zo5 ?_|refine Zo6 ?_|refine Zo7 ?_|refine Zo8 rfl ?_|refine Zo9 rfl ?_|refine Zoa ?_|refine Zob ?_|refine Zoc ?_|refine Zod ?_|refine Zoe ?_|refine Zof ?_|refine Zog ?_|refine Zoh ?_|refine Zoi rfl ?_|refine Zoj rfl ?_|refine Zok rfl ?_|refine Zol rfl ?_|refine Zom rfl (by rfl) ?_|refine Zon rfl rfl ?_|refine Zoo rfl rfl rfl rfl (by rfl) (by rfl) ?_|refine Zop rfl trivial ?_|refine Zoq rfl rfl rfl ?_)
    refine Sx.ca rfl (machDoneNo (b := b)) ?_
    rintro v L' ⟨rfl, rfl⟩
    repeat' (first|refine Zo0 rfl ?_|refine Zo1 ?_|refine Zo2 ?_|refine Zo3 ?_|refine Zo4 ?_|refine Zo5 ?_|refine Zo6 ?_|refine Zo7 ?_|refine Zo8 rfl ?_|refine Zo9 rfl ?_|refine Zoa ?_|refine Zob ?_|refine Zoc ?_|refine Zod ?_|refine Zoe ?_|refine Zof ?_|refine Zog ?_|refine Zoh ?_|refine Zoi rfl ?_|refine Zoj rfl ?_|refine Zok rfl ?_|refine Zol rfl ?_|refine Zom rfl (by rfl) ?_|refine Zon rfl rfl ?_|refine Zoo rfl rfl rfl rfl (by rfl) (by rfl) ?_|refine Zop rfl trivial ?_|refine Zoq rfl rfl rfl ?_)
    exact Kr.one (.inr rfl) rfl (PushO.close (a := some ⟨b, 0, none⟩) (r := r) (sb := sb) (k := k) p hp e.symm rfl rfl rfl rfl) ⟨rfl, rfl⟩
end
end Go.Proofs.YtnbkjcmmjgkdaaaGreat
