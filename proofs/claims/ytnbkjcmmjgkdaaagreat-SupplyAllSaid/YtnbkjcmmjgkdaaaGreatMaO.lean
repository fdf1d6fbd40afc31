/-
  The document's memory and its stacks: New, Fill; its places.
-/
import Derived.Test.YtnbkjcmmjgkdaaaGreatMaJ
import Derived.Test.YtnbkjcmmjgkdaaaGreatLiM
set_option linter.unusedVariables false
set_option linter.unusedSimpArgs false
namespace Go.Proofs.YtnbkjcmmjgkdaaaGreat
open Go
attribute [local irreducible] Sx Cx Rx Fx Krg Ksq Kbl Klp Kr

theorem mm_ext {a b : Mm} (hl : a.ws.length = b.ws.length) (hn : a.n = b.n) (h : ∀ i, a.at_ i = b.at_ i) : a = b := by
  obtain ⟨aw, an⟩ := a
  obtain ⟨bw, bn⟩ := b
  simp only at hl hn
  subst hn
  congr 1
  refine List.ext_getElem hl fun i h1 h2 => ?_
  have := h i
  simp only [Mm.at_, List.getD_eq_getElem?_getD, List.getElem?_eq_getElem h1, List.getElem?_eq_getElem h2, Option.getD_some] at this
  exact this
/-- As the document fills it. -/
def rUp (k : Sk) (m : Mm) : Nat → Mm
  | 0 => m.lay k.head 1
  | i + 1 => if i + 1 = k.n then ((rUp k m i).lay (k.links + i) ((i + 2) % (k.n + 1))).lay (k.links + i) 0 else (rUp k m i).lay (k.links + i) ((i + 2) % (k.n + 1))
theorem rUp_len (k : Sk) (m : Mm) : ∀ i, (rUp k m i).ws.length = m.ws.length
  | 0 => Mm.len_lay
  | i + 1 => by
    unfold rUp
    split <;> simp only [Mm.len_lay] <;> exact rUp_len k m i
theorem rUp_n (k : Sk) (m : Mm) : ∀ i, (rUp k m i).n = m.n
  | 0 => rfl
  | i + 1 => by
    unfold rUp
    split <;> exact rUp_n k m i
theorem rUp_ok {k : Sk} {m : Mm} (h : m.ok) (hn : k.n ≤ 4096) : ∀ i, (rUp k m i).ok
  | 0 => Mm.ok_lay h (by omega)
  | i + 1 => by
    have ih := rUp_ok h hn i
    have : (i + 2) % (k.n + 1) < k.n + 1 := Nat.mod_lt _ (by omega)
    unfold rUp
    split
    · exact Mm.ok_lay (Mm.ok_lay ih (by omega)) (by omega)
    · exact Mm.ok_lay ih (by omega)
theorem rUp_at {k : Sk} {m : Mm} {len : Nat} (hk : k.ok len) (hl : m.ws.length = len) : ∀ i, i ≤ k.n → ∀ a, (rUp k m i).at_ a = if k.head = a then 1 else if k.links ≤ a ∧ a < k.links + i then (if a - k.links + 1 = k.n then 0 else a - k.links + 2) else m.at_ a
  | 0, _, a => by
    have := hk.h
    unfold rUp
    rw [Mm.at_lay _ (by omega)]
    split
    · rfl
    · rw [if_neg (by omega)]
  | i + 1, hi, a => by
    have ih := rUp_at hk hl i (by omega)
    have hll := rUp_len k m i
    have h1 := hk.l; have h2 := hk.a
    unfold rUp
    split
    · rename_i he
      rw [Mm.at_lay _ (by rw [Mm.len_lay]; omega), Mm.at_lay _ (by omega), ih]
      by_cases e : k.links + i = a
      · rw [if_pos e, if_neg (by omega), if_pos (by omega), if_pos (by omega)]
      · rw [if_neg e, if_neg e]
        by_cases hh : k.head = a
        · rw [if_pos hh, if_pos hh]
        · rw [if_neg hh, if_neg hh]
          by_cases hr : k.links ≤ a ∧ a < k.links + i
          · rw [if_pos hr, if_pos (show k.links ≤ a ∧ a < k.links + (i + 1) by omega)]
          · rw [if_neg hr, if_neg (show ¬ (k.links ≤ a ∧ a < k.links + (i + 1)) by omega)]
    · rename_i he
      rw [Mm.at_lay _ (by omega), ih]
      by_cases e : k.links + i = a
      · rw [if_pos e, if_neg (by omega), if_pos (by omega), if_neg (by omega), Nat.mod_eq_of_lt (by omega)]; omega
      · rw [if_neg e]
        by_cases hh : k.head = a
        · rw [if_pos hh, if_pos hh]
        · rw [if_neg hh, if_neg hh]
          by_cases hr : k.links ≤ a ∧ a < k.links + i
          · rw [if_pos hr, if_pos (show k.links ≤ a ∧ a < k.links + (i + 1) by omega)]
          · rw [if_neg hr, if_neg (show ¬ (k.links ≤ a ∧ a < k.links + (i + 1)) by omega)]
theorem rUp_fill {k : Sk} {m : Mm} {len : Nat} (hk : k.ok len) (hl : m.ws.length = len) : rUp k m k.n = fillM k m := by
  have k1 := hk.n1; have k3 := hk.h; have k4 := hk.l; have k5 := hk.a
  have hu := fillUp_at (k := k) (m := m) (i := k.n) (by omega)
  have hul := fillUp_len k m k.n
  refine mm_ext ?_ ?_ fun a => ?_
  · rw [rUp_len, fillM_len]
  · rw [rUp_n, fillM_n]
  · rw [rUp_at hk hl k.n (Nat.le_refl _)]
    unfold fillM
    rw [Mm.at_lay _ (by rw [Mm.len_lay]; omega), Mm.at_lay _ (by omega)]
    by_cases hh : k.head = a
    · rw [if_pos hh, if_pos hh]
    · rw [if_neg hh, if_neg hh]
      by_cases hr : k.links ≤ a ∧ a < k.links + k.n
      · rw [if_pos hr]
        by_cases e : k.links + k.n - 1 = a
        · rw [if_pos e, if_pos (by omega)]
        · rw [if_neg e, if_neg (by omega)]
          have := hu.1 (a - k.links) (by omega)
          rw [show k.links + (a - k.links) = a by omega] at this
          exact this.symm
      · rw [if_neg hr, if_neg (by omega)]
        exact (hu.2 a (fun j hj => by omega)).symm
section
variable {L F G : St}
def rmemL (T : TypeId) (m : Mm) (a : Option Addr) (y : Option Addr × Nat) : St :=
  [lift (m.ok ∧ m.ws.length ≤ 8388608), pt a (Blk T [.slice y.1 m.ws.length y.2, .int .i64 (IntKind.i64.wrap (m.n : Int))]), pt y.1 (Row 103 1 m.ws.length y.2 (us m.ws))]
def RMemT (T : TypeId) (m : Mm) (a : Option Addr) : As := exs (rmemL T m a)
abbrev RMemO := RMemT 108
theorem RMemO.close {T : TypeId} {a r : Option Addr} {c n : Nat} {v : Value} {w : List Value} {F G : St} (m : Mm) (hm : m.ok ∧ m.ws.length ≤ 8388608) [t : Take L a (Blk T [.slice r n c, v]) F] [u : Take F r (Row 103 1 n c w) G]
    (hv : v = .int .i64 (IntKind.i64.wrap (m.n : Int))) (hn : n = m.ws.length) (hw : w = us m.ws) : Ent L (pt a (RMemT T m) :: G) := by
  subst hv; subst hn; subst hw
  refine Ent.trans (Ent.take1 (t := t) (Ent.of u.out)) ?_
  refine Ent.trans (Ent.lift hm (Ent.refl _)) ?_
  exact Ent.close (f := rmemL T m a) rfl (r, c)
theorem rmemNew (n : Nat) (h2 : n ≤ 8388608) : Fx Tryz.prog 128 [.int .i64 n] L (fun v L' => ∃ g, v = .pointer (some ⟨g, 0, none⟩) ∧ L' = pt (some ⟨g, 0, none⟩) (RMemO ⟨List.replicate n 0, 0⟩) :: L) := by
  refine Fx.mk Tryz.func128 k128 (Nat.le_of_ble_eq_true rfl) ?_
  dsimp only [c128, envOf, Nat.reduceAdd]
  repeat' (first|refine Zo0 rfl ?_|refine Zo1 ?_|refine Zo2 ?_|refine Zo3 ?_|refine Zo4 ?_|refine Zo5 ?_|refine Zo6 ?_|refine Zo7 ?_|refine Zo8 rfl ?_|refine Zo9 rfl ?_|refine Zoa ?_|refine Zob ?_|refine Zoc ?_|refine Zod ?_|refine Zoe ?_|refine Zof ?_|refine Zog ?_|refine Zoh ?_|refine Zoi rfl ?_|refine Zoj rfl ?_|refine Zok rfl ?_|refine Zol rfl ?_|refine Zom rfl (by rfl) ?_|refine Zon rfl rfl ?_|refine Zoo rfl rfl rfl rfl (by rfl) (by rfl) ?_|refine Zop rfl trivial ?_|refine Zoq rfl rfl rfl ?_)
  refine Sx.mk rfl rfl (by omega) (by omega) (by omega) (by omega) fun g => ?_
  repeat' (first|refine Zo0 rfl ?_|refine Zo1 ?_|refine Zo2 ?_|refine Zo3 ?_|refine Zo4 ?_|refine Zo5 ?_|refine Zo6 ?_|refine Zo7 ?_|refine Zo8 rfl ?_|refine Zo9 rfl ?_|refine Zoa ?_|refine Zob ?_|refine Zoc ?_|refine Zod ?_|refine Zoe ?_|refine Zof ?_|refine Zog ?_|refine Zoh ?_|refine Zoi rfl ?_|refine Zoj rfl ?_|refine Zok rfl ?_|refine Zol rfl ?_|refine Zom rfl (by rfl) ?_|refine Zon rfl rfl ?_|refine Zoo rfl rfl rfl rfl (by rfl) (by rfl) ?_|refine Zop rfl trivial ?_|refine Zoq rfl rfl rfl ?_)
  refine Sx.bx rfl rfl fun q => ?_
  repeat' (first|refine Zo0 rfl ?_|refine Zo1 ?_|refine Zo2 ?_|refine Zo3 ?_|refine Zo4 ?_|refine Zo5 ?_|refine Zo6 ?_|refine Zo7 ?_|refine Zo8 rfl ?_|refine Zo9 rfl ?_|refine Zoa ?_|refine Zob ?_|refine Zoc ?_|refine Zod ?_|refine Zoe ?_|refine Zof ?_|refine Zog ?_|refine Zoh ?_|refine Zoi rfl ?_|refine Zoj rfl ?_|refine Zok rfl ?_|refine Zol rfl ?_|refine Zom rfl (by rfl) ?_|refine Zon rfl rfl ?_|refine Zoo rfl rfl rfl rfl (by rfl) (by rfl) ?_|refine Zop rfl trivial ?_|refine Zoq rfl rfl rfl ?_)
  refine Kr.one (.inr rfl) rfl ?_ ⟨q, rfl, rfl⟩
  have hu : us (List.replicate n 0) = List.replicate n (.int .u64 0) := by simp [us, wd]
  refine RMemO.close (a := some ⟨q, 0, none⟩) (r := some ⟨g, 0, none⟩) ⟨List.replicate n 0, 0⟩ ⟨fun w hw => ?_, ?_⟩ rfl (by simp) ?_
  · rw [List.eq_of_mem_replicate hw]; omega
  · simpa using h2
  · rw [hu, made_one]; simp
theorem refAt {x : Cn} (hx : x.ok) (fr : Int) (many i : Nat) (hi : i < many) (hf : 0 ≤ fr ∧ fr + i ≤ 1000000000) (hm : many ≤ 1000000000) : Fx Tryz.prog 109 [x.v, .int .i64 fr, .int .i64 many, .int .i64 i] L (fun v L' => v = .int .i64 (fr + i) ∧ L = L') := by
  refine Fx.mk Tryz.func109 k109 (Nat.le_of_ble_eq_true rfl) ?_
  dsimp only [c109, envOf, Nat.reduceAdd]
  refine Cx.sq ?_
  refine Cx.rg ?_
  refine Sx.bx rfl rfl fun g => ?_
  repeat' (first|refine Zo0 rfl ?_|refine Zo1 ?_|refine Zo2 ?_|refine Zo3 ?_|refine Zo4 ?_|refine Zo5 ?_|refine Zo6 ?_|refine Zo7 ?_|refine Zo8 rfl ?_|refine Zo9 rfl ?_|refine Zoa ?_|refine Zob ?_|refine Zoc ?_|refine Zod ?_|refine Zoe ?_|refine Zof ?_|refine Zog ?_|refine Zoh ?_|refine Zoi rfl ?_|refine Zoj rfl ?_|refine Zok rfl ?_|refine Zol rfl ?_|refine Zom rfl (by rfl) ?_|refine Zon rfl rfl ?_|refine Zoo rfl rfl rfl rfl (by rfl) (by rfl) ?_|refine Zop rfl trivial ?_|refine Zoq rfl rfl rfl ?_)
  refine Sx.ca rfl (refMay_ (x.w : Int) x.c x.wd x.sl x.ca x.ba) ?_
  rintro v L' ⟨rfl, rfl⟩
  rw [decide_eq_true (show MayC (x.w : Int) x.c x.wd x.sl x.ca x.ba from hx)]
  repeat' (first|refine Zo0 rfl ?_|refine Zo1 ?_|refine Zo2 ?_|refine Zo3 ?_|refine Zo4 ?_|refine Zo5 ?_|refine Zo6 ?_|refine Zo7 ?_|refine Zo8 rfl ?_|refine Zo9 rfl ?_|refine Zoa ?_|refine Zob ?_|refine Zoc ?_|refine Zod ?_|refine Zoe ?_|refine Zof ?_|refine Zog ?_|refine Zoh ?_|refine Zoi rfl ?_|refine Zoj rfl ?_|refine Zok rfl ?_|refine Zol rfl ?_|refine Zom rfl (by rfl) ?_|refine Zon rfl rfl ?_|refine Zoo rfl rfl rfl rfl (by rfl) (by rfl) ?_|refine Zop rfl trivial ?_|refine Zoq rfl rfl rfl ?_)
  iterate 2 (try (refine Sx.gyes rfl (decide_eq_false (by omega)) ?_; repeat' (first|refine Zo0 rfl ?_|refine Zo1 ?_|refine Zo2 ?_|refine Zo3 ?_|refine Zo4 ?_|refine Zo5 ?_|refine Zo6 ?_|refine Zo7 ?_|refine Zo8 rfl ?_|refine Zo9 rfl ?_|refine Zoa ?_|refine Zob ?_|refine Zoc ?_|refine Zod ?_|refine Zoe ?_|refine Zof ?_|refine Zog ?_|refine Zoh ?_|refine Zoi rfl ?_|refine Zoj rfl ?_|refine Zok rfl ?_|refine Zol rfl ?_|refine Zom rfl (by rfl) ?_|refine Zon rfl rfl ?_|refine Zoo rfl rfl rfl rfl (by rfl) (by rfl) ?_|refine Zop rfl trivial ?_|refine Zoq rfl rfl rfl ?_)))
  refine Cx.cno rfl (decide_eq_false (by omega)) ?_
  repeat' (first|refine Zo0 rfl ?_|refine Zo1 ?_|refine Zo2 ?_|refine Zo3 ?_|refine Zo4 ?_|refine Zo5 ?_|refine Zo6 ?_|refine Zo7 ?_|refine Zo8 rfl ?_|refine Zo9 rfl ?_|refine Zoa ?_|refine Zob ?_|refine Zoc ?_|refine Zod ?_|refine Zoe ?_|refine Zof ?_|refine Zog ?_|refine Zoh ?_|refine Zoi rfl ?_|refine Zoj rfl ?_|refine Zok rfl ?_|refine Zol rfl ?_|refine Zom rfl (by rfl) ?_|refine Zon rfl rfl ?_|refine Zoo rfl rfl rfl rfl (by rfl) (by rfl) ?_|refine Zop rfl trivial ?_|refine Zoq rfl rfl rfl ?_)
  rw [w64 (n := fr + i) (by omega) (by omega)]
  exact Kr.one (.inr rfl) rfl Ent.drop ⟨rfl, rfl⟩
end
end Go.Proofs.YtnbkjcmmjgkdaaaGreat
