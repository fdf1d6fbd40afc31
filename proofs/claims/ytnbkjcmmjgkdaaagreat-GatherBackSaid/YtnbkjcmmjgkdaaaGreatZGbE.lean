/-
  Parts of the proof, merged: what the statement leans on.
-/
import Derived.Test.YtnbkjcmmjgkdaaaGreatZGbD
/-
  The document's memory and its stacks: New, Fill; its places.
-/
set_option linter.unusedVariables false
set_option linter.unusedSimpArgs false
namespace Go.Proofs.YtnbkjcmmjgkdaaaGreat
open Go
attribute [local irreducible] Sx Cx Rx Fx Krg Ksq Kbl Klp Kr
theorem mm_ext {a b : Mm} (hl : a.ws.length = b.ws.length) (hn : a.n = b.n) (h : ∀ i, a.at_ i = b.at_ i) : a = b := by
  obtain ⟨aw, an⟩ := a
  obtain ⟨bw, bn⟩ := b
  simp only at hl hn
  subst hn
  congr 1
  refine List.ext_getElem hl fun i h1 h2 => ?_
  have := h i
  simp only [Mm.at_, List.getD_eq_getElem?_getD, List.getElem?_eq_getElem h1, List.getElem?_eq_getElem h2, Option.getD_some] at this
  exact this
/-- As the document fills it. -/
def rUp (k : Sk) (m : Mm) : Nat → Mm
  | 0 => m.lay k.head 1
  | i + 1 => if i + 1 = k.n then ((rUp k m i).lay (k.links + i) ((i + 2) % (k.n + 1))).lay (k.links + i) 0 else (rUp k m i).lay (k.links + i) ((i + 2) % (k.n + 1))
theorem rUp_len (k : Sk) (m : Mm) : ∀ i, (rUp k m i).ws.length = m.ws.length
  | 0 => Mm.len_lay
  | i + 1 => by
    unfold rUp
    split <;> simp only [Mm.len_lay] <;> exact rUp_len k m i
theorem rUp_n (k : Sk) (m : Mm) : ∀ i, (rUp k m i).n = m.n
  | 0 => rfl
  | i + 1 => by
    unfold rUp
    split <;> exact rUp_n k m i
theorem rUp_at {k : Sk} {m : Mm} {len : Nat} (hk : k.ok len) (hl : m.ws.length = len) : ∀ i, i ≤ k.n → ∀ a, (rUp k m i).at_ a = if k.head = a then 1 else if k.links ≤ a ∧ a < k.links + i then (if a - k.links + 1 = k.n then 0 else a - k.links + 2) else m.at_ a
  | 0, _, a => by
    have := hk.h
    unfold rUp
    rw [Mm.at_lay _ (by omega)]
    split
    · rfl
    · rw [if_neg (by omega)]
  | i + 1, hi, a => by
    have ih := rUp_at hk hl i (by omega)
    have hll := rUp_len k m i
    have h1 := hk.l; have h2 := hk.a
    unfold rUp
    split
    · rename_i he
      rw [Mm.at_lay _ (by rw [Mm.len_lay]; omega), Mm.at_lay _ (by omega), ih]
      by_cases e : k.links + i = a
      · rw [if_pos e, if_neg (by omega), if_pos (by omega), if_pos (by omega)]
      · rw [if_neg e, if_neg e]
        by_cases hh : k.head = a
        · rw [if_pos hh, if_pos hh]
        · rw [if_neg hh, if_neg hh]
          by_cases hr : k.links ≤ a ∧ a < k.links + i
          · rw [if_pos hr, if_pos (show k.links ≤ a ∧ a < k.links + (i + 1) by omega)]
          · rw [if_neg hr, if_neg (show ¬ (k.links ≤ a ∧ a < k.links + (i + 1)) by omega)]
    · rename_i he
      rw [Mm.at_lay _ (by omega), ih]
      by_cases e : k.links + i = a
      · rw [if_pos e, if_neg (by omega), if_pos (by omega), if_neg (by omega), Nat.mod_eq_of_lt (by omega)]; omega
      · rw [if_neg e]
        by_cases hh : k.head = a
        · rw [if_pos hh, if_pos hh]
        · rw [if_neg hh, if_neg hh]
          by_cases hr : k.links ≤ a ∧ a < k.links + i
          · rw [if_pos hr, if_pos (show k.links ≤ a ∧ a < k.links + (i + 1) by omega)]
          · rw [if_neg hr, if_neg (show ¬ (k.links ≤ a ∧ a < k.links + (i + 1)) by omega)]
theorem rUp_fill {k : Sk} {m : Mm} {len : Nat} (hk : k.ok len) (hl : m.ws.length = len) : rUp k m k.n = fillM k m := by
  have k1 := hk.n1; have k3 := hk.h; have k4 := hk.l; have k5 := hk.a
  have hu := fillUp_at (k := k) (m := m) (i := k.n) (by omega)
  have hul := fillUp_len k m k.n
  refine mm_ext ?_ ?_ fun a => ?_
  · rw [rUp_len, fillM_len]
  · rw [rUp_n, fillM_n]
  · rw [rUp_at hk hl k.n (Nat.le_refl _)]
    unfold fillM
    rw [Mm.at_lay _ (by rw [Mm.len_lay]; omega), Mm.at_lay _ (by omega)]
    by_cases hh : k.head = a
    · rw [if_pos hh, if_pos hh]
    · rw [if_neg hh, if_neg hh]
      by_cases hr : k.links ≤ a ∧ a < k.links + k.n
      · rw [if_pos hr]
        by_cases e : k.links + k.n - 1 = a
        · rw [if_pos e, if_pos (by omega)]
        · rw [if_neg e, if_neg (by omega)]
          have := hu.1 (a - k.links) (by omega)
          rw [show k.links + (a - k.links) = a by omega] at this
          exact this.symm
      · rw [if_neg hr, if_neg (by omega)]
        exact (hu.2 a (fun j hj => by omega)).symm
section
variable {L F G : St}
def rmemL (T : TypeId) (m : Mm) (a : Option Addr) (y : Option Addr × Nat) : St :=
  [lift (m.ok ∧ m.ws.length ≤ 8388608), pt a (Blk T [.slice y.1 m.ws.length y.2, .int .i64 (IntKind.i64.wrap (m.n : Int))]), pt y.1 (Row 103 1 m.ws.length y.2 (us m.ws))]
def RMemT (T : TypeId) (m : Mm) (a : Option Addr) : As := exs (rmemL T m a)
abbrev RMemO := RMemT 108
theorem RMemO.close {T : TypeId} {a r : Option Addr} {c n : Nat} {v : Value} {w : List Value} {F G : St} (m : Mm) (hm : m.ok ∧ m.ws.length ≤ 8388608) [t : Take L a (Blk T [.slice r n c, v]) F] [u : Take F r (Row 103 1 n c w) G]
    (hv : v = .int .i64 (IntKind.i64.wrap (m.n : Int))) (hn : n = m.ws.length) (hw : w = us m.ws) : Ent L (pt a (RMemT T m) :: G) := by
  subst hv; subst hn; subst hw
  refine Ent.trans (Ent.take1 (t := t) (Ent.of u.out)) ?_
  refine Ent.trans (Ent.lift hm (Ent.refl _)) ?_
  exact Ent.close (f := rmemL T m a) rfl (r, c)
theorem rmemNew (n : Nat) (h2 : n ≤ 8388608) : Fx Tryz.prog 128 [.int .i64 n] L (fun v L' => ∃ g, v = .pointer (some ⟨g, 0, none⟩) ∧ L' = pt (some ⟨g, 0, none⟩) (RMemO ⟨List.replicate n 0, 0⟩) :: L) := by
  refine Fx.mk Tryz.func128 k128 (Nat.le_of_ble_eq_true rfl) ?_
  dsimp only [c128, envOf, Nat.reduceAdd]
  refine go ?_
  refine Sx.mk rfl rfl (by omega) (by omega) (by omega) (by omega) fun g => ?_
  refine go ?_
  refine Sx.bx rfl rfl fun q => ?_
  refine go ?_
  refine Kr.one (.inr rfl) rfl ?_ ⟨q, rfl, rfl⟩
  have hu : us (List.replicate n 0) = List.replicate n (.int .u64 0) := by simp [us, wd]
  refine RMemO.close (a := some ⟨q, 0, none⟩) (r := some ⟨g, 0, none⟩) ⟨List.replicate n 0, 0⟩ ⟨fun w hw => ?_, ?_⟩ rfl (by simp) ?_
  · rw [List.eq_of_mem_replicate hw]; omega
  · simpa using h2
  · rw [hu, made_one]; simp
theorem refAt {x : Cn} (hx : x.ok) (fr : Int) (many i : Nat) (hi : i < many) (hf : 0 ≤ fr ∧ fr + i ≤ 1000000000) (hm : many ≤ 1000000000) : Fx Tryz.prog 109 [x.v, .int .i64 fr, .int .i64 many, .int .i64 i] L (fun v L' => v = .int .i64 (fr + i) ∧ L = L') := by
  refine Fx.mk Tryz.func109 k109 (Nat.le_of_ble_eq_true rfl) ?_
  dsimp only [c109, envOf, Nat.reduceAdd]
  refine Cx.sq ?_
  refine Cx.rg ?_
  refine Sx.bx rfl rfl fun g => ?_
  refine go ?_
  refine Sx.ca rfl (refMay_ (x.w : Int) x.c x.wd x.sl x.ca x.ba) ?_
  rintro v L' ⟨rfl, rfl⟩
  rw [decide_eq_true (show MayC (x.w : Int) x.c x.wd x.sl x.ca x.ba from hx)]
  refine go ?_
  iterate 2 (try (refine Sx.gyes rfl (decide_eq_false (by omega)) ?_; refine go ?_))
  refine Cx.cno rfl (decide_eq_false (by omega)) ?_
  refine go ?_
  rw [w64 (n := fr + i) (by omega) (by omega)]
  exact Kr.one (.inr rfl) rfl Ent.drop ⟨rfl, rfl⟩
end
end Go.Proofs.YtnbkjcmmjgkdaaaGreat

/-
  More rules of regions that draw: a store into a row.
-/
set_option linter.unusedVariables false
set_option linter.unusedSimpArgs false
namespace Go.Proofs.YtnbkjcmmjgkdaaaGreat
open Go
theorem lay1 {cs : List Value} {off : Nat} {u : Value} (h : off < cs.length) : lay cs off [u] = cs.set off u := by
  have := lay_cons cs off u [] (by simp; omega)
  rw [← this, lay_nil]
section
variable {P : Program} {N : Nat} {L F : St} {Kf : En → St → Prop} {e : En} {r : List It} {ms : List (Nat × (St → Prop))} {i ds sz : Nat} {rs : List Nat} {d : Option Nat} {g : Option (Nat × Bool)}
/-- A store of one cell into a row. -/
theorem Ev.strH {x v : X} {b off E n cap : Nat} {xs ys : List Value} {u : Value} [t : Take L (some ⟨b, 0, none⟩) (Row E sz n cap xs) F] (hd : lastly i r = true) (hg : gon (e.only rs) g = true)
    (hx : x.get (e.only rs) = some (.pointer (some ⟨b, off, none⟩))) (hv : v.get (e.only rs) = some u) (hu : cellsOf u = some [u]) (h1 : u.oneCell' = true) (hl : off < xs.length) (hy : xs.set off u = ys)
    (hp : Pres ds (fun v L' => v = undef ∧ L' = pt (some ⟨b, 0, none⟩) (Row E sz n cap ys) :: F) ms)
    (k : Ev P N Kf r ms (e.put d undef) (pt (some ⟨b, 0, none⟩) (Row E sz n cap ys) :: F)) : Ev P N Kf (⟨i, ds, rs, ⟨d, g, .st x v 1⟩⟩ :: r) ms e L :=
  .genH hd hp hg (fun e' hs K kk => Sx.str (t := t) (X.get_sub hx hs) (X.get_sub hv hs) hu rfl (by simp [ones, h1]) hl (by rw [lay1 hl, hy]) (Sx.nil (kk _ _ ⟨rfl, rfl⟩)))
    (fun v L' ⟨e1, e2⟩ => by subst e1; subst e2; exact k)
/-- The same, by one access. -/
theorem Sx.str1 {l : List G} {K : En → St → Prop} {x v : X} {b off E n cap : Nat} {xs ys : List Value} {u : Value} [t : Take L (some ⟨b, 0, none⟩) (Row E sz n cap xs) F] (hx : x.get e = some (.pointer (some ⟨b, off, none⟩))) (hv : v.get e = some u)
    (hu : cellsOf u = some [u]) (h1 : u.oneCell' = true) (hl : off < xs.length) (hy : xs.set off u = ys) (k : Sx P N l (e.put d undef) K (pt (some ⟨b, 0, none⟩) (Row E sz n cap ys) :: F)) :
    Sx P N (⟨d, none, .st x v 1⟩ :: l) e K L := Sx.str hx hv hu rfl (by simp [ones, h1]) hl (by rw [lay1 hl, hy]) k
end
end Go.Proofs.YtnbkjcmmjgkdaaaGreat

/-
  The document's stacks: Fill; its places.
-/
set_option linter.unusedVariables false
set_option linter.unusedSimpArgs false
namespace Go.Proofs.YtnbkjcmmjgkdaaaGreat
open Go
attribute [local irreducible] Sx Cx Rx Fx Krg Ksq Kbl Klp Kr
theorem natTmod (a b : Nat) : ((a : Int)).tmod (b : Int) = ((a % b : Nat) : Int) := by
  rw [Int.tmod_eq_emod_of_nonneg (Int.natCast_nonneg a)]
  exact (Int.natCast_emod a b).symm
section
variable {L F G : St}
abbrev RSkO (mp : Nat) (k : Sk) : Option Addr → As := Blk 156 (skV mp k)
theorem refPutHead (i : Int) (t : Nat) (h1 : -1 ≤ i) (h2 : i < 4294967295) (ht : t < 4294967296) : Fx Tryz.prog 169 [hdV i t] L (fun v L' => v = .tuple #[wd (t * 4294967296 + (i + 1).toNat), .bool true] ∧ L = L') := by
  refine Fx.mk Tryz.func169 k169 (Nat.le_of_ble_eq_true rfl) ?_
  dsimp only [c169, envOf, Nat.reduceAdd]
  refine Cx.sq ?_
  refine Cx.rg ?_
  refine Sx.bx rfl rfl fun g => ?_
  refine go ?_
  iterate 3 (try (refine Sx.gyes rfl (decide_eq_false (by omega)) ?_; refine go ?_))
  refine Cx.cno rfl (decide_eq_false (by omega)) ?_
  refine go ?_
  rw [wrap64 (n := t) (by omega), w64 (n := i + 1) (by omega) (by omega), show i + 1 = (((i + 1).toNat : Nat) : Int) by omega, wrap64 (n := (i + 1).toNat) (by omega), show (t : Int) * 4294967296 = ((t * 4294967296 : Nat) : Int) by omega, wrap64 (n := t * 4294967296) (by omega),
    show ((t * 4294967296 : Nat) : Int) + ((i + 1).toNat : Nat) = ((t * 4294967296 + (i + 1).toNat : Nat) : Int) by omega, wrap64 (n := t * 4294967296 + (i + 1).toNat) (by omega)]
  exact Kr.two (.inr rfl) rfl rfl Ent.drop ⟨rfl, rfl⟩
theorem Cn.ok.b {x : Cn} (hx : x.ok) : x.w ≤ 64 ∧ x.c ≤ 4096 ∧ x.wd ≤ 1024 ∧ x.sl ≤ 4096 ∧ x.ca ≤ 64 ∧ x.ba ≤ 8 ∧ 1 ≤ x.w ∧ 1 ≤ x.c ∧ 8 ≤ x.wd ∧ 1 ≤ x.sl ∧ 1 ≤ x.ba := by
  obtain ⟨h1, h2, h3, h4, h5, h6, h7⟩ := hx
  omega
theorem refLen {x : Cn} (hx : x.ok) : Fx Tryz.prog 129 [x.v] L (fun v L' => v = .int .i64 (x.len : Int) ∧ L = L') := by
  obtain ⟨b1, b2, b3, b4, b5, b6, b7⟩ := hx.b
  have hmul : x.c * x.wd ≤ 4194304 := by have := Nat.mul_le_mul b2 b3; omega
  refine Fx.mk Tryz.func129 k129 (Nat.le_of_ble_eq_true rfl) ?_
  dsimp only [c129, envOf, Nat.reduceAdd]
  refine Cx.sq ?_
  refine Cx.rg ?_
  refine Sx.bx rfl rfl fun g => ?_
  refine go ?_
  refine Sx.ca rfl (refMay_ (x.w : Int) x.c x.wd x.sl x.ca x.ba) ?_
  rintro v L' ⟨rfl, rfl⟩
  rw [decide_eq_true (show MayC (x.w : Int) x.c x.wd x.sl x.ca x.ba from hx)]
  refine go ?_
  rw [show (x.c : Int) * x.wd = ((x.c * x.wd : Nat) : Int) by push_cast; rfl, w64 (n := (3 : Int) + x.w) (by omega) (by omega), w64 (n := (2 : Int) * x.sl) (by omega) (by omega), w64 (n := (3 : Int) + x.w + 2 * x.sl) (by omega) (by omega), w64 (n := (3 : Int) + x.w + 2 * x.sl + x.c) (by omega) (by omega),
    w64 (n := ((x.c * x.wd : Nat) : Int)) (by omega) (by omega), w64 (n := (3 : Int) + x.w + 2 * x.sl + x.c + ((x.c * x.wd : Nat) : Int)) (by omega) (by omega)]
  refine Kr.one (.inr rfl) rfl Ent.drop ⟨congrArg (Value.int .i64) ?_, rfl⟩
  unfold Cn.len; omega
theorem refLink {x : Cn} (hx : x.ok) (i : Nat) (hi : i < x.c) : Fx Tryz.prog 130 [x.v, .int .i64 i] L (fun v L' => v = .int .i64 ((x.link + i : Nat) : Int) ∧ L = L') := by
  obtain ⟨b1, b2, b3, b4, b5, b6, b7⟩ := hx.b
  refine Fx.mk Tryz.func130 k130 (Nat.le_of_ble_eq_true rfl) ?_
  dsimp only [c130, envOf, Nat.reduceAdd]
  refine Cx.sq ?_
  refine Cx.rg ?_
  refine Sx.bx rfl rfl fun g => ?_
  refine go ?_
  rw [w64 (n := (3 : Int) + x.w) (by omega) (by omega), w64 (n := (2 : Int) * x.sl) (by omega) (by omega), w64 (n := (3 : Int) + x.w + 2 * x.sl) (by omega) (by omega)]
  refine Sx.ca rfl (refAt hx ((3 : Int) + x.w + 2 * x.sl) x.c i hi (by omega) (by omega)) ?_
  rintro v L' ⟨rfl, rfl⟩
  refine go ?_
  refine Kr.one (.inr rfl) rfl Ent.drop ⟨congrArg (Value.int .i64) ?_, rfl⟩
  unfold Cn.link; omega
theorem refSlot {x : Cn} (hx : x.ok) (i : Nat) (hi : i < x.sl) : Fx Tryz.prog 71 [x.v, .int .i64 i] L (fun v L' => v = .int .i64 ((x.slot + i : Nat) : Int) ∧ L = L') := by
  obtain ⟨b1, b2, b3, b4, b5, b6, b7⟩ := hx.b
  refine Fx.mk Tryz.func71 k71 (Nat.le_of_ble_eq_true rfl) ?_
  dsimp only [c71, envOf, Nat.reduceAdd]
  refine Cx.sq ?_
  refine Cx.rg ?_
  refine Sx.bx rfl rfl fun g => ?_
  refine go ?_
  rw [w64 (n := (3 : Int) + x.w) (by omega) (by omega), w64 (n := (3 : Int) + x.w + x.sl) (by omega) (by omega)]
  refine Sx.ca rfl (refAt hx ((3 : Int) + x.w + x.sl) x.sl i hi (by omega) (by omega)) ?_
  rintro v L' ⟨rfl, rfl⟩
  refine go ?_
  refine Kr.one (.inr rfl) rfl Ent.drop ⟨congrArg (Value.int .i64) ?_, rfl⟩
  unfold Cn.slot; omega
theorem refPin {x : Cn} (hx : x.ok) (i : Nat) (hi : i < x.w) : Fx Tryz.prog 47 [x.v, .int .i64 i] L (fun v L' => v = .int .i64 ((3 + i : Nat) : Int) ∧ L = L') := by
  obtain ⟨b1, b2, b3, b4, b5, b6, b7⟩ := hx.b
  refine Fx.mk Tryz.func47 k47 (Nat.le_of_ble_eq_true rfl) ?_
  dsimp only [c47, envOf, Nat.reduceAdd]
  refine Cx.sq ?_
  refine Cx.rg ?_
  refine Sx.bx rfl rfl fun g => ?_
  refine go ?_
  refine Sx.ca rfl (refAt hx (3 : Int) x.w i hi (by omega) (by omega)) ?_
  rintro v L' ⟨rfl, rfl⟩
  refine go ?_
  refine Kr.one (.inr rfl) rfl Ent.drop ⟨congrArg (Value.int .i64) ?_, rfl⟩
  omega
set_option maxHeartbeats 2000000 in
theorem refFill {sb mp : Nat} {k : Sk} {m : Mm} (hk : k.ok m.ws.length) [t : Take L (some ⟨mp, 0, none⟩) (RMemO m) F] [s : Take F (some ⟨sb, 0, none⟩) (RSkO mp k) G] :
    Fx Tryz.prog 131 [.pointer (some ⟨sb, 0, none⟩)] L (fun v L' => L' = pt (some ⟨mp, 0, none⟩) (RMemO (fillM k m)) :: F) := by
  have hfill := rUp_fill hk rfl
  have hk0 := hk
  obtain ⟨k1, k2, k3, k4, k5, k6⟩ := hk
  refine Fx.mk Tryz.func131 k131 (Nat.le_of_ble_eq_true rfl) ?_
  dsimp only [c131, envOf, Nat.reduceAdd]
  refine Cx.ent (Ent.trans (Ent.of t.out) (Ent.cons (Ent.of s.out))) ?_
  refine Cx.openp (a := some ⟨mp, 0, none⟩) rfl ?_
  rintro ⟨r, c⟩
  simp only [rmemL, List.cons_append, List.nil_append]
  refine Cx.liftp fun hm => ?_
  refine Cx.rowkey (a := r) fun hx0 hn0 _ hk1 => ?_
  obtain ⟨rg, rfl⟩ : ∃ g, r = some ⟨g, 0, none⟩ := by
    rcases hk1 with h | h
    · omega
    · exact h
  refine go ?_
  refine Sx.ca rfl (refPutHead 0 0 (by omega) (by omega) (by omega)) ?_
  rintro v L' ⟨rfl, rfl⟩
  refine go ?_
  refine Cx.ordc rfl (by kernel_rfl) ?_
  refine ge ?_
  refine Ev.strH (b := rg) (by kernel_rfl) rfl rfl rfl rfl rfl (by rw [length_us]; simp; omega) rfl (Pres.deps (by kernel_rfl)) ?_
  refine ge ?_
  refine go ?_
  have hset : (us m.ws).set (0 + (k.head : Int).toNat * 1) (wd (0 * 4294967296 + (0 + 1 : Int).toNat)) = us (rUp k m 0).ws := by
    rw [show 0 + (k.head : Int).toNat * 1 = k.head by simp]
    exact us_set m.ws k.head 1
  refine Cx.lp (α := {i : Nat // i ≤ k.n}) (fun i => [(0, .pointer (some ⟨sb, 0, none⟩)), (4, .int .i64 i.1)])
    (fun i => pt (some ⟨rg, 0, none⟩) (Row 103 1 m.ws.length c (us (rUp k m i.1).ws)) :: pt (some ⟨mp, 0, none⟩) (Blk 108 [.slice (some ⟨rg, 0, none⟩) m.ws.length c, .int .i64 (IntKind.i64.wrap (m.n : Int))]) :: pt (some ⟨sb, 0, none⟩) (RSkO mp k) :: G)
    (fun i => k.n - i.1) ⟨0, by omega⟩ (sub.cons rfl (sub.cons rfl sub.nil)) (by rw [← hset]; exact Ent.refl _) ?_
  rintro ⟨i, hi⟩
  dsimp only
  have hil := rUp_len k m i
  have hul : (us (rUp k m i).ws).length = m.ws.length := by rw [length_us, hil]
  refine go ?_
  refine Cx.ifp rfl (fun h => ?_) (fun h => ?_)
  · refine go ?_
    refine Cx.ordc rfl (by kernel_rfl) ?_
    refine ge ?_
    rw [w64 (n := (k.links : Int) + i) (by omega) (by omega), w64 (n := (i : Int) + 2) (by omega) (by omega), w64 (n := (k.n : Int) + 1) (by omega) (by omega)]
    refine Ev.pvH (by kernel_rfl) rfl rfl (by omega) ?_
    have hmlt : (i + 2) % (k.n + 1) < k.n + 1 := Nat.mod_lt _ (by omega)
    rw [show (i : Int) + 2 = ((i + 2 : Nat) : Int) by omega, show (k.n : Int) + 1 = ((k.n + 1 : Nat) : Int) by omega, natTmod]
    refine ge ?_
    rw [wrap64 (n := (i + 2) % (k.n + 1)) (by omega)]
    refine Ev.strH (b := rg) (by kernel_rfl) rfl rfl rfl rfl rfl (by rw [hul]; simp; omega) rfl (Pres.deps (by kernel_rfl)) ?_
    refine ge ?_
    rw [show (us (rUp k m i).ws).set (0 + ((k.links : Int) + i).toNat * 1) (.int .u64 (((i + 2) % (k.n + 1) : Nat) : Int)) = us ((rUp k m i).lay (k.links + i) ((i + 2) % (k.n + 1))).ws by
      rw [show 0 + ((k.links : Int) + i).toNat * 1 = k.links + i by omega]
      exact us_set _ _ _]
    have hul2 : (us ((rUp k m i).lay (k.links + i) ((i + 2) % (k.n + 1))).ws).length = m.ws.length := by rw [length_us, Mm.len_lay, hil]
    refine go ?_
    rw [w64 (n := (k.n : Int) - 1) (by omega) (by omega)]
    refine Cx.ifp rfl (fun h2 => ?_) (fun h2 => ?_)
    · have e : rUp k m (i + 1) = ((rUp k m i).lay (k.links + i) ((i + 2) % (k.n + 1))).lay (k.links + i) 0 := by rw [rUp.eq_def]; simp only; rw [if_pos (by omega)]
      refine go ?_
      refine Cx.orde rfl (by kernel_rfl) ?_
      refine ge ?_
      rw [w64 (n := (k.links : Int) + i) (by omega) (by omega)]
      refine ge ?_
      refine Ev.strH (b := rg) (by kernel_rfl) rfl rfl rfl rfl rfl (by rw [hul2]; simp; omega) rfl (Pres.deps (by kernel_rfl)) ?_
      refine ge ?_
      rw [show (us ((rUp k m i).lay (k.links + i) ((i + 2) % (k.n + 1))).ws).set (0 + ((k.links : Int) + i).toNat * 1) (.int .u64 0) = us (rUp k m (i + 1)).ws by
        rw [show 0 + ((k.links : Int) + i).toNat * 1 = k.links + i by omega, e]
        exact us_set _ _ 0]
      refine go ?_
      rw [w64 (n := (i : Int) + 1) (by omega) (by omega)]
      exact Klp.nm ⟨i + 1, by omega⟩ (sub.cons rfl (sub.cons rfl sub.nil)) (Ent.refl _) (by dsimp only; omega)
    · have e : rUp k m (i + 1) = (rUp k m i).lay (k.links + i) ((i + 2) % (k.n + 1)) := by rw [rUp.eq_def]; simp only; rw [if_neg (by omega)]
      rw [← e]
      refine go ?_
      rw [w64 (n := (i : Int) + 1) (by omega) (by omega)]
      exact Klp.nm ⟨i + 1, by omega⟩ (sub.cons rfl (sub.cons rfl sub.nil)) (Ent.refl _) (by dsimp only; omega)
  · have hin : i = k.n := by omega
    subst hin
    refine go ?_
    refine Kr.none (.inl rfl) ?_ rfl
    have hl2 : (fillM k m).ws.length = m.ws.length := fillM_len k m
    refine Ent.trans ?_ (Ent.cons (Ent.of s.back))
    refine RMemO.close (a := some ⟨mp, 0, none⟩) (r := some ⟨rg, 0, none⟩) (fillM k m) ⟨fillM_ok hm.1 k2, by rw [hl2]; exact hm.2⟩ ?_ hl2.symm ?_
    · rw [fillM_n]
    · rw [hfill]
end
end Go.Proofs.YtnbkjcmmjgkdaaaGreat

/-
  The document's memory by a configuration; its supplies.
-/
set_option linter.unusedVariables false
set_option linter.unusedSimpArgs false
namespace Go.Proofs.YtnbkjcmmjgkdaaaGreat
open Go
attribute [local irreducible] Sx Cx Rx Fx Krg Ksq Kbl Klp Kr
section
variable {L F G : St}
abbrev RWO (x : Cn) (rm rp rs re : Nat) : Option Addr → As := Blk 74 (x.l ++ [.pointer (some ⟨rm, 0, none⟩), .pointer (some ⟨rp, 0, none⟩), .pointer (some ⟨rs, 0, none⟩), .pointer (some ⟨re, 0, none⟩)])
abbrev REpO (x : Cn) (rm : Nat) : Option Addr → As := Blk 175 [.pointer (some ⟨rm, 0, none⟩), .int .i64 2, .int .i64 3, .int .i64 x.w]
def zeroM (x : Cn) : Mm := ⟨List.replicate x.len 0, 0⟩
theorem zeroM_len (x : Cn) : (zeroM x).ws.length = x.len := by simp [zeroM]
set_option maxHeartbeats 2000000 in
theorem refWNew {x : Cn} (hx : x.ok) : Fx Tryz.prog 69 [x.v] L (fun v L' => ∃ w rm rp rs re, v = .pointer (some ⟨w, 0, none⟩) ∧
    L' = pt (some ⟨w, 0, none⟩) (RWO x rm rp rs re) :: pt (some ⟨rm, 0, none⟩) (RMemO (fillM x.spare (fillM x.pool (zeroM x)))) :: pt (some ⟨rp, 0, none⟩) (RSkO rm x.pool) :: pt (some ⟨rs, 0, none⟩) (RSkO rm x.spare) :: pt (some ⟨re, 0, none⟩) (REpO x rm) :: L) := by
  obtain ⟨b1, b2, b3, b4, b5, b6, b7⟩ := hx.b
  have hlen := hx.len_le
  refine Fx.mk Tryz.func69 k69 (Nat.le_of_ble_eq_true rfl) ?_
  dsimp only [c69, envOf, Nat.reduceAdd]
  refine Cx.sq ?_
  refine Cx.rg ?_
  refine Sx.bx rfl rfl fun g => ?_
  refine go ?_
  refine Sx.ca rfl (refLen hx) ?_
  rintro v L' ⟨rfl, rfl⟩
  refine go ?_
  refine Sx.ca rfl (rmemNew x.len hlen) ?_
  rintro v L' ⟨rm, rfl, rfl⟩
  refine go ?_
  refine Sx.bx rfl rfl fun w => ?_
  refine go ?_
  refine Cx.ordc rfl (by kernel_rfl) ?_
  refine ge ?_
  refine Ev.cakH (by kernel_rfl) rfl rfl (refLink hx 0 (by omega)) ?_
  refine ge ?_
  refine Ev.bxH (by kernel_rfl) rfl rfl rfl (Pres.deps (by kernel_rfl)) fun rp => ?_
  refine ge ?_
  refine Ev.stbH (b := w) (by kernel_rfl) rfl rfl rfl rfl rfl (by rfl) rfl (Pres.deps (by kernel_rfl)) ?_
  refine ge ?_
  refine go ?_
  refine Cx.ordc rfl (by kernel_rfl) ?_
  refine ge ?_
  refine Ev.cakH (by kernel_rfl) rfl rfl (refSlot hx 0 (by omega)) ?_
  refine ge ?_
  refine Ev.bxH (by kernel_rfl) rfl rfl rfl (Pres.deps (by kernel_rfl)) fun rs => ?_
  refine ge ?_
  refine Ev.stbH (b := w) (by kernel_rfl) rfl rfl rfl rfl rfl (by rfl) rfl (Pres.deps (by kernel_rfl)) ?_
  refine ge ?_
  refine go ?_
  refine Cx.ordc rfl (by kernel_rfl) ?_
  refine ge ?_
  refine Ev.cakH (by kernel_rfl) rfl rfl (refPin hx 0 (by omega)) ?_
  refine ge ?_
  refine Ev.bxH (by kernel_rfl) rfl rfl rfl (Pres.deps (by kernel_rfl)) fun re => ?_
  refine ge ?_
  refine Ev.stbH (b := w) (by kernel_rfl) rfl rfl rfl rfl rfl (by rfl) rfl (Pres.deps (by kernel_rfl)) ?_
  refine ge ?_
  refine go ?_
  refine Sx.ca rfl (refFill (sb := rp) (mp := rm) (k := x.pool) (m := zeroM x) (hx.pool (by rw [zeroM_len]; exact Nat.le_refl _) (by rw [zeroM_len]; exact hlen))) ?_
  rintro v L' rfl
  refine go ?_
  refine Sx.ca rfl (refFill (sb := rs) (mp := rm) (k := x.spare) (m := fillM x.pool (zeroM x)) (hx.spare (by rw [fillM_len, zeroM_len]; exact Nat.le_refl _) (by rw [fillM_len, zeroM_len]; exact hlen))) ?_
  rintro v L' rfl
  refine go ?_
  refine Kr.one (.inr rfl) rfl ?_ ⟨w, rm, rp, rs, re, rfl, rfl⟩
  exact ent
theorem refSupply {w rm rp rs re : Nat} {x : Cn} [t : Take L (some ⟨w, 0, none⟩) (RWO x rm rp rs re) F] : Fx Tryz.prog 70 [.pointer (some ⟨w, 0, none⟩)] L (fun v L' => ∃ s st lm, v = .pointer (some ⟨s, 0, none⟩) ∧
    L' = pt (some ⟨s, 0, none⟩) (Blk 100 [.pointer (some ⟨w, 0, none⟩), .pointer (some ⟨st, 0, none⟩), .pointer (some ⟨lm, 0, none⟩)]) :: pt (some ⟨lm, 0, none⟩) (RLimboO Lm.nil) :: pt (some ⟨st, 0, none⟩) (RefO (min (max (x.ca : Int) 0) 64) []) :: L) := by
  refine Fx.mk Tryz.func70 k70 (Nat.le_of_ble_eq_true rfl) ?_
  dsimp only [c70, envOf, Nat.reduceAdd]
  refine go ?_
  refine Sx.ca rfl (refNew (x.ca : Int)) ?_
  rintro v L' ⟨st, rfl, rfl⟩
  refine go ?_
  refine Sx.ca rfl refLimboNew ?_
  rintro v L' ⟨lm, rfl, rfl⟩
  refine go ?_
  refine Sx.bx rfl rfl fun s => ?_
  refine go ?_
  exact Kr.one (.inr rfl) rfl (Ent.refl _) ⟨s, st, lm, rfl, rfl⟩
end
end Go.Proofs.YtnbkjcmmjgkdaaaGreat

/-
  A memory with its pool filled, and one supply.
-/
set_option linter.unusedVariables false
set_option linter.unusedSimpArgs false
namespace Go.Proofs.YtnbkjcmmjgkdaaaGreat
open Go
attribute [local irreducible] Sx Cx Rx Fx Krg Ksq Kbl Klp Kr
section
variable {L F G : St}
/-- The pool filled. -/
def poolM (x : Cn) : Mm := fillM x.pool (zeroM x)
theorem poolM_len (x : Cn) : (poolM x).ws.length = x.len := by unfold poolM; rw [fillM_len, zeroM_len]
end
end Go.Proofs.YtnbkjcmmjgkdaaaGreat

/-
  The document's memory and words: Load, Store, Cas; heads, links, pins, epochs.
-/
set_option linter.unusedVariables false
set_option linter.unusedSimpArgs false
namespace Go.Proofs.YtnbkjcmmjgkdaaaGreat
open Go
attribute [local irreducible] Sx Cx Rx Fx Krg Ksq Kbl Klp Kr
section
variable {L F G : St}
theorem row_some {n cap : Nat} {r : Option Addr} {i : Nat} (hi : i < n) (h : (r = none ∧ n = 0 ∧ cap = 0) ∨ ∃ g, r = some ⟨g, 0, none⟩) : ∃ g, r = some ⟨g, 0, none⟩ := by
  rcases h with h | h
  · omega
  · exact h
theorem rmemKey {rm : Nat} {m : Mm} {F : St} [t : Take L (some ⟨rm, 0, none⟩) (RMemO m) F] : ∀ h, holds L h → m.ok ∧ m.ws.length ≤ 8388608 := by
  intro h hh
  obtain ⟨y, hy⟩ := holds_ex.1 (t.out h hh)
  exact (holds_lift.1 hy).1
theorem refLoad {rm : Nat} {m : Mm} (i : Nat) (hi : i < m.ws.length) [t : Take L (some ⟨rm, 0, none⟩) (RMemO m) F] :
    Fx Tryz.prog 96 [.pointer (some ⟨rm, 0, none⟩), .int .i64 i] L (fun v L' => v = wd (m.at_ i) ∧ L' = pt (some ⟨rm, 0, none⟩) (RMemO m.tick) :: F) := by
  refine Fx.mk Tryz.func96 k96 (Nat.le_of_ble_eq_true rfl) ?_
  dsimp only [c96, envOf, Nat.reduceAdd]
  refine Cx.openp (t := t) rfl ?_
  rintro ⟨r, c⟩
  simp only [rmemL, List.cons_append, List.nil_append]
  refine Cx.liftp fun hm => ?_
  refine Cx.rowkey (a := r) fun hx0 hn0 _ hk1 => ?_
  obtain ⟨rg, rfl⟩ := row_some hi (hk1.imp (fun h => ⟨h.1, h.2.1, h.2.2⟩) id)
  refine gg ?_
  refine Sx.ldr (b := rg) rfl (v := wd (m.at_ i)) (by rw [show 0 + (i : Int).toNat * 1 = i by omega]; exact us_get (Mm.get hi)) ?_
  refine go ?_
  refine Kr.one (.inr rfl) rfl ?_ ⟨rfl, rfl⟩
  exact RMemO.close (a := some ⟨rm, 0, none⟩) (r := some ⟨rg, 0, none⟩) m.tick hm (by rw [wrap_succ]; rfl) rfl rfl
theorem refCas {rm : Nat} {m : Mm} (i o v : Nat) (hi : i < m.ws.length) (ho : o < 18446744073709551616) (hv : v < 18446744073709551616) [t : Take L (some ⟨rm, 0, none⟩) (RMemO m) F] :
    Fx Tryz.prog 155 [.pointer (some ⟨rm, 0, none⟩), .int .i64 i, wd o, wd v] L (fun u L' => u = .bool (decide (m.at_ i = o)) ∧ L' = pt (some ⟨rm, 0, none⟩) (RMemO (m.cas i o v)) :: F) := by
  refine Fx.mk Tryz.func155 k155 (Nat.le_of_ble_eq_true rfl) ?_
  dsimp only [c155, envOf, Nat.reduceAdd]
  refine Cx.openp (t := t) rfl ?_
  rintro ⟨r, c⟩
  simp only [rmemL, List.cons_append, List.nil_append]
  refine Cx.liftp fun hm => ?_
  refine Cx.rowkey (a := r) fun hx0 hn0 _ hk1 => ?_
  obtain ⟨rg, rfl⟩ := row_some hi (hk1.imp (fun h => ⟨h.1, h.2.1, h.2.2⟩) id)
  refine gg ?_
  refine Sx.ldr (b := rg) rfl (v := wd (m.at_ i)) (by rw [show 0 + (i : Int).toNat * 1 = i by omega]; exact us_get (Mm.get hi)) ?_
  refine go ?_
  refine Cx.ifn rfl (fun h => ?_) (fun h => ?_)
  · have hne : m.at_ i ≠ o := fun e => h (by rw [e])
    refine go ?_
    refine Kr.one (.inr rfl) rfl ?_ ⟨by rw [decide_eq_false hne], rfl⟩
    rw [show m.cas i o v = m.tick by unfold Mm.cas; rw [if_neg hne]]
    exact RMemO.close (a := some ⟨rm, 0, none⟩) (r := some ⟨rg, 0, none⟩) m.tick hm (by rw [wrap_succ]; rfl) rfl rfl
  · have he : m.at_ i = o := by omega
    refine gg ?_
    refine Sx.str1 (b := rg) rfl rfl rfl rfl (by rw [length_us]; simp; omega) rfl ?_
    refine go ?_
    refine Kr.one (.inr rfl) rfl ?_ ⟨by rw [decide_eq_true he], rfl⟩
    rw [show m.cas i o v = m.put i v by unfold Mm.cas; rw [if_pos he]]
    refine RMemO.close (a := some ⟨rm, 0, none⟩) (r := some ⟨rg, 0, none⟩) (m.put i v) ⟨Mm.ok_put hm.1 hv, by rw [Mm.len_put]; exact hm.2⟩ (by rw [wrap_succ]; rfl) Mm.len_put.symm ?_
    rw [show 0 + (i : Int).toNat * 1 = i by omega]
    exact us_set _ _ _
theorem refCut (w : Nat) (hw : w < 18446744073709551616) : Fx Tryz.prog 95 [wd w] L (fun v L' => v = .int .i64 (cutE w) ∧ L = L') := by
  refine Fx.mk Tryz.func95 k95 (Nat.le_of_ble_eq_true rfl) ?_
  dsimp only [c95, envOf, Nat.reduceAdd]
  refine go ?_
  refine Cx.ifp rfl (fun h => ?_) (fun h => ?_)
  · refine go ?_
    exact Kr.one (.inr rfl) rfl (Ent.refl _) ⟨by unfold cutE; rw [Int.min_eq_right (by omega)], rfl⟩
  · refine go ?_
    rw [w64 (n := (w : Int)) (by omega) (by omega)]
    exact Kr.one (.inr rfl) rfl (Ent.refl _) ⟨by unfold cutE; rw [Int.min_eq_left (by omega)], rfl⟩
theorem refGetHead (w : Nat) (hw : w < 18446744073709551616) : Fx Tryz.prog 153 [wd w] L (fun v L' => v = hdV (hdI w) (hdT w) ∧ L = L') := by
  refine Fx.mk Tryz.func153 k153 (Nat.le_of_ble_eq_true rfl) ?_
  dsimp only [c153, envOf, Nat.reduceAdd]
  refine Cx.sq ?_
  refine Cx.rg ?_
  refine Sx.al fun g => ?_
  refine gg ?_
  have hm : (w : Int).tmod 4294967296 = ((w % 4294967296 : Nat) : Int) := natTmod w 4294967296
  have hdv : (w : Int).tdiv 4294967296 = (hdT w : Int) := (Int.ofNat_tdiv w 4294967296).symm
  have h3 := hdT_lt hw
  rw [hm, hdv, w64 (n := ((w % 4294967296 : Nat) : Int)) (by omega) (by omega), w64 (n := ((w % 4294967296 : Nat) : Int) - 1) (by omega) (by omega), wu64 (n := (hdT w : Int)) (by omega) (by omega), w64 (n := (hdT w : Int)) (by omega) (by omega)]
  refine Sx.st (b := g) rfl rfl rfl rfl rfl rfl ?_
  dsimp only [lay]
  refine go ?_
  exact Kr_cell (b := g) (.inr rfl) rfl rfl (L' := L) Ent.drop ⟨rfl, rfl⟩
theorem refTop {sb rm : Nat} {k : Sk} (w : Nat) (hw : w < 18446744073709551616) [t : Take L (some ⟨sb, 0, none⟩) (RSkO rm k) F] :
    Fx Tryz.prog 90 [.pointer (some ⟨sb, 0, none⟩), wd w] L (fun v L' => v = .int .i64 (k.top w) ∧ L = L') := by
  refine Fx.mk Tryz.func90 k90 (Nat.le_of_ble_eq_true rfl) ?_
  dsimp only [c90, envOf, Nat.reduceAdd]
  refine go ?_
  refine Sx.ca rfl (refGetHead w hw) ?_
  rintro v L' ⟨rfl, rfl⟩
  refine go ?_
  refine Cx.ifp rfl (fun h => ?_) (fun h => ?_)
  · refine go ?_
    exact Kr.one (.inr rfl) rfl (Ent.refl _) ⟨by unfold Sk.top; rw [if_neg (by omega)], rfl⟩
  · refine go ?_
    exact Kr.one (.inr rfl) rfl (Ent.refl _) ⟨by unfold Sk.top; rw [if_pos (by omega)], rfl⟩
theorem refBelow {sb rm : Nat} {k : Sk} (w : Nat) (hw : w < 18446744073709551616) (hk : k.n ≤ 4096) [t : Take L (some ⟨sb, 0, none⟩) (RSkO rm k) F] :
    Fx Tryz.prog 91 [.pointer (some ⟨sb, 0, none⟩), wd w] L (fun v L' => v = .int .i64 (k.below w) ∧ L = L') := by
  refine Fx.mk Tryz.func91 k91 (Nat.le_of_ble_eq_true rfl) ?_
  dsimp only [c91, envOf, Nat.reduceAdd]
  refine go ?_
  rw [wu64 (n := (k.n : Int)) (by omega) (by omega)]
  refine Cx.ifp rfl (fun h => ?_) (fun h => ?_)
  · refine go ?_
    exact Kr.one (.inr rfl) rfl (Ent.refl _) ⟨by unfold Sk.below; rw [if_pos (by omega)], rfl⟩
  · refine go ?_
    rw [w64 (n := (w : Int)) (by omega) (by omega), w64 (n := (w : Int) - 1) (by omega) (by omega)]
    exact Kr.one (.inr rfl) rfl (Ent.refl _) ⟨by unfold Sk.below; rw [if_neg (by omega)], rfl⟩
theorem refNextHead (i : Int) (t : Nat) (j : Int) (ht : t < 4294967296) : Fx Tryz.prog 196 [hdV i t, .int .i64 j] L (fun v L' => v = hdV j (laterT t) ∧ L = L') := by
  refine Fx.mk Tryz.func196 k196 (Nat.le_of_ble_eq_true rfl) ?_
  dsimp only [c196, envOf, Nat.reduceAdd]
  refine Cx.sq ?_
  refine Cx.rg ?_
  refine Sx.bx rfl rfl fun q => ?_
  refine Sx.al fun g => ?_
  refine go ?_
  refine Cx.ifp rfl (fun h => ?_) (fun h => ?_)
  · refine go ?_
    refine Sx.st (b := g) rfl rfl rfl rfl rfl rfl ?_
    dsimp only [lay]
    refine go ?_
    refine Kr_cell (b := g) (.inr rfl) rfl rfl (L' := L) (Ent.trans Ent.drop Ent.drop) ⟨?_, rfl⟩
    rw [show laterT t = 0 by unfold laterT; rw [if_neg (by omega)]]
    rfl
  · refine go ?_
    rw [w64 (n := (t : Int) + 1) (by omega) (by omega)]
    refine Sx.st (b := g) rfl rfl rfl rfl rfl rfl ?_
    dsimp only [lay]
    refine go ?_
    refine Kr_cell (b := g) (.inr rfl) rfl rfl (L' := L) (Ent.trans Ent.drop Ent.drop) ⟨?_, rfl⟩
    rw [show laterT t = t + 1 by unfold laterT; rw [if_pos (by omega)]]
    rfl
theorem refNextW (w : Nat) (i : Int) (hw : w < 18446744073709551616) (h1 : -1 ≤ i) (h2 : i < 4294967295) : Fx Tryz.prog 176 [wd w, .int .i64 i] L (fun v L' => v = wd (nextW w i) ∧ L = L') := by
  refine Fx.mk Tryz.func176 k176 (Nat.le_of_ble_eq_true rfl) ?_
  dsimp only [c176, envOf, Nat.reduceAdd]
  refine go ?_
  refine Sx.ca rfl (refGetHead w hw) ?_
  rintro v L' ⟨rfl, rfl⟩
  refine go ?_
  refine Sx.ca rfl (refNextHead _ _ i (hdT_lt hw)) ?_
  rintro v L' ⟨rfl, rfl⟩
  refine go ?_
  refine Sx.ca rfl (refPutHead i (laterT (hdT w)) h1 h2 (laterT_lt (hdT_lt hw))) ?_
  rintro v L' ⟨rfl, rfl⟩
  refine go ?_
  exact Kr.one (.inr rfl) rfl (Ent.refl _) ⟨rfl, rfl⟩
end
end Go.Proofs.YtnbkjcmmjgkdaaaGreat

/-
  The document's Pop, one access at a time.
-/
set_option linter.unusedVariables false
set_option linter.unusedSimpArgs false
namespace Go.Proofs.YtnbkjcmmjgkdaaaGreat
open Go
attribute [local irreducible] Sx Cx Rx Fx Krg Ksq Kbl Klp Kr
theorem ints_last {l : List Int} (h : l ≠ []) : (ints l)[l.length - 1]? = some (.int .i64 (lastI l)) := by
  unfold ints lastI
  rw [List.getElem?_map, List.getLastD_eq_getLast?, ← List.getLast?_eq_getElem?, List.getLast?_eq_some_getLast h]
  rfl
section
variable {L F G : St}
def rpopL (T : TypeId) (sb : Nat) (q : PopS) (a : Option Addr) (y : Option Addr × Nat) : St :=
  [pt a (Blk T [.pointer (some ⟨sb, 0, none⟩), .int .i64 q.most, .int .i64 (q.at_ : Nat), .int .i64 q.under, wd q.was, .slice y.1 q.got.length y.2, .bool q.done]), pt y.1 (Row 3 1 q.got.length y.2 (ints q.got))]
def RPopT (T : TypeId) (sb : Nat) (q : PopS) (a : Option Addr) : As := exs (rpopL T sb q a)
abbrev RPopO := RPopT 215
theorem RPopO.close {T : TypeId} {sb : Nat} {a r : Option Addr} {c n : Nat} {v0 v1 v2 v3 v4 v6 : Value} {w : List Value} {F G : St} (q : PopS) [t : Take L a (Blk T [v0, v1, v2, v3, v4, .slice r n c, v6]) F] [u : Take F r (Row 3 1 n c w) G]
    (h0 : v0 = .pointer (some ⟨sb, 0, none⟩)) (h1 : v1 = .int .i64 q.most) (h2 : v2 = .int .i64 (q.at_ : Nat)) (h3 : v3 = .int .i64 q.under) (h4 : v4 = wd q.was) (h5 : n = q.got.length) (h6 : v6 = .bool q.done) (hw : w = ints q.got) : Ent L (pt a (RPopT T sb q) :: G) := by
  subst h0 h1 h2 h3 h4 h5 h6 hw
  refine Ent.trans (Ent.take1 (t := t) (Ent.of u.out)) ?_
  exact Ent.close (f := rpopL T sb q a) rfl (r, c)
theorem refPopNew {sb rm : Nat} {k : Sk} (most : Int) [t : Take L (some ⟨sb, 0, none⟩) (RSkO rm k) F] :
    Fx Tryz.prog 175 [.pointer (some ⟨sb, 0, none⟩), .int .i64 most] L (fun v L' => ∃ b, v = .pointer (some ⟨b, 0, none⟩) ∧ L' = pt (some ⟨b, 0, none⟩) (RPopO sb (PopS.init most)) :: L) := by
  refine Fx.mk Tryz.func175 k175 (Nat.le_of_ble_eq_true rfl) ?_
  dsimp only [c175, envOf, Nat.reduceAdd]
  refine go ?_
  refine Sx.bx rfl rfl fun b => ?_
  refine go ?_
  refine Kr.one (.inr rfl) rfl ?_ ⟨b, rfl, rfl⟩
  refine Ent.trans (Ent.rownil 3 1) ?_
  refine RPopO.close (a := some ⟨b, 0, none⟩) (r := none) (PopS.init most) rfl (congrArg (Value.int .i64) ?_) rfl rfl rfl rfl rfl rfl
  simp only [PopS.init, cond_true, cond_false]
  (repeat' split) <;> omega
set_option maxHeartbeats 1000000 in
theorem refPopStep {b sb rm : Nat} {k : Sk} {m : Mm} {q : PopS} {F1 F2 : St} (hk : k.ok m.ws.length) (hq : q.ok k) [t1 : Take L (some ⟨b, 0, none⟩) (RPopO sb q) F1] [t2 : Take F1 (some ⟨rm, 0, none⟩) (RMemO m) F2] [t3 : Take F2 (some ⟨sb, 0, none⟩) (RSkO rm k) G] :
    Fx Tryz.prog 143 [.pointer (some ⟨b, 0, none⟩)] L (fun v L' => v = .bool (!q.done) ∧ L' = pt (some ⟨b, 0, none⟩) (RPopO sb (popStep k m q).1) :: pt (some ⟨rm, 0, none⟩) (RMemO (popStep k m q).2) :: F2) := by
  obtain ⟨k1, k2, k3, k4, k5, k6⟩ := hk
  refine Fx.mk Tryz.func143 k143 (Nat.le_of_ble_eq_true rfl) ?_
  dsimp only [c143, envOf, Nat.reduceAdd]
  refine Cx.ent (Ent.trans (Ent.of t1.out) (Ent.cons (Ent.trans (Ent.of t2.out) (Ent.cons (Ent.of t3.out))))) ?_
  refine Cx.pure (rmemKey (rm := rm) (m := m)) fun hm => ?_
  refine Cx.openp (a := some ⟨b, 0, none⟩) rfl ?_
  rintro ⟨r, c⟩
  simp only [rpopL, List.cons_append, List.nil_append]
  cases hd : q.done with
  | true =>
    have e1 : popStep k m q = (q, m) := by unfold popStep; rw [hd]; rfl
    rw [e1]
    refine go ?_
    refine Kr.one (.inr rfl) rfl (Ent.trans (RPopO.close (sb := sb) (a := some ⟨b, 0, none⟩) (r := r) q rfl rfl rfl rfl rfl rfl (by rw [hd]) rfl) (Ent.cons (Ent.cons (Ent.of t3.back)))) ⟨rfl, rfl⟩
  | false =>
    have ha := hq.a
    rcases (show q.at_ = 0 ∨ q.at_ = 1 ∨ q.at_ = 2 by omega) with h0 | h0 | h0
    · have hwl := Mm.at_lt hm.1 k.head
      rw [h0]
      refine go ?_
      refine Cx.ordc rfl (by kernel_rfl) ?_
      refine ge ?_
      refine Ev.caH (by kernel_rfl) rfl rfl (refLoad (rm := rm) (m := m) k.head k3) (Pres.deps (by kernel_rfl)) ?_
      rintro v L' ⟨rfl, rfl⟩
      refine ge ?_
      refine Ev.stbH (b := b) (by kernel_rfl) rfl rfl rfl rfl rfl (by rfl) rfl (Pres.deps (by kernel_rfl)) ?_
      refine ge ?_
      refine go ?_
      refine Sx.ca rfl (refTop (sb := sb) (rm := rm) (k := k) (m.at_ k.head) hwl) ?_
      rintro v L' ⟨rfl, rfl⟩
      refine go ?_
      refine Cx.ifp rfl (fun h => ?_) (fun h => ?_)
      · have e1 : popStep k m q = ({ q with was := m.at_ k.head, got := [], done := true }, m.tick) := by unfold popStep; rw [hd, h0]; simp only [Bool.false_eq_true, if_false]; rw [if_neg (by omega)]
        rw [e1]
        refine go ?_
        refine Kr.one (.inr rfl) rfl ?_ ⟨rfl, rfl⟩
        refine Ent.trans (Ent.rownil 3 1) ?_
        refine Ent.trans (RPopO.close (sb := sb) (a := some ⟨b, 0, none⟩) (r := none) { q with was := m.at_ k.head, got := [], done := true } rfl rfl (by rw [h0]) rfl rfl rfl rfl rfl) ?_
        refine Ent.cons ?_
        refine Ent.trans ?_ (Ent.cons (Ent.of t3.back))
        exact ent
      · have e1 : popStep k m q = ({ q with was := m.at_ k.head, got := [k.top (m.at_ k.head)], at_ := 1 }, m.tick) := by unfold popStep; rw [hd, h0]; simp only [Bool.false_eq_true, if_false]; rw [if_pos (by omega)]
        rw [e1]
        refine go ?_
        refine Sx.bs (sz := 1) rfl rfl fun g => ?_
        refine go ?_
        refine Sx.apn rfl rfl (Rd.row (b := g) (E := 3) (cap := 1) rfl) rfl (by simp [maxLen]) (by omega) fun r' c' hc => ?_
        refine go ?_
        refine Kr.one (.inr rfl) rfl ?_ ⟨rfl, rfl⟩
        refine Ent.trans (RPopO.close (sb := sb) (a := some ⟨b, 0, none⟩) (r := r') { q with was := m.at_ k.head, got := [k.top (m.at_ k.head)], at_ := 1 } rfl rfl rfl rfl rfl rfl (by rw [hd]) rfl) ?_
        refine Ent.cons ?_
        refine Ent.trans ?_ (Ent.cons (Ent.of t3.back))
        exact ent
    · have hne := hq.ne hd (by omega)
      have hlp := List.length_pos_iff.2 hne
      have hlen8 := hq.len
      have hlast := hq.g _ (lastI_mem hne)
      have hm8 := hq.m2
      have hwl := Mm.at_lt hm.1 (k.links + (lastI q.got).toNat)
      obtain ⟨bl, hbl⟩ : ∃ bl, k.below (m.at_ (k.links + (lastI q.got).toNat)) = bl := ⟨_, rfl⟩
      have hbl1 : -1 ≤ bl := hbl ▸ k.below_ge _
      have hbl2 : bl < k.n := hbl ▸ k.below_lt _
      refine Cx.rowkey (a := r) fun hx0 hn0 hc0 hk1 => ?_
      obtain ⟨rg, rfl⟩ := row_some hlp (hk1.imp (fun h => ⟨h.1, h.2.1, h.2.2⟩) id)
      rw [h0]
      refine go ?_
      refine Cx.ordc rfl (by kernel_rfl) ?_
      refine ge ?_
      rw [w64 (n := (q.got.length : Int) - 1) (by omega) (by omega)]
      refine ge ?_
      refine Ev.ldrH (b := rg) (v := .int .i64 (lastI q.got)) (by kernel_rfl) rfl rfl (by rw [show 0 + ((q.got.length : Int) - 1).toNat * 1 = q.got.length - 1 by omega]; exact ints_last hne) ?_
      refine ge ?_
      rw [w64 (n := (k.links : Int) + lastI q.got) (by omega) (by omega), show (k.links : Int) + lastI q.got = ((k.links + (lastI q.got).toNat : Nat) : Int) by omega]
      refine Ev.caH (by kernel_rfl) rfl rfl (refLoad (rm := rm) (m := m) (k.links + (lastI q.got).toNat) (by omega)) (Pres.deps (by kernel_rfl)) ?_
      rintro v L' ⟨rfl, rfl⟩
      refine ge ?_
      refine Ev.cakH (by kernel_rfl) rfl rfl (refBelow (sb := sb) (rm := rm) (k := k) _ hwl k2) ?_
      rw [hbl]
      refine ge ?_
      refine Ev.stbH (b := b) (by kernel_rfl) rfl rfl rfl rfl rfl (by rfl) rfl (Pres.deps (by kernel_rfl)) ?_
      refine ge ?_
      refine Cx.sq ?_
      refine Cx.ordc rfl (by kernel_rfl) ?_
      refine ge ?_
      by_cases hb0 : 0 ≤ bl
      · refine Ev.yes 120 rfl (decide_eq_true hb0) ?_
        refine ge ?_
        refine Cx.ifp rfl (fun h => ?_) (fun h => ?_)
        · have e1 : popStep k m q = ({ q with under := bl, got := q.got ++ [bl] }, m.tick) := by unfold popStep; rw [hd, h0]; simp only [Bool.false_eq_true, if_false, hbl]; rw [if_pos ⟨hb0, h⟩]
          rw [e1]
          refine go ?_
          refine Cx.orde rfl (by kernel_rfl) ?_
          refine ge ?_
          refine Ev.bsH (sz := 1) (by kernel_rfl) rfl rfl rfl (.dep rfl (.keep (fun v L' ⟨_, _, e⟩ => by subst e; exact Has.cell rfl) .nil)) fun g => ?_
          refine ge ?_
          refine Ev.apH (ra := some ⟨rg, 0, none⟩) (by kernel_rfl) rfl rfl rfl (Rd.row (b := g) (E := 3) (cap := 1) rfl) rfl (by simp [maxLen]; omega) (by omega) (Pres.deps (by kernel_rfl)) fun r' c' hc hk2 => ?_
          refine ge ?_
          refine Ev.stbH (b := b) (by kernel_rfl) rfl rfl rfl rfl rfl (by rfl) rfl (Pres.deps (by kernel_rfl)) ?_
          refine ge ?_
          refine go ?_
          refine Kr.one (.inr rfl) rfl ?_ ⟨rfl, rfl⟩
          refine Ent.trans (RPopO.close (sb := sb) (a := some ⟨b, 0, none⟩) (r := r') { q with under := bl, got := q.got ++ [bl] } rfl rfl (by rw [h0]) rfl rfl (by simp) (by rw [hd]) (by simp [ints, lay])) ?_
          refine Ent.cons ?_
          refine Ent.trans ?_ (Ent.cons (Ent.of t3.back))
          exact ent
        · have e1 : popStep k m q = ({ q with under := bl, at_ := 2 }, m.tick) := by unfold popStep; rw [hd, h0]; simp only [Bool.false_eq_true, if_false, hbl]; rw [if_neg (fun hh => h hh.2)]
          rw [e1]
          refine go ?_
          refine Kr.one (.inr rfl) rfl ?_ ⟨rfl, rfl⟩
          refine Ent.trans (RPopO.close (sb := sb) (a := some ⟨b, 0, none⟩) (r := some ⟨rg, 0, none⟩) { q with under := bl, at_ := 2 } rfl rfl rfl rfl rfl rfl (by rw [hd]) rfl) ?_
          refine Ent.cons ?_
          refine Ent.trans ?_ (Ent.cons (Ent.of t3.back))
          exact ent
      · refine Ev.no 120 rfl (decide_eq_false hb0) ?_
        have e1 : popStep k m q = ({ q with under := bl, at_ := 2 }, m.tick) := by unfold popStep; rw [hd, h0]; simp only [Bool.false_eq_true, if_false, hbl]; rw [if_neg (fun hh => hb0 hh.1)]
        rw [e1]
        refine ge ?_
        refine go ?_
        refine Kr.one (.inr rfl) rfl ?_ ⟨rfl, rfl⟩
        refine Ent.trans (RPopO.close (sb := sb) (a := some ⟨b, 0, none⟩) (r := some ⟨rg, 0, none⟩) { q with under := bl, at_ := 2 } rfl rfl rfl rfl rfl rfl (by rw [hd]) rfl) ?_
        refine Ent.cons ?_
        refine Ent.trans ?_ (Ent.cons (Ent.of t3.back))
        exact ent
    · have hu1 := hq.u1
      have hu2 := hq.u2
      have hw := hq.w
      have hnw := nextW_lt (i := q.under) hw (by omega)
      have e1 : popStep k m q = ({ q with at_ := 0, done := decide (m.at_ k.head = q.was) }, m.cas k.head q.was (nextW q.was q.under)) := by unfold popStep; rw [hd, h0]; rfl
      rw [e1, h0]
      refine go ?_
      refine Cx.ordc rfl (by kernel_rfl) ?_
      refine ge ?_
      refine Ev.cakH (by kernel_rfl) rfl rfl (refNextW q.was q.under hw hu1 (by omega)) ?_
      refine ge ?_
      refine Ev.caH (by kernel_rfl) rfl rfl (refCas (rm := rm) (m := m) k.head q.was (nextW q.was q.under) k3 hw hnw) (Pres.deps (by kernel_rfl)) ?_
      rintro v L' ⟨rfl, rfl⟩
      refine ge ?_
      refine Ev.stbH (b := b) (by kernel_rfl) rfl rfl rfl rfl rfl (by rfl) rfl (Pres.deps (by kernel_rfl)) ?_
      refine ge ?_
      refine go ?_
      refine Kr.one (.inr rfl) rfl ?_ ⟨rfl, rfl⟩
      refine Ent.trans (RPopO.close (sb := sb) (a := some ⟨b, 0, none⟩) (r := r) { q with at_ := 0, done := decide (m.at_ k.head = q.was) } rfl rfl rfl rfl rfl rfl rfl rfl) ?_
      refine Ent.cons ?_
      refine Ent.trans ?_ (Ent.cons (Ent.of t3.back))
      exact ent
theorem refPopGot {b sb rm : Nat} {k : Sk} {q : PopS} {F1 : St} (hd : q.done = true) (hb : q.got.length ≤ 8) [t1 : Take L (some ⟨b, 0, none⟩) (RPopO sb q) F1] :
    Fx Tryz.prog 144 [.pointer (some ⟨b, 0, none⟩)] L (fun v L' => ∃ r c, v = .slice r q.got.length c ∧ L' = pt r (Row 3 1 q.got.length c (ints q.got)) :: pt (some ⟨b, 0, none⟩) (RPopO sb q) :: F1) := by
  refine Fx.mk Tryz.func144 k144 (Nat.le_of_ble_eq_true rfl) ?_
  dsimp only [c144, envOf, Nat.reduceAdd]
  refine Cx.openp (t := t1) rfl ?_
  rintro ⟨r, c⟩
  simp only [rpopL, List.cons_append, List.nil_append]
  rw [hd]
  refine Cx.rowkey (a := r) fun hx0 hn0 hc0 hk1 => ?_
  refine go ?_
  refine Sx.apn rfl rfl (Rd.any (a := r) hx0 (hk1.imp (fun h => h.2.1) id)) (ones_ints _) (by simp [maxLen]; omega) (by omega) fun r' c' hc => ?_
  refine go ?_
  refine Kr.one (.inr rfl) rfl (Ent.cons ?_) ⟨r', c', rfl, rfl⟩
  exact RPopO.close (sb := sb) (a := some ⟨b, 0, none⟩) (r := r) q rfl rfl rfl rfl rfl rfl (by rw [hd]) rfl
end
end Go.Proofs.YtnbkjcmmjgkdaaaGreat

/-
  The document's limbo: Open, Len, Bucket, Ready.
-/
set_option linter.unusedVariables false
set_option linter.unusedSimpArgs false
namespace Go.Proofs.YtnbkjcmmjgkdaaaGreat
open Go
attribute [local irreducible] Sx Cx Rx Fx Krg Ksq Kbl Klp Kr
section
variable {L F : St}
theorem anyOpen_least {now : Int} {m : Lm} (h : 2 ≤ now) : decide (0 ≤ leastI (leastUp now m 3)) = anyOpen now m := by
  refine decide_eq_decide.2 ?_
  cases hl : leastUp now m 3 with
  | none =>
    have hn := leastUp_none hl
    simp [leastI, hn 0 (by omega), hn 1 (by omega), hn 2 (by omega)]
  | some j =>
    have hj := leastUp_lt hl
    have h1 := hj.1
    simp only [leastI]
    refine ⟨fun _ => ⟨h, ?_⟩, fun _ => by omega⟩
    rcases (show j = 0 ∨ j = 1 ∨ j = 2 by omega) with rfl | rfl | rfl
    · exact .inl hj.2
    · exact .inr (.inl hj.2)
    · exact .inr (.inr hj.2)
theorem refOpen {b : Nat} {m : Lm} {now : Int} {F : St} [t : Take L (some ⟨b, 0, none⟩) (RLimboO m) F] (h3 : now ≤ 9223372036854775807) :
    Fx Tryz.prog 180 [.pointer (some ⟨b, 0, none⟩), .int .i64 now] L (fun v L' => v = .bool (anyOpen now m) ∧ L = L') := by
  refine Fx.mk Tryz.func180 k180 (Nat.le_of_ble_eq_true rfl) ?_
  dsimp only [c180, envOf, Nat.reduceAdd]
  refine go ?_
  refine Sx.ifp rfl (fun h => ?_) (fun h => ?_)
  · refine go ?_
    refine Sx.ca rfl (refLeast (b := b) (m := m) (F := F) h h3) ?_
    rintro v L' ⟨rfl, rfl⟩
    refine go ?_
    exact Kr.one (.inr rfl) rfl (Ent.refl _) ⟨congrArg Value.bool (anyOpen_least h), rfl⟩
  · have h' : ¬ 2 ≤ now := h
    refine go ?_
    exact Kr.one (.inr rfl) rfl (Ent.refl _) ⟨by simp [anyOpen, h'], rfl⟩
theorem refLimboLen {b : Nat} {m : Lm} {F : St} [t : Take L (some ⟨b, 0, none⟩) (RLimboO m) F] (hb : m.size ≤ 1000000000) :
    Fx Tryz.prog 147 [.pointer (some ⟨b, 0, none⟩)] L (fun v L' => v = .int .i64 m.size ∧ L = L') := by
  have hs : m.size = m.x0.length + m.x1.length + m.x2.length := rfl
  refine Fx.kept (t := t) ?_
  refine Fx.mk Tryz.func147 k147 (Nat.le_of_ble_eq_true rfl) ?_
  dsimp only [c147, envOf, Nat.reduceAdd]
  refine Cx.openp (t := t) rfl ?_
  rintro ⟨⟨⟨r0, c0⟩, ⟨r1, c1⟩, ⟨r2, c2⟩⟩, ⟨u0, u1, u2, l⟩⟩
  simp only [refL, List.cons_append, List.nil_append]
  refine Cx.liftp fun hT => ?_
  refine go ?_
  refine Cx.ordc rfl (by kernel_rfl) ?_
  refine ge ?_
  rw [w64 (n := (m.x0.length : Int) + m.x1.length) (by omega) (by omega), w64 (n := (m.x0.length : Int) + m.x1.length + m.x2.length) (by omega) (by omega)]
  refine go ?_
  refine Kr.one (.inr rfl) rfl (RLimboO.close (a := some ⟨b, 0, none⟩) (r0 := r0) (r1 := r1) (r2 := r2) m hT rfl rfl rfl rfl rfl rfl rfl rfl rfl rfl) ⟨?_, rfl⟩
  refine congrArg (Value.int .i64) ?_
  omega
theorem RTag.put0 {m : Lm} {u0 u1 u2 l : Int} (h : RTag m u0 u1 u2 l) : RTag (m.put 0 0 []) u0 u1 u2 l := ⟨fun x => absurd rfl x, h.h1, h.h2, h.hl⟩
theorem RTag.put1 {m : Lm} {u0 u1 u2 l : Int} (h : RTag m u0 u1 u2 l) : RTag (m.put 1 0 []) u0 u1 u2 l := ⟨h.h0, fun x => absurd rfl x, h.h2, h.hl⟩
theorem RTag.put2 {m : Lm} {u0 u1 u2 l : Int} (h : RTag m u0 u1 u2 l) : RTag (m.put 2 0 []) u0 u1 u2 l := ⟨h.h0, h.h1, fun x => absurd rfl x, h.hl⟩
set_option maxHeartbeats 4000000 in
theorem refReady {b : Nat} {m : Lm} {now : Int} {F : St} [t : Take L (some ⟨b, 0, none⟩) (RLimboO m) F] (hb : m.size ≤ 100000000) (hnow : now ≤ 9223372036854775807) :
    Fx Tryz.prog 152 [.pointer (some ⟨b, 0, none⟩), .int .i64 now] L (fun v L' => ∃ ro co, v = .slice ro (readyAll now m).1.length co ∧
      L' = pt ro (Row 3 1 (readyAll now m).1.length co (ints (readyAll now m).1)) :: pt (some ⟨b, 0, none⟩) (RLimboO (readyAll now m).2) :: F) := by
  refine Fx.mk Tryz.func152 k152 (Nat.le_of_ble_eq_true rfl) ?_
  dsimp only [c152, envOf, Nat.reduceAdd]
  refine Cx.ent (Ent.trans (Ent.of t.out) (Ent.rownil 3 1)) ?_
  refine go ?_
  refine Cx.lp (α := {p : (List Int × Lm) × (Option Addr × Nat) // p.1.1.length + p.1.2.size = m.size ∧ p.1.1 ++ (readyAll now p.1.2).1 = (readyAll now m).1 ∧ (readyAll now p.1.2).2 = (readyAll now m).2})
    (fun p => [(0, .pointer (some ⟨b, 0, none⟩)), (1, .int .i64 now), (5, .slice p.1.2.1 p.1.1.1.length p.1.2.2)])
    (fun p => pt p.1.2.1 (Row 3 1 p.1.1.1.length p.1.2.2 (ints p.1.1.1)) :: pt (some ⟨b, 0, none⟩) (RLimboO p.1.1.2) :: F) (fun p => p.1.1.2.cnt) ⟨(([], m), (none, 0)), by simp, by simp, rfl⟩ (sub.cons rfl (sub.cons rfl (sub.cons rfl sub.nil))) (Ent.refl _) ?_
  rintro ⟨⟨⟨out, m'⟩, ⟨ro, co⟩⟩, hsz, he1, he2⟩
  dsimp only at hsz he1 he2 ⊢
  refine go ?_
  refine Sx.ca rfl (refOpen (b := b) (m := m') hnow) ?_
  rintro v L' ⟨rfl, rfl⟩
  refine go ?_
  have hall : ∀ o, 2 ≤ now → leastUp now m' 3 = o → readyAll now m' = match o with
        | none => ([], m')
        | some j => (m'.items j ++ (readyAll now (m'.put j 0 [])).1, (readyAll now (m'.put j 0 [])).2) := by
      intro o h2 ho
      unfold readyAll
      simp only [if_pos h2]
      cases o with
      | none =>
        cases hc : m'.cnt with
        | zero => rfl
        | succ c => simp [readyM, ho]
      | some j =>
        rw [cnt_put (leastUp_lt ho).1 (open_ne (leastUp_lt ho).2)]
        simp [readyM, ho]
  refine Cx.cd rfl (fun hop => ?_) (fun hop => ?_)
  · have h2 : 2 ≤ now := (of_decide_eq_true hop).1
    rw [← anyOpen_least h2] at hop
    have hl := of_decide_eq_true hop
    refine go ?_
    refine Sx.ca rfl (refLeast (b := b) (m := m') h2 hnow) ?_
    rintro v L' ⟨rfl, rfl⟩
    rcases hlu : leastUp now m' 3 with _ | j
    · rw [hlu] at hl; exact absurd hl (by decide)
    have hra := hall _ h2 hlu
    have hj := (leastUp_lt hlu).1
    have hne := open_ne (leastUp_lt hlu).2
    have hsp := size_put (m := m') hj
    have hcp := cnt_put hj hne
    have hm1 : out.length + (m'.x0.length + m'.x1.length + m'.x2.length) = m.size := hsz
    dsimp only at hra
    rw [hra, ← List.append_assoc] at he1
    rw [hra] at he2
    simp only [leastI]
    refine Sx.openp (a := some ⟨b, 0, none⟩) rfl ?_
    rintro ⟨⟨⟨r0, c0⟩, ⟨r1, c1⟩, ⟨r2, c2⟩⟩, ⟨u0, u1, u2, l⟩⟩
    simp only [refL, List.cons_append, List.nil_append]
    refine Sx.liftp fun hT => ?_
    rcases (show j = 0 ∨ j = 1 ∨ j = 2 by omega) with rfl | rfl | rfl
    · refine gg ?_
      refine Sx.rowkey (a := r0) fun hxj hnj _ hkj => ?_
      refine Sx.ap (ra := ro) rfl rfl (Rd.any (a := r0) hxj (hkj.imp (fun h => h.2.1) id)) (ones_ints _) (by simp [maxLen]; omega) (by omega) fun ra ca hc => ?_
      refine gg ?_
      refine Klp.nm ⟨((out ++ m'.items 0, m'.put 0 0 []), (ra, ca)), by dsimp only; rw [List.length_append]; omega, he1, he2⟩ (sub.cons rfl (sub.cons rfl (sub.cons ?_ sub.nil))) ?_ (by dsimp only; omega)
      · show _ = some (Value.slice ra (out ++ m'.items 0).length ca)
        rw [show (out ++ m'.items 0).length = out.length + m'.x0.length by simp [Lm.items]]
        rfl
      · dsimp only
        rw [ints_append, List.length_append]
        refine Ent.take1 (t := inferInstance) ?_
        refine Ent.trans (Ent.rownil 3 1) ?_
        refine Ent.trans (RLimboO.close (a := some ⟨b, 0, none⟩) (r0 := none) (r1 := r1) (r2 := r2) (m'.put 0 0 []) hT.put0 rfl rfl rfl rfl rfl rfl rfl rfl rfl rfl) ?_
        exact ent
    · refine gg ?_
      refine Sx.rowkey (a := r1) fun hxj hnj _ hkj => ?_
      refine Sx.ap (ra := ro) rfl rfl (Rd.any (a := r1) hxj (hkj.imp (fun h => h.2.1) id)) (ones_ints _) (by simp [maxLen]; omega) (by omega) fun ra ca hc => ?_
      refine gg ?_
      refine Klp.nm ⟨((out ++ m'.items 1, m'.put 1 0 []), (ra, ca)), by dsimp only; rw [List.length_append]; omega, he1, he2⟩ (sub.cons rfl (sub.cons rfl (sub.cons ?_ sub.nil))) ?_ (by dsimp only; omega)
      · show _ = some (Value.slice ra (out ++ m'.items 1).length ca)
        rw [show (out ++ m'.items 1).length = out.length + m'.x1.length by simp [Lm.items]]
        rfl
      · dsimp only
        rw [ints_append, List.length_append]
        refine Ent.take1 (t := inferInstance) ?_
        refine Ent.trans (Ent.rownil 3 1) ?_
        refine Ent.trans (RLimboO.close (a := some ⟨b, 0, none⟩) (r0 := r0) (r1 := none) (r2 := r2) (m'.put 1 0 []) hT.put1 rfl rfl rfl rfl rfl rfl rfl rfl rfl rfl) ?_
        exact ent
    · refine gg ?_
      refine Sx.rowkey (a := r2) fun hxj hnj _ hkj => ?_
      refine Sx.ap (ra := ro) rfl rfl (Rd.any (a := r2) hxj (hkj.imp (fun h => h.2.1) id)) (ones_ints _) (by simp [maxLen]; omega) (by omega) fun ra ca hc => ?_
      refine gg ?_
      refine Klp.nm ⟨((out ++ m'.items 2, m'.put 2 0 []), (ra, ca)), by dsimp only; rw [List.length_append]; omega, he1, he2⟩ (sub.cons rfl (sub.cons rfl (sub.cons ?_ sub.nil))) ?_ (by dsimp only; omega)
      · show _ = some (Value.slice ra (out ++ m'.items 2).length ca)
        rw [show (out ++ m'.items 2).length = out.length + m'.x2.length by simp [Lm.items]]
        rfl
      · dsimp only
        rw [ints_append, List.length_append]
        refine Ent.take1 (t := inferInstance) ?_
        refine Ent.trans (Ent.rownil 3 1) ?_
        refine Ent.trans (RLimboO.close (a := some ⟨b, 0, none⟩) (r0 := r0) (r1 := r1) (r2 := none) (m'.put 2 0 []) hT.put2 rfl rfl rfl rfl rfl rfl rfl rfl rfl rfl) ?_
        exact ent
  · refine go ?_
    have hra : readyAll now m' = ([], m') := by
      by_cases h2 : 2 ≤ now
      · rw [← anyOpen_least h2] at hop
        have hl := of_decide_eq_false hop
        rcases hlu : leastUp now m' 3 with _ | j
        · exact hall _ h2 hlu
        · rw [hlu] at hl; exact absurd (show (0 : Int) ≤ leastI (some j) by simp [leastI]) hl
      · unfold readyAll; rw [if_neg h2]
    rw [hra] at he1 he2
    simp only [List.append_nil] at he1
    subst he1; subst he2
    exact Kr.one (.inr rfl) rfl (Ent.refl _) ⟨ro, co, rfl, rfl⟩
end
end Go.Proofs.YtnbkjcmmjgkdaaaGreat

/-
  The document's limbo: Retire.
-/
set_option linter.unusedVariables false
set_option linter.unusedSimpArgs false
namespace Go.Proofs.YtnbkjcmmjgkdaaaGreat
open Go
attribute [local irreducible] Sx Cx Rx Fx Krg Ksq Kbl Klp Kr
section
variable {L F : St}
end
end Go.Proofs.YtnbkjcmmjgkdaaaGreat

/-
  The document's supplies: Retire, Ready, Take.
-/
set_option linter.unusedVariables false
set_option linter.unusedSimpArgs false
namespace Go.Proofs.YtnbkjcmmjgkdaaaGreat
open Go
attribute [local irreducible] Sx Cx Rx Fx Krg Ksq Kbl Klp Kr
section
variable {L F G : St}
theorem refTakeI {b : Nat} {most : Int} (xs : List Int) {F : St} [t : Take L (some ⟨b, 0, none⟩) (RefO most xs) F] (hb : xs.length ≤ 100000000) :
    Fx Tryz.prog 174 [.pointer (some ⟨b, 0, none⟩)] L (fun v L' => v = .tuple #[.int .i64 (lastI xs), .bool (decide (xs ≠ []))] ∧ L' = pt (some ⟨b, 0, none⟩) (RefO most xs.dropLast) :: F) := by
  rcases List.eq_nil_or_concat xs with rfl | ⟨ys, x, rfl⟩
  · exact refTakeNone
  · rw [List.concat_eq_append] at t hb ⊢
    refine (refTakeSome (t := t) (by simp at hb; omega)).mono ?_
    rintro v L' ⟨rfl, rfl⟩
    simp [lastI]
def rsupL (T : TypeId) (w : Nat) (S : SupS) (a : Option Addr) (y : Nat × Nat) : St :=
  [pt a (Blk T [.pointer (some ⟨w, 0, none⟩), .pointer (some ⟨y.1, 0, none⟩), .pointer (some ⟨y.2, 0, none⟩)]), pt (some ⟨y.1, 0, none⟩) (RefO S.most S.xs), pt (some ⟨y.2, 0, none⟩) (RLimboO S.lm)]
def RSupT (T : TypeId) (w : Nat) (S : SupS) (a : Option Addr) : As := exs (rsupL T w S a)
abbrev RSupO := RSupT 100
theorem RSupO.close {T : TypeId} {w st lm : Nat} {a : Option Addr} {m : Int} {xs : List Int} {l : Lm} {F0 F1 G : St} (S : SupS)
    [t : Take L a (Blk T [.pointer (some ⟨w, 0, none⟩), .pointer (some ⟨st, 0, none⟩), .pointer (some ⟨lm, 0, none⟩)]) F0] [u : Take F0 (some ⟨st, 0, none⟩) (RefO m xs) F1] [q : Take F1 (some ⟨lm, 0, none⟩) (RLimboO l) G]
    (hm : m = S.most) (hx : xs = S.xs) (hl : l = S.lm) : Ent L (pt a (RSupT T w S) :: G) := by
  subst hm; subst hx; subst hl
  refine Ent.trans (Ent.take1 (t := t) (Ent.trans (Ent.of u.out) (Ent.cons (Ent.of q.out)))) ?_
  exact Ent.close (f := rsupL T w S a) rfl (st, lm)
theorem refSupReady {s w : Nat} {S : SupS} {F : St} [t : Take L (some ⟨s, 0, none⟩) (RSupO w S) F] {now : Int} (hb : S.lm.size ≤ 100000000) (hx : S.xs.length ≤ 100000000) (hn : now ≤ 9223372036854775807) :
    Fx Tryz.prog 89 [.pointer (some ⟨s, 0, none⟩), .int .i64 now] L (fun v L' => v = .int .i64 (readyAll now S.lm).1.length ∧ L' = pt (some ⟨s, 0, none⟩) (RSupO w (S.ready now)) :: F) := by
  have hz := size_ready now S.lm
  refine Fx.mk Tryz.func89 k89 (Nat.le_of_ble_eq_true rfl) ?_
  dsimp only [c89, envOf, Nat.reduceAdd]
  refine Cx.openp (t := t) rfl ?_
  rintro ⟨st, lm⟩
  simp only [rsupL, List.cons_append, List.nil_append]
  refine go ?_
  refine Sx.ca rfl (refReady (b := lm) (m := S.lm) (now := now) hb hn) ?_
  rintro v L' ⟨ro, co, rfl, rfl⟩
  refine Sx.rowkey (a := ro) fun hx0 hn0 _ hk0 => ?_
  refine go ?_
  refine Sx.ca rfl (refGive (b := st) (Rd.any (a := ro) hx0 (hk0.imp (fun h => h.2.1) id)) (by omega)) ?_
  rintro v L' ⟨rfl, rfl⟩
  refine go ?_
  refine Kr.one (.inr rfl) rfl (Ent.trans (RSupO.close (a := some ⟨s, 0, none⟩) (st := st) (lm := lm) (w := w) (S.ready now) rfl rfl rfl) ?_) ⟨rfl, rfl⟩
  exact ent
/-- What a Take of the document's has. -/
def TakeS.ch (t : TakeS) : Int := if t.is_ then t.chunk else -1
abbrev rtkB (b s : Nat) (at_ : Nat) (ch seen : Int) (pp : Value) (d : Bool) : As := pt (some ⟨b, 0, none⟩) (Blk 159 [.pointer (some ⟨s, 0, none⟩), .int .i64 (at_ : Nat), .int .i64 ch, .int .i64 seen, pp, .bool d])
def rtakeDL (T : TypeId) (s : Nat) (t : TakeS) (a : Option Addr) (y : Nat × Value) : St := [pt a (Blk T [.pointer (some ⟨s, 0, none⟩), .int .i64 (y.1 : Nat), .int .i64 t.ch, .int .i64 t.seen, y.2, .bool true])]
def rtakeLL (T : TypeId) (s : Nat) (t : TakeS) (a : Option Addr) (y : Value) : St := [pt a (Blk T [.pointer (some ⟨s, 0, none⟩), .int .i64 0, .int .i64 (-1), .int .i64 t.seen, y, .bool false])]
def rtakePL (T : TypeId) (s rp : Nat) (t : TakeS) (a : Option Addr) (y : Nat) : St := [pt a (Blk T [.pointer (some ⟨s, 0, none⟩), .int .i64 1, .int .i64 (-1), .int .i64 t.seen, .pointer (some ⟨y, 0, none⟩), .bool false]), pt (some ⟨y, 0, none⟩) (RPopO rp t.q)]
def RTakeT (T : TypeId) (s rp : Nat) (t : TakeS) (a : Option Addr) : As := bif t.done then exs (rtakeDL T s t a) else bif Nat.beq t.at_ 0 then exs (rtakeLL T s t a) else exs (rtakePL T s rp t a)
abbrev RTakeO := RTakeT 159
theorem RTakeO.d {T : TypeId} {s rp : Nat} {t : TakeS} {a : Option Addr} (h : t.done = true) : RTakeT T s rp t a = exs (rtakeDL T s t a) := by unfold RTakeT; rw [h]; rfl
theorem RTakeO.l {T : TypeId} {s rp : Nat} {t : TakeS} {a : Option Addr} (h : t.done = false) (h0 : t.at_ = 0) : RTakeT T s rp t a = exs (rtakeLL T s t a) := by unfold RTakeT; rw [h, h0]; rfl
theorem RTakeO.p {T : TypeId} {s rp : Nat} {t : TakeS} {a : Option Addr} (h : t.done = false) (h0 : t.at_ ≠ 0) : RTakeT T s rp t a = exs (rtakePL T s rp t a) := by
  unfold RTakeT
  have : Nat.beq t.at_ 0 = false := by
    cases hb : Nat.beq t.at_ 0 with
    | false => rfl
    | true => exact absurd (Nat.eq_of_beq_eq_true hb) h0
  rw [h, this]; rfl
theorem RTakeO.closeD {b s rp n : Nat} {ch seen : Int} {pp : Value} (t : TakeS) (h : t.done = true) (hc : ch = t.ch) (hs : seen = t.seen) : Ent (rtkB b s n ch seen pp true :: G) (pt (some ⟨b, 0, none⟩) (RTakeO s rp t) :: G) := by
  subst hc; subst hs
  exact Ent.close (f := rtakeDL 159 s t (some ⟨b, 0, none⟩)) (RTakeO.d h) (n, pp)
theorem RTakeO.closeL {b s rp : Nat} {seen : Int} {pp : Value} (t : TakeS) (h : t.done = false) (h0 : t.at_ = 0) (hs : seen = t.seen) : Ent (rtkB b s 0 (-1) seen pp false :: G) (pt (some ⟨b, 0, none⟩) (RTakeO s rp t) :: G) := by
  subst hs
  exact Ent.close (f := rtakeLL 159 s t (some ⟨b, 0, none⟩)) (RTakeO.l h h0) pp
theorem RTakeO.closeP {b s rp p : Nat} {seen : Int} {q : PopS} (t : TakeS) (h : t.done = false) (h0 : t.at_ ≠ 0) (hs : seen = t.seen) (hq : q = t.q) : Ent (rtkB b s 1 (-1) seen (.pointer (some ⟨p, 0, none⟩)) false :: pt (some ⟨p, 0, none⟩) (RPopO rp q) :: G) (pt (some ⟨b, 0, none⟩) (RTakeO s rp t) :: G) := by
  subst hs; subst hq
  exact Ent.close (f := rtakePL 159 s rp t (some ⟨b, 0, none⟩)) (RTakeO.p h h0) p
abbrev rtkV (s : Nat) (at_ : Nat) (ch seen : Int) (pp : Value) (d : Bool) : Option Addr → As := Blk 159 [.pointer (some ⟨s, 0, none⟩), .int .i64 (at_ : Nat), .int .i64 ch, .int .i64 seen, pp, .bool d]
theorem refKept {b s w n : Nat} {S : SupS} {seen : Int} {pp : Value} {F1 : St} (hb : S.xs.length ≤ 100000000) [t1 : Take L (some ⟨b, 0, none⟩) (rtkV s n (-1) seen pp false) F1] [t2 : Take F1 (some ⟨s, 0, none⟩) (RSupO w S) G] :
    Fx Tryz.prog 141 [.pointer (some ⟨b, 0, none⟩)] L
      (fun v L' => v = .tuple #[] ∧ L' = rtkB b s n (if S.xs = [] then -1 else lastI S.xs) seen pp (decide (S.xs ≠ [])) :: pt (some ⟨s, 0, none⟩) (RSupO w S.kept) :: G) := by
  refine Fx.mk Tryz.func141 k141 (Nat.le_of_ble_eq_true rfl) ?_
  dsimp only [c141, envOf, Nat.reduceAdd]
  refine Cx.ent (Ent.trans (Ent.of t1.out) (Ent.cons (Ent.of t2.out))) ?_
  refine Cx.openp (a := some ⟨s, 0, none⟩) rfl ?_
  rintro ⟨st, lm⟩
  simp only [rsupL, List.cons_append, List.nil_append]
  refine go ?_
  refine Sx.ca rfl (refTakeI (b := st) S.xs hb) ?_
  rintro v L' ⟨rfl, rfl⟩
  by_cases hx : S.xs = []
  · rw [decide_eq_false (fun h => h hx), if_pos hx]
    refine go ?_
    refine Kr.none (.inl rfl) ?_ ⟨rfl, rfl⟩
    refine Ent.trans ?_ Ent.swap
    refine Ent.trans (RSupO.close (a := some ⟨s, 0, none⟩) (st := st) (lm := lm) (w := w) S.kept rfl rfl rfl) (Ent.cons ?_)
    exact ent
  · rw [decide_eq_true hx, if_neg hx]
    refine go ?_
    refine Kr.none (.inl rfl) ?_ ⟨rfl, rfl⟩
    refine Ent.trans ?_ Ent.swap
    refine Ent.trans (RSupO.close (a := some ⟨s, 0, none⟩) (st := st) (lm := lm) (w := w) S.kept rfl rfl rfl) (Ent.cons ?_)
    exact ent
theorem refTakePop {b s w rm rp rs re n : Nat} {x : Cn} {S : SupS} {ch seen : Int} {pp : Value} {F1 F2 F3 : St} (hb : x.ba ≤ 8) [t1 : Take L (some ⟨b, 0, none⟩) (rtkV s n ch seen pp false) F1] [t2 : Take F1 (some ⟨s, 0, none⟩) (RSupO w S) F2] [t3 : Take F2 (some ⟨w, 0, none⟩) (RWO x rm rp rs re) F3] [t4 : Take F3 (some ⟨rp, 0, none⟩) (RSkO rm x.pool) G] :
    Fx Tryz.prog 142 [.pointer (some ⟨b, 0, none⟩)] L
      (fun v L' => ∃ p, v = .tuple #[] ∧ L' = rtkB b s 1 ch seen (.pointer (some ⟨p, 0, none⟩)) false :: pt (some ⟨p, 0, none⟩) (RPopO rp (PopS.init x.ba)) :: pt (some ⟨s, 0, none⟩) (RSupO w S) :: F2) := by
  refine Fx.mk Tryz.func142 k142 (Nat.le_of_ble_eq_true rfl) ?_
  dsimp only [c142, envOf, Nat.reduceAdd]
  refine Cx.ent (Ent.trans (Ent.of t1.out) (Ent.cons (Ent.trans (Ent.of t2.out) (Ent.cons (Ent.trans (Ent.of t3.out) (Ent.cons (Ent.of t4.out))))))) ?_
  refine Cx.openp (a := some ⟨s, 0, none⟩) rfl ?_
  rintro ⟨st, lm⟩
  simp only [rsupL, List.cons_append, List.nil_append]
  refine Cx.orde rfl (by kernel_rfl) ?_
  refine ge ?_
  refine Ev.caH (by kernel_rfl) rfl rfl (refPopNew (sb := rp) (rm := rm) (k := x.pool) (x.ba : Int)) (Pres.deps (by kernel_rfl)) ?_
  rintro v L' ⟨p, rfl, rfl⟩
  refine ge ?_
  refine Ev.stbH (b := b) (by kernel_rfl) rfl rfl rfl rfl rfl (by rfl) rfl (Pres.deps (by kernel_rfl)) ?_
  refine ge ?_
  refine Ev.stbH (b := b) (by kernel_rfl) rfl rfl rfl rfl rfl (by rfl) rfl (Pres.deps (by kernel_rfl)) ?_
  refine ge ?_
  refine Kr.none (.inl rfl) ?_ ⟨p, rfl, rfl⟩
  refine Ent.trans (Ent.take (a := some ⟨b, 0, none⟩)) (Ent.cons ?_)
  refine Ent.trans (Ent.take (a := some ⟨p, 0, none⟩)) (Ent.cons ?_)
  refine Ent.trans (RSupO.close (a := some ⟨s, 0, none⟩) (st := st) (lm := lm) (w := w) S rfl rfl rfl) (Ent.cons ?_)
  refine Ent.trans ?_ (Ent.of t3.back)
  refine Ent.trans ?_ (Ent.cons (Ent.of t4.back))
  exact ent
end
end Go.Proofs.YtnbkjcmmjgkdaaaGreat

/-
  Many parts of one kind; the memory, the workers' supplies, the document's beside, of the statements about gathering.
-/
set_option linter.unusedVariables false
set_option linter.unusedSimpArgs false
namespace Go.Proofs.YtnbkjcmmjgkdaaaGreat
open Go
attribute [local irreducible] Sx Cx Rx Fx Krg Ksq Kbl Klp Kr
theorem holds_perm {L M : St} (p : L.Perm M) : ∀ {h : Hp}, holds L h → holds M h := by
  induction p with
  | nil => exact fun H => H
  | cons x _ ih => exact fun H => holds_cons (fun _ => ih) H
  | swap x y l => exact fun H => holds_swap H
  | trans _ _ ih1 ih2 => exact fun H => ih2 (ih1 H)
theorem Ent.perm {L M : St} (p : L.Perm M) : Ent L M := .of fun _ => holds_perm p
def many (n : Nat) (f : Nat → St) : St := (List.range n).flatMap f
def updS (f : Nat → St) (i : Nat) (s : St) : Nat → St := fun j => if j = i then s else f j
theorem Ent.deep {M N G : St} : Ent (N ++ (M ++ G)) (M ++ (N ++ G)) := by
  rw [← List.append_assoc, ← List.append_assoc]; exact .perm (List.perm_append_comm.append_right _)
theorem many_zero (f : Nat → St) : many 0 f = [] := rfl
theorem many_succ (n : Nat) (f : Nat → St) : many (n + 1) f = many n f ++ f n := by simp [many, List.range_succ]
theorem many_congr {n : Nat} {f g : Nat → St} (h : ∀ i, i < n → f i = g i) : many n f = many n g := by
  induction n with
  | zero => rfl
  | succ n ih => rw [many_succ, many_succ, ih fun i hi => h i (by omega), h n (by omega)]
theorem updS_same (f : Nat → St) (i : Nat) (s : St) : updS f i s i = s := if_pos rfl
theorem updS_ne (f : Nat → St) {i j : Nat} (s : St) (h : j ≠ i) : updS f i s j = f j := if_neg h
theorem updS_updS (f : Nat → St) (i : Nat) (s t : St) : updS (updS f i s) i t = updS f i t := by
  funext j; unfold updS; split <;> rfl
theorem many_perm {n : Nat} {f : Nat → St} : ∀ {i : Nat}, i < n → (many n f).Perm (f i ++ many n (updS f i [])) := by
  induction n with
  | zero => intro i h; omega
  | succ n ih =>
    intro i h
    rw [many_succ, many_succ]
    by_cases e : i = n
    · subst e
      rw [updS_same, List.append_nil, many_congr (g := f) fun j hj => updS_ne f [] (by omega)]
      exact List.perm_append_comm
    · rw [updS_ne f [] (show n ≠ i by omega), ← List.append_assoc]
      exact (ih (by omega)).append_right _
/-- One of them ahead. -/
theorem Ent.one {n i : Nat} {f : Nat → St} {G : St} (h : i < n) : Ent (many n f ++ G) (f i ++ (many n (updS f i []) ++ G)) := by
  rw [← List.append_assoc]; exact .perm ((many_perm h).append_right _)
theorem Ent.oneBack {n i : Nat} {f : Nat → St} {s : St} {G : St} (h : i < n) : Ent (s ++ (many n (updS f i []) ++ G)) (many n (updS f i s) ++ G) := by
  have := (many_perm (f := updS f i s) h).append_right G
  rw [updS_same, updS_updS, List.append_assoc] at this
  exact .perm this.symm
theorem Ent.app {A B X : St} (h : Ent A B) : Ent (X ++ A) (X ++ B) := by
  induction X with
  | nil => exact h
  | cons P X ih => exact Ent.cons ih
theorem Ent.dropA {A B : St} : Ent (A ++ B) B := by
  induction A with
  | nil => exact Ent.refl _
  | cons P X ih => exact Ent.trans Ent.drop ih
/-- Where the many stand in a list. -/
class Many (L : St) (n : outParam Nat) (f : outParam (Nat → St)) (N G : outParam St) : Prop where
  eq : L = N ++ (many n f ++ G)
instance (priority := high) Many.here (n : Nat) (f : Nat → St) (G : St) : Many (many n f ++ G) n f [] G := ⟨rfl⟩
instance Many.there (P : As) (L : St) (n : Nat) (f : Nat → St) (N G : St) [t : Many L n f N G] : Many (P :: L) n f (P :: N) G := ⟨by rw [t.eq]; rfl⟩
/-- One of them ahead of all; back. -/
theorem Ent.ith {L : St} {n : Nat} {f : Nat → St} {N G : St} [t : Many L n f N G] (i : Nat) (h : i < n) : Ent L (f i ++ (N ++ (many n (updS f i []) ++ G))) := by
  rw [t.eq]
  exact Ent.trans Ent.deep (Ent.trans (Ent.one h) (Ent.app Ent.deep))
theorem Ent.ithBack {n : Nat} {f : Nat → St} {N G s : St} {i : Nat} (h : i < n) : Ent (s ++ (N ++ (many n (updS f i []) ++ G))) (N ++ (many n (updS f i s) ++ G)) :=
  Ent.trans (Ent.app Ent.deep) (Ent.trans (Ent.oneBack h) Ent.deep)
theorem entm {L M : St} (h : Ent L M := by repeat (first | exact Ent.refl _ | (refine Ent.take1 ?_) | (refine Ent.trans Ent.drop ?_) | (refine Ent.trans Ent.dropA ?_))) : Ent L M := h
theorem updS_id (f : Nat → St) (i : Nat) : updS f i (f i) = f := by
  funext j; unfold updS; split
  · rename_i h; rw [h]
  · rfl
/-- Addresses, one for each. -/
def ptrs (n : Nat) (U : Nat → Nat) : List Value := (List.range n).map fun i => .pointer (some ⟨U i, 0, none⟩)
theorem ptrs_succ (n : Nat) (U : Nat → Nat) : ptrs (n + 1) U = ptrs n U ++ [.pointer (some ⟨U n, 0, none⟩)] := by simp [ptrs, List.range_succ]
theorem ptrs_get {n i : Nat} {U : Nat → Nat} (h : i < n) : (ptrs n U)[i]? = some (.pointer (some ⟨U i, 0, none⟩)) := by simp [ptrs, h]
theorem ptrs_congr {n : Nat} {U V : Nat → Nat} (h : ∀ i, i < n → U i = V i) : ptrs n U = ptrs n V := by
  unfold ptrs
  refine List.map_congr_left fun i hi => ?_
  rw [h i (List.mem_range.1 hi)]
/-- Where a worker's supplies stand: the program's, its pool; the document's. -/
structure Who where
  u : Nat
  pb : Nat
  s : Nat
section
variable {L F G : St}
def whoL (mp w : Nat) (x : Cn) (q : Who) (S S2 : SupS) : St :=
  [pt (some ⟨q.u, 0, none⟩) (SupO mp q.pb x S), pt (some ⟨q.pb, 0, none⟩) (SkO mp x.pool), pt (some ⟨q.s, 0, none⟩) (RSupO w S2)]
/-- Where all stands. -/
structure Gn where
  a : Nat
  mp : Nat
  te : Nat
  g : Nat
  e : Nat
  pb : Nat
  w : Nat
  rm : Nat
  rp : Nat
  rs : Nat
  re : Nat
abbrev gaV (x : Cn) (n : Gn) (r r2 : Option Addr) (k c c2 : Nat) : List Value :=
  [.int .i64 x.w, .int .i64 x.c, .int .i64 x.wd, .int .i64 x.sl, .int .i64 x.ca, .int .i64 x.ba, .pointer (some ⟨n.mp, 0, none⟩), .pointer (some ⟨n.te, 0, none⟩), .pointer (some ⟨n.g, 0, none⟩), .pointer (some ⟨n.pb, 0, none⟩), .slice r k c, .pointer (some ⟨n.w, 0, none⟩), .slice r2 k c2]
abbrev gaF (x : Cn) (n : Gn) (r r2 : Option Addr) (k c c2 : Nat) (Q : Nat → Who) (S S2 : Nat → SupS) (m m2 : Mm) (G : St) : St :=
  pt (some ⟨n.a, 0, none⟩) (Blk 80 (gaV x n r r2 k c c2)) :: pt r (Row 39 1 k c (ptrs k fun i => (Q i).u)) :: pt r2 (Row 89 1 k c2 (ptrs k fun i => (Q i).s)) ::
  pt (some ⟨n.mp, 0, none⟩) (MemO m) :: pt (some ⟨n.pb, 0, none⟩) (SkO n.mp x.pool) :: pt (some ⟨n.te, 0, none⟩) (EpO n.mp x) :: pt (some ⟨n.g, 0, none⟩) (GaO n.mp n.e) :: pt (some ⟨n.e, 0, none⟩) (EpO n.mp x) ::
  pt (some ⟨n.w, 0, none⟩) (RWO x n.rm n.rp n.rs n.re) :: pt (some ⟨n.rm, 0, none⟩) (RMemO m2) :: pt (some ⟨n.rp, 0, none⟩) (RSkO n.rm x.pool) :: pt (some ⟨n.rs, 0, none⟩) (RSkO n.rm x.spare) :: pt (some ⟨n.re, 0, none⟩) (REpO x n.rm) ::
  (many k (fun i => whoL n.mp n.w x (Q i) (S i) (S2 i)) ++ G)
def updQ (Q : Nat → Who) (i : Nat) (q : Who) : Nat → Who := fun j => if j = i then q else Q j
theorem gaMade {x : Cn} (hx : x.ok) : Fx Tryz.prog 29 [x.v] L (fun v L' => ∃ (n : Gn) (r r2 c c2 : Nat) (Q : Nat → Who), v = .pointer (some ⟨n.a, 0, none⟩) ∧
    L' = gaF x n (some ⟨r, 0, none⟩) (some ⟨r2, 0, none⟩) x.w c c2 Q (fun _ => SupS.nil x.ca) (fun _ => SupS.nil x.ca) (poolM x) (fillM x.spare (poolM x)) L) := by
  obtain ⟨b1, b2, b3, b4, b5, b6, b7⟩ := hx.b
  have hlen := hx.len_le
  have hl1 : 1 ≤ x.len := by unfold Cn.len; omega
  have hpl := poolM_len x
  have hzl := zeroM_len x
  refine Fx.mk Tryz.func29 k29 (Nat.le_of_ble_eq_true rfl) ?_
  dsimp only [c29, envOf, Nat.reduceAdd]
  refine Cx.sq ?_
  refine Cx.rg ?_
  refine Sx.bx rfl rfl fun g0 => ?_
  refine go ?_
  refine Sx.ca rfl (layLen (x.w : Int) x.c x.wd x.sl x.ca x.ba hx) ?_
  rintro v L' ⟨rfl, rfl⟩
  rw [x.lenC]
  refine go ?_
  refine Sx.ca rfl (cellsNew x.len hl1 hlen) ?_
  rintro v L' ⟨mp, rfl, rfl⟩
  refine go ?_
  refine Sx.ca rfl (chainNew (mp := mp) (m := zeroM x) hx (by omega)) ?_
  rintro v L' ⟨ch, pb, rfl, rfl⟩
  refine go ?_
  refine Sx.ca rfl (gatherNew (mp := mp) (m := zeroM x) hx (by omega)) ?_
  rintro v L' ⟨g, e, rfl, rfl⟩
  refine go ?_
  refine Cx.ordc rfl (by kernel_rfl) ?_
  refine ge ?_
  refine Ev.cakH (by kernel_rfl) rfl rfl (layPinN hx 0 (by omega)) ?_
  refine ge ?_
  refine Ev.caH (by kernel_rfl) rfl rfl (epochNew (mp := mp) (m := zeroM x) (x := x) hx (by omega)) (Pres.deps (by kernel_rfl)) ?_
  rintro v L' ⟨te, rfl, rfl⟩
  refine ge ?_
  refine go ?_
  refine Sx.ca rfl (chainPool (g := ch) (mp := mp) (sb := pb) (x := x)) ?_
  rintro v L' ⟨rfl, rfl⟩
  refine go ?_
  refine Sx.ca rfl (chainFill (g := ch) (mp := mp) (sb := pb) (x := x) (m := zeroM x) (hx.pool (by omega) (by omega))) ?_
  rintro v L' rfl
  refine go ?_
  refine Cx.ordc rfl (by kernel_rfl) ?_
  refine ge ?_
  refine Ev.cakH (by kernel_rfl) rfl rfl (chainPool (g := ch) (mp := mp) (sb := pb) (x := x)) ?_
  refine ge ?_
  refine Ev.caH (by kernel_rfl) rfl rfl (refWNew hx) (.dep rfl (.dep rfl (.keep (fun v L' ⟨_, _, _, _, _, _, e⟩ => by subst e; exact Has.blk) .nil))) ?_
  rintro v L' ⟨w, rm, rp, rs, re, rfl, rfl⟩
  refine ge ?_
  refine Ev.bxH (by kernel_rfl) rfl rfl rfl (Pres.deps (by kernel_rfl)) fun a => ?_
  refine ge ?_
  refine go ?_
  refine Cx.lp (α := {p : Nat × (Nat → Who) × (Option Addr × Nat) × (Option Addr × Nat) // p.1 ≤ x.w})
    (fun p => [(1, .pointer (some ⟨g0, 0, none⟩)), (3, .pointer (some ⟨mp, 0, none⟩)), (11, .pointer (some ⟨a, 0, none⟩)), (12, .int .i64 (p.1.1 : Nat))])
    (fun p => pt (some ⟨g0, 0, none⟩) (Blk 24 x.l) :: gaF x ⟨a, mp, te, g, e, pb, w, rm, rp, rs, re⟩ p.1.2.2.1.1 p.1.2.2.2.1 p.1.1 p.1.2.2.1.2 p.1.2.2.2.2 p.1.2.1 (fun _ => SupS.nil x.ca) (fun _ => SupS.nil x.ca) (poolM x) (fillM x.spare (poolM x)) L)
    (fun p => x.w - p.1.1) ⟨(0, fun _ => ⟨0, 0, 0⟩, (none, 0), (none, 0)), Nat.zero_le _⟩ (sub.cons rfl (sub.cons rfl (sub.cons rfl (sub.cons rfl sub.nil)))) ?_ ?_
  · dsimp only [gaF]
    rw [many_zero]
    refine Ent.trans (Ent.take (a := some ⟨g0, 0, none⟩)) (Ent.cons ?_)
    refine Ent.trans (Ent.take (a := some ⟨a, 0, none⟩)) (Ent.cons ?_)
    refine Ent.trans (Ent.rownil 89 1) (Ent.trans (Ent.rownil 39 1) (Ent.cons (Ent.cons ?_)))
    unfold poolM
    simp only [List.nil_append]
    exact ent
  rintro ⟨⟨j, Q, ⟨r, c⟩, ⟨r2, c2⟩⟩, hj⟩
  dsimp only [gaF] at hj ⊢
  refine go ?_
  refine Cx.ifp rfl (fun h => ?_) (fun h => ?_)
  · refine go ?_
    refine Sx.ca rfl (supNew (mp := mp) (m := poolM x) hx (by omega)) ?_
    rintro v L' ⟨u, pb2, rfl, rfl⟩
    refine go ?_
    refine Sx.bs (sz := 1) rfl rfl fun q => ?_
    refine Sx.ap (ra := r) rfl rfl (Rd.row (b := q) (E := 39) (cap := 1) rfl) rfl (by simp [maxLen]; omega) (by omega) fun r' c' hc => ?_
    refine go ?_
    refine Cx.orde rfl (by kernel_rfl) ?_
    refine ge ?_
    refine Ev.caH (by kernel_rfl) rfl rfl (refSupply (w := w) (rm := rm) (rp := rp) (rs := rs) (re := re) (x := x)) (.dep rfl (.keep (fun v L' ⟨_, _, _, _, e⟩ => by subst e; exact Has.cell rfl) .nil)) ?_
    rintro v L' ⟨s, st, lm, rfl, rfl⟩
    refine ge ?_
    refine Ev.bsH (sz := 1) (by kernel_rfl) rfl rfl rfl (.dep rfl (.keep (fun v L' ⟨_, _, e⟩ => by subst e; exact Has.cell rfl) .nil)) fun q2 => ?_
    refine ge ?_
    refine Ev.apH (ra := r2) (by kernel_rfl) rfl rfl rfl (Rd.row (b := q2) (E := 89) (cap := 1) rfl) rfl (by simp [maxLen]; omega) (by omega) (Pres.deps (by kernel_rfl)) fun r2' c2' hc2 hk2 => ?_
    refine ge ?_
    refine Ev.stbH (b := a) (by kernel_rfl) rfl rfl rfl rfl rfl (by rfl) rfl (Pres.deps (by kernel_rfl)) ?_
    refine ge ?_
    refine go ?_
    rw [w64 (n := (j : Int) + 1) (by omega) (by omega)]
    refine Klp.nm ⟨(j + 1, updQ Q j ⟨u, pb2, s⟩, (r', c'), (r2', c2')), by dsimp only; omega⟩ (sub.cons rfl (sub.cons rfl (sub.cons rfl (sub.cons rfl sub.nil)))) ?_ (by dsimp only; omega)
    have eu : ptrs j (fun i => (updQ Q j ⟨u, pb2, s⟩ i).u) = ptrs j fun i => (Q i).u := ptrs_congr fun i hi => by simp [updQ, show i ≠ j by omega]
    have es : ptrs j (fun i => (updQ Q j ⟨u, pb2, s⟩ i).s) = ptrs j fun i => (Q i).s := ptrs_congr fun i hi => by simp [updQ, show i ≠ j by omega]
    have em : many j (fun i => whoL mp w x (updQ Q j ⟨u, pb2, s⟩ i) (SupS.nil x.ca) (SupS.nil x.ca)) = many j fun i => whoL mp w x (Q i) (SupS.nil x.ca) (SupS.nil x.ca) := many_congr fun i hi => by simp [updQ, show i ≠ j by omega]
    dsimp only [gaF]
    rw [ptrs_succ, ptrs_succ, many_succ, eu, es, em]
    simp only [updQ, if_true, List.append_assoc]
    refine Ent.trans (Ent.take (a := some ⟨g0, 0, none⟩)) (Ent.cons ?_)
    refine Ent.trans (RSupO.close (a := some ⟨s, 0, none⟩) (st := st) (lm := lm) (w := w) (SupS.nil x.ca) rfl rfl rfl) ?_
    iterate 13 (refine Ent.take1 ?_)
    refine Ent.trans ?_ (Ent.deep (N := whoL mp w x ⟨u, pb2, s⟩ (SupS.nil x.ca) (SupS.nil x.ca)))
    simp only [whoL, List.cons_append, List.nil_append]
    exact ent
  · obtain rfl : j = x.w := by omega
    refine Cx.rowkey (a := r) fun _ _ _ hk1 => ?_
    refine Cx.rowkey (a := r2) fun _ _ _ hk2 => ?_
    obtain ⟨ra, rfl⟩ : ∃ g, r = some ⟨g, 0, none⟩ := by
      rcases hk1 with h | h
      · omega
      · exact h
    obtain ⟨rb, rfl⟩ : ∃ g, r2 = some ⟨g, 0, none⟩ := by
      rcases hk2 with h | h
      · omega
      · exact h
    refine go ?_
    exact Kr.one (.inr rfl) rfl Ent.drop ⟨⟨a, mp, te, g, e, pb, w, rm, rp, rs, re⟩, ra, rb, c, c2, Q, rfl, rfl⟩
end
end Go.Proofs.YtnbkjcmmjgkdaaaGreat

/-
  Supplies: a Take begins; the chapter's example.
-/
set_option linter.unusedVariables false
set_option linter.unusedSimpArgs false
namespace Go.Proofs.YtnbkjcmmjgkdaaaGreat
open Go
attribute [local irreducible] Sx Cx Rx Fx Krg Ksq Kbl Klp Kr
section
variable {L F G : St}
theorem supTake {u mp pb : Nat} {x : Cn} {s : SupS} {F : St} (hx : x.ok) (hb : s.xs.length + s.lm.size ≤ 1000000) [t : Take L (some ⟨u, 0, none⟩) (SupO mp pb x s) F] :
    Fx Tryz.prog 61 [.pointer (some ⟨u, 0, none⟩)] L (fun v L' => ∃ b, v = .pointer (some ⟨b, 0, none⟩) ∧ L' = pt (some ⟨b, 0, none⟩) (TakeO u pb x.pool (takeInit x.ba s).2) :: pt (some ⟨u, 0, none⟩) (SupO mp pb x (takeInit x.ba s).1) :: F) := by
  refine Fx.mk Tryz.func61 k61 (Nat.le_of_ble_eq_true rfl) ?_
  dsimp only [c61, envOf, Nat.reduceAdd]
  refine Cx.ent (Ent.of t.out) ?_
  refine go ?_
  refine Sx.bx rfl rfl fun b => ?_
  refine go ?_
  refine Sx.ca rfl (takeKept (b := b) (u := u) (mp := mp) (pb := pb) (x := x) (s := s) (by omega)) ?_
  rintro v L' ⟨rfl, rfl⟩
  by_cases hxs : s.xs = []
  · have hk : s.kept = s := by unfold SupS.kept; rw [hxs]; simp only [List.dropLast_nil]; rw [← hxs]
    rw [decide_eq_false (fun h : s.xs ≠ [] => h hxs), hk, show lastI s.xs = 0 by rw [hxs]; rfl]
    refine go ?_
    refine Sx.openp (a := some ⟨u, 0, none⟩) rfl ?_
    rintro ⟨sh, lm⟩
    simp only [supL, List.cons_append, List.nil_append]
    refine go ?_
    refine Sx.ca rfl (limboLen (b := lm) (m := s.lm) (by omega)) ?_
    rintro v L' ⟨rfl, rfl⟩
    refine go ?_
    by_cases hz : 0 < s.lm.size
    · have e : takeInit x.ba s = (s, TakeS.none_) := by unfold takeInit keepT; rw [if_pos hxs]; simp only [if_pos hz]
      rw [e]
      refine Cx.cyes rfl (decide_eq_true (by omega)) ?_
      refine go ?_
      refine Sx.ca rfl (machGo (b := b)) ?_
      rintro v L' ⟨rfl, rfl⟩
      refine go ?_
      refine Kr.one (.inr rfl) rfl ?_ ⟨b, rfl, rfl⟩
      refine Ent.trans ?_ (TakeO.closeL (n1 := .nilFunc) (n2 := .nilFunc) (n3 := .nilFunc) (pp := .pointer none) (cnt := 0) TakeS.none_ rfl rfl rfl rfl rfl)
      refine Ent.cons ?_
      refine Ent.trans (SupO.close (a := some ⟨u, 0, none⟩) (sh := sh) (lm := lm) (mp := mp) (pb := pb) (x := x) s rfl rfl rfl) (Ent.refl _)
    · have e : takeInit x.ba s = (s, { TakeS.none_ with at_ := 1, q := PopS.init x.ba }) := by unfold takeInit keepT; rw [if_pos hxs]; simp only [if_neg hz]
      rw [e]
      refine Cx.cno rfl (decide_eq_false (by omega)) ?_
      refine Cx.ent (Ent.trans (Ent.swap) (Ent.trans (Ent.cons (Ent.refl _)) (SupO.close (a := some ⟨u, 0, none⟩) (sh := sh) (lm := lm) (mp := mp) (pb := pb) (x := x) s rfl rfl rfl))) ?_
      refine go ?_
      refine Sx.ca rfl (takeAsk (b := b) (u := u) (mp := mp) (pb := pb) (x := x) (s := s) hx) ?_
      rintro v L' rfl
      refine go ?_
      refine Kr.one (.inr rfl) rfl ?_ ⟨b, rfl, rfl⟩
      exact Ent.refl _
  · have e : takeInit x.ba s = (s.kept, { TakeS.none_ with chunk := lastI s.xs, is_ := true, done := true }) := by unfold takeInit keepT; rw [if_neg hxs]
    rw [e, decide_eq_true (show s.xs ≠ [] from hxs)]
    refine go ?_
    exact Kr.one (.inr rfl) rfl (TakeO.closeD _ rfl rfl rfl rfl) ⟨b, rfl, rfl⟩
end
end Go.Proofs.YtnbkjcmmjgkdaaaGreat

/-
  One alone takes: Steps until the end.
-/
set_option linter.unusedVariables false
set_option linter.unusedSimpArgs false
namespace Go.Proofs.YtnbkjcmmjgkdaaaGreat
open Go
attribute [local irreducible] Sx Cx Rx Fx Krg Ksq Kbl Klp Kr
/-- So many Steps. -/
def tkIt (k : Sk) (ba : Int) : Nat → Mm × SupS × TakeS → Mm × SupS × TakeS
  | 0, r => r
  | n + 1, r => takeStep k ba (tkIt k ba n r).1 (tkIt k ba n r).2.1 (tkIt k ba n r).2.2
theorem takeStep_len {k : Sk} {ba : Int} {m : Mm} {s : SupS} {t : TakeS} : (takeStep k ba m s t).1.ws.length = m.ws.length := by
  unfold takeStep
  split
  · rfl
  · split
    · dsimp only
      split <;> rfl
    · dsimp only
      have : (popStep k m t.q).2.ws.length = m.ws.length := by
        unfold popStep
        split
        · rfl
        · split
          · split <;> rfl
          · split <;> rfl
          · exact Mm.len_cas
      split <;> exact this
/-- While the Pop goes on. -/
theorem tk_pop {k : Sk} {ba : Int} {m : Mm} {s : SupS} {t : TakeS} (hd : t.done = false) (ha : t.at_ = 1) : ∀ j : Nat, (∀ i, i ≤ j → 0 < i → (popIt k i (t.q, m)).1.done = false) →
    tkIt k ba j (m, s, t) = ((popIt k j (t.q, m)).2, s, { t with q := (popIt k j (t.q, m)).1 })
  | 0, _ => rfl
  | j + 1, h => by
    have ih := tk_pop (k := k) (ba := ba) (m := m) (s := s) hd ha j fun i hi => h i (by omega)
    have e := h (j + 1) (by omega) (by omega)
    rw [popIt_succ] at e
    simp only [tkIt]
    rw [ih, popIt_succ]
    unfold takeStep
    simp only [hd, ha, Bool.false_eq_true, if_false]
    rw [e]
    simp
/-- Out of the pool. -/
theorem take_alone {k : Sk} {m : Mm} {l : List Int} {len : Nat} (hk : k.ok len) (hml : m.ws.length = len) (hp : Pool k m l) {ba : Int} (h1 : 1 ≤ ba) (h8 : ba ≤ 8) (hl : l ≠ []) (c : Nat) (hc : (c : Int) = min ba l.length)
    {s : SupS} {t : TakeS} (hd : t.done = false) (ha : t.at_ = 1) (hq : t.q = PopS.init ba) :
    ∃ m' q, tkIt k ba (c + 2) (m, s, t) = (m', s.give (l.take c).tail, { t with q := q, chunk := l.headD 0, is_ := true, done := true }) ∧ m'.n = m.n + (c + 2) ∧ m'.ws.length = len ∧ Pool k m' (l.drop c) ∧ (∀ a, a ≠ k.head → m'.at_ a = m.at_ a) ∧
      (∀ j, j < c + 2 → (tkIt k ba j (m, s, t)).2.2.done = false ∧ (tkIt k ba j (m, s, t)).2.1 = s) := by
  obtain ⟨m', e, h2, h3, h4, h5, h6⟩ := pop_alone hk hml hp ba h1 h8 hl c hc
  rw [← hq] at e h6
  have hb : ∀ j, j < c + 2 → tkIt k ba j (m, s, t) = ((popIt k j (t.q, m)).2, s, { t with q := (popIt k j (t.q, m)).1 }) := fun j hj => tk_pop hd ha j fun i hi _ => h6 i (by omega)
  have hc1 : 1 ≤ c := by
    have := List.length_pos_iff.2 hl
    omega
  obtain ⟨x, l', rfl⟩ := List.exists_cons_of_ne_nil hl
  refine ⟨m', ⟨ba, 0, ((x :: l').drop c).headD (-1), m.at_ k.head, (x :: l').take c, true⟩, ?_, h2, h3, h4, h5, fun j hj => ?_⟩
  rotate_left
  · rw [hb j hj]; exact ⟨hd, rfl⟩
  · show takeStep k ba (tkIt k ba (c + 1) (m, s, t)).1 (tkIt k ba (c + 1) (m, s, t)).2.1 (tkIt k ba (c + 1) (m, s, t)).2.2 = _
    rw [hb (c + 1) (by omega)]
    unfold takeStep
    simp only [hd, ha, Bool.false_eq_true, if_false]
    rw [← popIt_succ, e]
    simp only [if_true]
    unfold popped
    obtain ⟨c', rfl⟩ : ∃ c', c = c' + 1 := ⟨c - 1, by omega⟩
    simp only [List.take_succ_cons, List.tail_cons, List.headD_cons]
section
variable {L F G : St}
end
end Go.Proofs.YtnbkjcmmjgkdaaaGreat

/-
  One alone takes, gives: what it gets; what is left.
-/
set_option linter.unusedVariables false
set_option linter.unusedSimpArgs false
namespace Go.Proofs.YtnbkjcmmjgkdaaaGreat
open Go
attribute [local irreducible] Sx Cx Rx Fx Krg Ksq Kbl Klp Kr
/-- What a Take alone does, with nothing in the limbo. -/
def TakeR (ba : Int) (s : SupS) (l : List Int) (ch : Int) (is_ : Bool) (N : Nat) (s' : SupS) (l' : List Int) : Prop :=
  (s.xs ≠ [] ∧ ch = lastI s.xs ∧ is_ = true ∧ N = 0 ∧ s' = s.kept ∧ l' = l) ∨
  (s.xs = [] ∧ l ≠ [] ∧ ∃ c : Nat, (c : Int) = min ba l.length ∧ ch = l.headD 0 ∧ is_ = true ∧ N = c + 2 ∧ s' = s.give (l.take c).tail ∧ l' = l.drop c) ∨
  (s.xs = [] ∧ l = [] ∧ ch = 0 ∧ is_ = false ∧ N = 1 ∧ s' = s ∧ l' = [])
theorem TakeR.size {ba : Int} {s s' : SupS} {l l' : List Int} {ch : Int} {is_ : Bool} {N : Nat} (h8 : ba ≤ 8) (h : TakeR ba s l ch is_ N s' l') : s'.xs.length ≤ s.xs.length + 8 ∧ s'.lm = s.lm ∧ s'.most = s.most := by
  rcases h with ⟨_, _, _, _, rfl, _⟩ | ⟨h0, _, c, hc, _, _, _, rfl, _⟩ | ⟨_, _, _, _, _, rfl, _⟩
  · exact ⟨by simp [SupS.kept]; omega, rfl, rfl⟩
  · refine ⟨?_, rfl, rfl⟩
    simp only [SupS.give, List.length_append, List.length_tail, List.length_take]
    omega
  · exact ⟨by omega, rfl, rfl⟩
theorem takes_plain {k : Sk} {m : Mm} {s : SupS} {l : List Int} {len : Nat} {ba : Int} (hk : k.ok len) (hml : m.ws.length = len) (hp : Pool k m l) (h1 : 1 ≤ ba) (h8 : ba ≤ 8) (hz : s.lm.size = 0) :
    ∃ (N : Nat) (m' : Mm) (s' : SupS) (t' : TakeS) (l' : List Int), (N : Int) ≤ ba + 2 ∧ tkIt k ba N (m, takeInit ba s) = (m', s', t') ∧ t'.done = true ∧ m'.ws.length = len ∧ Pool k m' l' ∧ TakeR ba s l t'.chunk t'.is_ N s' l' ∧ m'.n = m.n + N ∧
      (∀ j, j < N → (tkIt k ba j (m, takeInit ba s)).2.2.done = false ∧ (tkIt k ba j (m, takeInit ba s)).2.1 = s) ∧ (∀ a, a ≠ k.head → m'.at_ a = m.at_ a) := by
  by_cases hxs : s.xs = []
  · have e0 : takeInit ba s = (s, { TakeS.none_ with at_ := 1, q := PopS.init ba }) := by
      unfold takeInit keepT
      rw [if_pos hxs]
      simp only
      rw [if_neg (by omega)]
    rw [e0]
    by_cases hl : l = []
    · subst hl
      have hpn := pop_none hp ba
      refine ⟨1, m.tick, s, ⟨1, 0, false, -1, ⟨min (max ba 1) 8, 0, 0, m.at_ k.head, [], true⟩, true⟩, [], by omega, ?_, rfl, hml, ⟨hp.c, hp.nd⟩, .inr (.inr ⟨hxs, rfl, rfl, rfl, rfl, rfl, rfl⟩), rfl, fun j hj => ?_, fun _ _ => rfl⟩
      · simp only [tkIt]
        unfold takeStep
        simp only [TakeS.none_, Bool.false_eq_true, if_false]
        rw [hpn]
        simp [popped]
      · obtain rfl : j = 0 := by omega
        exact ⟨rfl, rfl⟩
    · obtain ⟨c, hc⟩ : ∃ c : Nat, (c : Int) = min ba l.length := ⟨(min ba l.length).toNat, by omega⟩
      obtain ⟨m', q, e, h2, h3, h4, h5, h6⟩ := take_alone hk hml hp h1 h8 hl c hc (s := s) (t := { TakeS.none_ with at_ := 1, q := PopS.init ba }) rfl rfl rfl
      exact ⟨c + 2, m', _, _, l.drop c, by omega, e, rfl, h3, h4, .inr (.inl ⟨hxs, hl, c, hc, rfl, rfl, rfl, rfl, rfl⟩), h2, h6, h5⟩
  · have e0 : takeInit ba s = (s.kept, { TakeS.none_ with chunk := lastI s.xs, is_ := true, done := true }) := by
      unfold takeInit keepT; rw [if_neg hxs]
    rw [e0]
    exact ⟨0, m, _, _, l, by omega, rfl, rfl, hml, hp, .inl ⟨hxs, rfl, rfl, rfl, rfl, rfl⟩, rfl, fun j hj => by omega, fun _ _ => rfl⟩
theorem pushStep_len {k : Sk} {m : Mm} {p : PushS} : (pushStep k m p).2.ws.length = m.ws.length := by
  unfold pushStep
  (repeat' split) <;> simp [Mm.put, Mm.tick, Mm.len_cas]
/-- A Give alone. -/
theorem gives_plain {k : Sk} {m : Mm} {x l : List Int} {len : Nat} (hk : k.ok len) (hml : m.ws.length = len) (hp : Pool k m l) (hnd : x.Nodup) (hr : ∀ i ∈ x, 0 ≤ i ∧ i < k.n) (hdj : ∀ i ∈ x, i ∉ l) :
    ∃ (N : Nat) (m' : Mm) (p' : PushS), N = (if x = [] then 0 else x.length + 2) ∧ pushIt k N (giveInit k x, m) = (p', m') ∧ p'.done = true ∧ m'.n = m.n + N ∧ m'.ws.length = len ∧ Pool k m' (x ++ l) ∧
      (∀ a, a ≠ k.head → (∀ i ∈ x, a ≠ k.links + i.toNat) → m'.at_ a = m.at_ a) ∧ (∀ j, j < N → (pushIt k j (giveInit k x, m)).1.done = false) := by
  rw [giveInit_yes ⟨hnd, hr⟩]
  by_cases hx : x = []
  · subst hx
    exact ⟨0, m, PushS.init [], rfl, rfl, rfl, rfl, hml, hp, fun _ _ _ => rfl, fun j hj => by omega⟩
  · obtain ⟨m', e, h2, h3, h4, h5, h6⟩ := push_alone hk hml hp hx hnd hr hdj
    exact ⟨x.length + 2, m', _, by rw [if_neg hx], e, rfl, h2, h3, h4, h5, h6⟩
section
variable {L F G : St}
end
end Go.Proofs.YtnbkjcmmjgkdaaaGreat

/-
  A Collect alone.
-/
set_option linter.unusedVariables false
set_option linter.unusedSimpArgs false
namespace Go.Proofs.YtnbkjcmmjgkdaaaGreat
theorem advStep_len {n : Nat} {m : Mm} {a : AdvS} : (advStep n m a).2.ws.length = m.ws.length := by
  unfold advStep
  (repeat' split) <;> simp [Mm.tick, Mm.len_cas]
theorem colStep_len {k : Sk} {n : Nat} {m : Mm} {s : SupS} {c : ColS} : (colStep k n m s c).1.ws.length = m.ws.length := by
  unfold colStep
  (repeat' split) <;> simp [Mm.tick, advStep_len, pushStep_len]
theorem colIt_len {k : Sk} {n : Nat} {r : Mm × SupS × ColS} : ∀ j, (colIt k n j r).1.ws.length = r.1.ws.length
  | 0 => rfl
  | j + 1 => by show (colStep _ _ _ _ _).1.ws.length = _; rw [colStep_len]; exact colIt_len j
theorem colStep_at {k : Sk} {n : Nat} {m : Mm} {s : SupS} {c : ColS} (h : c.at_ ≤ 2) : (colStep k n m s c).2.2.at_ ≤ 2 := by
  unfold colStep
  (repeat' split) <;> dsimp only <;> (try split) <;> omega
theorem colIt_at {k : Sk} {n : Nat} {m : Mm} {s : SupS} : ∀ j, (colIt k n j (m, s, ColS.init)).2.2.at_ ≤ 2
  | 0 => by simp [colIt, ColS.init]
  | j + 1 => colStep_at (colIt_at j)
theorem SupS.ready_size (s : SupS) (now : Int) : (s.ready now).xs.length + (s.ready now).lm.size = s.xs.length + s.lm.size := by
  have := size_ready now s.lm
  show (s.xs ++ (readyAll now s.lm).1).length + (readyAll now s.lm).2.size = _
  rw [List.length_append]; omega
theorem colStep_size {k : Sk} {n : Nat} {m : Mm} {s : SupS} {c : ColS} : (colStep k n m s c).2.1.xs.length + (colStep k n m s c).2.1.lm.size ≤ s.xs.length + s.lm.size := by
  have h := s.ready_size (cutE (m.at_ 2))
  unfold colStep
  split
  · exact Nat.le_refl _
  · split
    · exact Nat.le_refl _
    · show 0 + (s.ready (cutE (m.at_ 2))).lm.size ≤ _; omega
    · exact Nat.le_refl _
theorem colIt_size {k : Sk} {n : Nat} {m : Mm} {s : SupS} {c : ColS} : ∀ j, (colIt k n j (m, s, c)).2.1.xs.length + (colIt k n j (m, s, c)).2.1.lm.size ≤ s.xs.length + s.lm.size
  | 0 => Nat.le_refl _
  | j + 1 => Nat.le_trans colStep_size (colIt_size j)
theorem col_adv {k : Sk} {n : Nat} {m : Mm} {s : SupS} {K : Nat} (hnd : ∀ j, j < K → (advIt n j (AdvS.init, m)).1.done = false) : ∀ j, j ≤ K →
    colIt k n j (m, s, ColS.init) = ((advIt n j (AdvS.init, m)).2, s, { ColS.init with a := (advIt n j (AdvS.init, m)).1, at_ := if (advIt n j (AdvS.init, m)).1.done then 1 else 0 })
  | 0, _ => rfl
  | j + 1, h => by
    show colStep k n (colIt k n j (m, s, ColS.init)).1 (colIt k n j (m, s, ColS.init)).2.1 (colIt k n j (m, s, ColS.init)).2.2 = _
    rw [col_adv hnd j (by omega), hnd j (by omega)]
    rfl
/-- A Collect alone: the Advance's accesses, a look, a Push. -/
theorem col_alone {k : Sk} {n : Nat} {m m1 m' : Mm} {s s1 : SupS} {a : AdvS} {p' : PushS} {K N2 : Nat} (hnd : ∀ j, j < K → (advIt n j (AdvS.init, m)).1.done = false) (he : advIt n K (AdvS.init, m) = (a, m1)) (hd : a.done = true)
    (hs : s1 = s.ready (cutE (m1.at_ 2))) (hp : pushIt k N2 (giveInit k s1.xs, m1.tick) = (p', m')) (hpd : p'.done = true) (hpn : ∀ j, j < N2 → (pushIt k j (giveInit k s1.xs, m1.tick)).1.done = false) :
    colIt k n (K + 1 + N2) (m, s, ColS.init) = (m', { s1 with xs := [] }, ⟨2, a, p', true⟩) ∧ ∀ j, j < K + 1 + N2 → (colIt k n j (m, s, ColS.init)).2.2.done = false := by
  subst hs
  have h0 := col_adv (k := k) (s := s) hnd K (Nat.le_refl _)
  rw [he] at h0
  simp only [hd, if_true] at h0
  have h1 : ∀ j, j ≤ N2 → colIt k n (K + 1 + j) (m, s, ColS.init) = ((pushIt k j (giveInit k (s.ready (cutE (m1.at_ 2))).xs, m1.tick)).2, { s.ready (cutE (m1.at_ 2)) with xs := [] }, ⟨2, a, (pushIt k j (giveInit k (s.ready (cutE (m1.at_ 2))).xs, m1.tick)).1, (pushIt k j (giveInit k (s.ready (cutE (m1.at_ 2))).xs, m1.tick)).1.done⟩) := by
    intro j
    induction j with
    | zero =>
      intro _
      show colStep k n (colIt k n K (m, s, ColS.init)).1 (colIt k n K (m, s, ColS.init)).2.1 (colIt k n K (m, s, ColS.init)).2.2 = _
      rw [h0]
      rfl
    | succ j ih =>
      intro hj
      show colStep k n (colIt k n (K + 1 + j) (m, s, ColS.init)).1 (colIt k n (K + 1 + j) (m, s, ColS.init)).2.1 (colIt k n (K + 1 + j) (m, s, ColS.init)).2.2 = _
      rw [ih (by omega), hpn j (by omega), pushIt_succ]
      rfl
  refine ⟨?_, fun j hj => ?_⟩
  · rw [h1 N2 (Nat.le_refl _), hp, hpd]
  · by_cases hjK : j ≤ K
    · rw [col_adv hnd j hjK]
      rfl
    · obtain ⟨i, rfl⟩ : ∃ i, j = K + 1 + i := ⟨j - (K + 1), by omega⟩
      rw [h1 i (by omega), hpn i (by omega)]
theorem Pool.congr {k : Sk} {m m' : Mm} {l : List Int} (h : Pool k m l) (h0 : m'.at_ k.head = m.at_ k.head) (hl : ∀ i, i < k.n → m'.at_ (k.links + i) = m.at_ (k.links + i)) : Pool k m' l := by
  refine ⟨?_, h.nd⟩
  rw [h0]
  refine h.c.congr fun x hx => hl _ ?_
  have := h.c.mem x hx
  omega
/-- A Collect alone, nobody behind. -/
theorem col_free {x : Cn} {m : Mm} {s : SupS} {l xs : List Int} (hx : x.ok) (hml : m.ws.length = x.len) (hm : m.ok) (hp : Pool x.pool m l) (hb : ∀ j, j < x.w → ¬ behind (m.at_ 2) (m.at_ (3 + j))) (hxs : xs = (s.ready (cutE ((m.at_ 2 + 1) % 18446744073709551616))).xs)
    (hnd : xs.Nodup) (hr : ∀ i ∈ xs, 0 ≤ i ∧ i < x.c) (hdj : ∀ i ∈ xs, i ∉ l) :
    ∃ (N : Nat) (m' : Mm) (c' : ColS), N = x.w + 3 + (if xs = [] then 0 else xs.length + 2) ∧ colIt x.pool x.w N (m, s, ColS.init) = (m', { s.ready (cutE ((m.at_ 2 + 1) % 18446744073709551616)) with xs := [] }, c') ∧ c'.done = true ∧ c'.g.done = true ∧ c'.a.won = true ∧ c'.at_ ≤ 2 ∧
      (∀ j, j < N → (colIt x.pool x.w j (m, s, ColS.init)).2.2.done = false) ∧ m'.ws.length = x.len ∧ Pool x.pool m' (xs ++ l) ∧ m'.at_ 2 = (m.at_ 2 + 1) % 18446744073709551616 ∧ m'.n = m.n + N ∧ (∀ a, a ≠ 0 → a ≠ 2 → (∀ i ∈ xs, a ≠ x.link + i.toNat) → m'.at_ a = m.at_ a) := by
  obtain ⟨b1, b2, b3, b4, b5, b6, b7⟩ := hx.b
  have hlen := hx.len_le
  have hk := hx.pool (Nat.le_refl x.len) hlen
  have hl3 : 3 ≤ x.len := by unfold Cn.len; omega
  have hlk : 3 < x.link := by unfold Cn.link; omega
  obtain ⟨ha, hand⟩ := adv_alone (n := x.w) (m := m) (by omega) hb
  have hput : ∀ a v, ((m.add (x.w + 1)).put 2 v).at_ a = if 2 = a then v else m.at_ a := fun a v => by
    rw [Mm.at_put _ (by show 2 < m.ws.length; omega)]; rfl
  have hm1l : ((m.add (x.w + 1)).put 2 ((m.at_ 2 + 1) % 18446744073709551616)).tick.ws.length = x.len := by
    show (Mm.put _ 2 _).ws.length = _; rw [Mm.len_put]; exact hml
  have hp1 : Pool x.pool ((m.add (x.w + 1)).put 2 ((m.at_ 2 + 1) % 18446744073709551616)).tick l := by
    refine hp.congr ?_ fun i _ => ?_
    · show ((m.add (x.w + 1)).put 2 ((m.at_ 2 + 1) % 18446744073709551616)).at_ 0 = m.at_ 0
      rw [hput, if_neg (by omega)]
    · show ((m.add (x.w + 1)).put 2 ((m.at_ 2 + 1) % 18446744073709551616)).at_ (x.link + i) = m.at_ (x.link + i)
      rw [hput, if_neg (by omega)]
  obtain ⟨N2, m', p', hN2, e2, hd2, hn2, hl2, hp2, hat2, hnd2⟩ := gives_plain (k := x.pool) (x := xs) (l := l) hk hm1l hp1 hnd hr hdj
  have h2 : ((m.add (x.w + 1)).put 2 ((m.at_ 2 + 1) % 18446744073709551616)).at_ 2 = (m.at_ 2 + 1) % 18446744073709551616 := by rw [hput, if_pos rfl]
  obtain ⟨hc, hcn⟩ := col_alone (k := x.pool) (s := s) hand ha rfl (by rw [h2]) (by rw [← hxs]; exact e2) hd2 (by rw [← hxs]; exact hnd2)
  have hne : ∀ i ∈ xs, (2 : Nat) ≠ x.link + i.toNat := fun i _ => by omega
  refine ⟨x.w + 2 + 1 + N2, m', _, by rw [hN2], hc, rfl, hd2, rfl, Nat.le_refl _, hcn, hl2, hp2, ?_, ?_, fun a h0 h2' hi => ?_⟩
  · rw [hat2 2 (by show 2 ≠ 0; omega) hne]
    exact h2
  · rw [hn2]
    show m.n + (x.w + 1) + 1 + 1 + N2 = _
    omega
  · rw [hat2 a h0 hi]
    show ((m.add (x.w + 1)).put 2 ((m.at_ 2 + 1) % 18446744073709551616)).at_ a = _
    rw [hput, if_neg (fun h => h2' h.symm)]
end Go.Proofs.YtnbkjcmmjgkdaaaGreat

/-
  The supplies' example.
-/
set_option linter.unusedVariables false
set_option linter.unusedSimpArgs false
namespace Go.Proofs.YtnbkjcmmjgkdaaaGreat
open Go
attribute [local irreducible] Sx Cx Rx Fx Krg Ksq Kbl Klp Kr
section
variable {L F G : St}
end
end Go.Proofs.YtnbkjcmmjgkdaaaGreat

/-
  BoundKinds' walk: no kind's bound is above Alone's, nor Alone's above Most's; with more of anything no bound is less.
-/
set_option linter.unusedVariables false
set_option linter.unusedSimpArgs false
namespace Go.Proofs.YtnbkjcmmjgkdaaaGreat
open Go
attribute [local irreducible] Sx Cx Rx Fx Krg Ksq Kbl Klp Kr
theorem ints_getD {xs : List Int} {i : Nat} {x : Int} (h : xs[i]? = some x) : (ints xs)[i]? = some (.int .i64 x) := by simp [ints, h]
section
variable {L F : St}
theorem Rd.atD {a : Option Addr} {n i : Nat} {vs : List Value} {v : Value} (h : Rd L 1 a n vs) (hv : vs[i]? = some v) : ∃ b o, a = some ⟨b, o, none⟩ ∧ Has L b (o + i) [v] := by
  obtain ⟨h1, h0 | ⟨b, o, rfl, h2⟩⟩ := h
  · have := (List.getElem?_eq_some_iff.1 hv).1; omega
  · exact ⟨b, o, rfl, h2.at_ hv⟩
/-- The next number of a row of numbers. -/
theorem seqN {q : Nat} {xs : List Int} {a : Option Addr} {n c i : Nat} {m : Int} {F : St} [t : Take L (some ⟨q, 0, none⟩) (Blk 117 [.slice a n c, .int .i64 i]) F]
    (hr : Rd L 1 a n (ints xs)) (hi : i ≤ 1000000000) (hm : 0 < m) (hm2 : m ≤ 4611686018427387904) :
    Fx Tryz.prog 55 [.pointer (some ⟨q, 0, none⟩), .int .i64 m] L (fun v L' => v = .int .i64 (xs.getD i 0 % m) ∧ L' = pt (some ⟨q, 0, none⟩) (Blk 117 [.slice a n c, .int .i64 ((i + 1 : Nat) : Int)]) :: F) := by
  have hn : n = xs.length := by have := hr.1; simp [ints] at this; omega
  refine Fx.mk Tryz.func55 k55 (Nat.le_of_ble_eq_true rfl) ?_
  dsimp only [c55, envOf, Nat.reduceAdd]
  refine go ?_
  refine Cx.calm (by kernel_rfl) ?_
  repeat' (first | (refine Cm.pvs rfl ?_) | (refine Cm.step rfl ?_) | (refine Cm.done ?_) | (refine Cm.ldb rfl rfl (by rfl) ?_) | (refine Cm.ldbs rfl rfl rfl ?_))
  refine Cx.jn (β := Unit) (fun _ => [(0, .pointer (some ⟨q, 0, none⟩)), (1, .int .i64 m), (5, .int .i64 (xs.getD i 0))]) (fun _ => L) ?_ ?_
  · refine Cx.ifp rfl (fun h => ?_) (fun h => ?_)
    · have hlt : i < xs.length := by omega
      have hg : (ints xs)[i]? = some (.int .i64 (xs.getD i 0)) := ints_getD (by simp [hlt])
      obtain ⟨b, o, rfl, hh⟩ := hr.atD hg
      refine Cx.calmK Kjn.mono (by kernel_rfl) ?_
      repeat' (first | (refine Cm.pvs rfl ?_) | (refine Cm.step rfl ?_) | (refine Cm.done ?_) | (refine Cm.ldb rfl rfl (by rfl) ?_) | (refine Cm.ldbs rfl rfl rfl ?_))
      refine Cm.pv rfl rfl ⟨by omega, by omega⟩ ?_
      refine Cm.ld rfl rfl (by simpa using hh) rfl ?_
      repeat' (first | (refine Cm.pvs rfl ?_) | (refine Cm.step rfl ?_) | (refine Cm.done ?_) | (refine Cm.ldb rfl rfl (by rfl) ?_) | (refine Cm.ldbs rfl rfl rfl ?_))
      exact Cm.nil (Kjn.nm () (sub.cons rfl (sub.cons rfl (sub.cons rfl sub.nil))) (Ent.refl _))
    · refine go ?_
      refine Kjn.nm () (sub.cons rfl (sub.cons rfl (sub.cons ?_ sub.nil))) (Ent.refl _)
      rw [show xs.getD i 0 = 0 by rw [List.getD_eq_getElem?_getD, List.getElem?_eq_none (by omega)]; rfl]
      rfl
  · rintro ⟨⟩
    refine go ?_
    rw [w64 (by omega) (by omega)]
    refine Sx.ca rfl (number _ m hm hm2) ?_
    rintro v L' ⟨rfl, rfl⟩
    refine go ?_
    exact Kr.one (.inr rfl) rfl (Ent.refl _) ⟨rfl, by simp⟩
/-- What a small configuration is. -/
def SmallC (w c wd sl ca ba : Int) : Prop := (1 ≤ w ∧ w ≤ 4) ∧ (1 ≤ c ∧ c ≤ 8) ∧ (wd = 8 ∨ wd = 16) ∧ (1 ≤ sl ∧ sl ≤ 4) ∧ (0 ≤ ca ∧ ca ≤ 3) ∧ (1 ≤ ba ∧ ba ≤ 3)
theorem config_ (n : Int) : Fx Tryz.prog 10 [.int .i64 n] L (fun v L' => (∃ w c wd sl ca ba, v = cfg w c wd sl ca ba ∧ SmallC w c wd sl ca ba) ∧ L = L') := by
  refine Fx.mk Tryz.func10 k10 (Nat.le_of_ble_eq_true rfl) ?_
  dsimp only [c10, envOf, Nat.reduceAdd]
  refine go ?_
  refine Sx.al fun g => ?_
  refine go ?_
  refine Sx.ca rfl (number n 4 (by omega) (by omega)) ?_
  rintro v L' ⟨rfl, rfl⟩
  refine go ?_
  refine Sx.pv rfl (by decide) ?_
  refine Sx.ca rfl (number _ 8 (by omega) (by omega)) ?_
  rintro v L' ⟨rfl, rfl⟩
  refine go ?_
  refine Sx.pv rfl (by decide) ?_
  refine Sx.ca rfl (number _ 2 (by omega) (by omega)) ?_
  rintro v L' ⟨rfl, rfl⟩
  refine go ?_
  refine Sx.pv rfl (by decide) ?_
  refine Sx.ca rfl (number _ 4 (by omega) (by omega)) ?_
  rintro v L' ⟨rfl, rfl⟩
  refine go ?_
  refine Sx.pv rfl (by decide) ?_
  refine Sx.ca rfl (number _ 4 (by omega) (by omega)) ?_
  rintro v L' ⟨rfl, rfl⟩
  refine go ?_
  refine Sx.pv rfl (by decide) ?_
  refine Sx.ca rfl (number _ 3 (by omega) (by omega)) ?_
  rintro v L' ⟨rfl, rfl⟩
  refine go ?_
  generalize n % 4 = x0
  generalize IntKind.i64.wrap (n.tdiv 4) % 8 = x1
  generalize IntKind.i64.wrap (n.tdiv 32) % 2 = x2
  generalize IntKind.i64.wrap (n.tdiv 64) % 4 = x3
  generalize IntKind.i64.wrap (n.tdiv 256) % 4 = x4
  generalize IntKind.i64.wrap (n.tdiv 1024) % 3 = x5
  refine Sx.bs (sz := 1) rfl rfl fun r => ?_
  refine go ?_
  refine Sx.bx rfl rfl fun q => ?_
  refine go ?_
  refine Sx.ca rfl (seqN (q := q) (xs := [x0, x1, x2, x3, x4, x5]) (i := 0) (Rd.row (b := r) (E := 3) (cap := 6) rfl) (by omega) (by omega) (by omega)) ?_
  rintro v L' ⟨rfl, rfl⟩
  refine go ?_
  refine Sx.ca rfl (seqN (q := q) (xs := [x0, x1, x2, x3, x4, x5]) (i := 1) (Rd.row (b := r) (E := 3) (cap := 6) rfl) (by omega) (by omega) (by omega)) ?_
  rintro v L' ⟨rfl, rfl⟩
  refine go ?_
  refine Sx.ca rfl (seqN (q := q) (xs := [x0, x1, x2, x3, x4, x5]) (i := 2) (Rd.row (b := r) (E := 3) (cap := 6) rfl) (by omega) (by omega) (by omega)) ?_
  rintro v L' ⟨rfl, rfl⟩
  refine go ?_
  refine Sx.ca rfl (seqN (q := q) (xs := [x0, x1, x2, x3, x4, x5]) (i := 3) (Rd.row (b := r) (E := 3) (cap := 6) rfl) (by omega) (by omega) (by omega)) ?_
  rintro v L' ⟨rfl, rfl⟩
  refine go ?_
  refine Sx.ca rfl (seqN (q := q) (xs := [x0, x1, x2, x3, x4, x5]) (i := 4) (Rd.row (b := r) (E := 3) (cap := 6) rfl) (by omega) (by omega) (by omega)) ?_
  rintro v L' ⟨rfl, rfl⟩
  refine go ?_
  refine Sx.ca rfl (seqN (q := q) (xs := [x0, x1, x2, x3, x4, x5]) (i := 5) (Rd.row (b := r) (E := 3) (cap := 6) rfl) (by omega) (by omega) (by omega)) ?_
  rintro v L' ⟨rfl, rfl⟩
  refine go ?_
  refine Sx.st (b := g) rfl rfl rfl rfl rfl rfl ?_
  dsimp only [lay]
  refine go ?_
  refine Kr_cell (b := g) (.inr rfl) rfl rfl (L' := L) ?_ ⟨⟨_, _, _, _, _, _, rfl, ?_⟩, rfl⟩
  · exact ent
  · have h0 := Int.emod_nonneg x0 (show (4 : Int) ≠ 0 by omega)
    have h0' := Int.emod_lt_of_pos x0 (show (0 : Int) < 4 by omega)
    have h1 := Int.emod_nonneg x1 (show (8 : Int) ≠ 0 by omega)
    have h1' := Int.emod_lt_of_pos x1 (show (0 : Int) < 8 by omega)
    have h2 := Int.emod_nonneg x2 (show (2 : Int) ≠ 0 by omega)
    have h2' := Int.emod_lt_of_pos x2 (show (0 : Int) < 2 by omega)
    have h3 := Int.emod_nonneg x3 (show (4 : Int) ≠ 0 by omega)
    have h3' := Int.emod_lt_of_pos x3 (show (0 : Int) < 4 by omega)
    have h4 := Int.emod_nonneg x4 (show (4 : Int) ≠ 0 by omega)
    have h4' := Int.emod_lt_of_pos x4 (show (0 : Int) < 4 by omega)
    have h5 := Int.emod_nonneg x5 (show (3 : Int) ≠ 0 by omega)
    have h5' := Int.emod_lt_of_pos x5 (show (0 : Int) < 3 by omega)
    simp only [List.getD_cons_zero, List.getD_cons_succ]
    rw [w64 (n := 1 + x0 % 4) (by omega) (by omega), w64 (n := 1 + x1 % 8) (by omega) (by omega), w64 (n := 8 * (x2 % 2)) (by omega) (by omega), w64 (n := 8 + 8 * (x2 % 2)) (by omega) (by omega), w64 (n := 1 + x3 % 4) (by omega) (by omega), w64 (n := 1 + x5 % 3) (by omega) (by omega)]
    unfold SmallC
    omega
end
end Go.Proofs.YtnbkjcmmjgkdaaaGreat

/-
  SupplyAll's walk.
-/
set_option linter.unusedVariables false
set_option linter.unusedSimpArgs false
namespace Go.Proofs.YtnbkjcmmjgkdaaaGreat
open Go
attribute [local irreducible] Sx Cx Rx Fx Krg Ksq Kbl Klp Kr
theorem small_cfg {w c wd sl ca ba : Int} (h : SmallC w c wd sl ca ba) : ∃ x : Cn, cfg w c wd sl ca ba = x.v ∧ x.ok ∧ x.ca ≤ 3 ∧ x.c ≤ 8 ∧ x.ba ≤ 3 ∧ x.w ≤ 4 := by
  unfold SmallC at h
  refine ⟨⟨w.toNat, c.toNat, wd.toNat, sl.toNat, ca.toNat, ba.toNat⟩, ?_, ?_, ?_⟩
  · simp only [Cn.v]
    rw [Int.toNat_of_nonneg (by omega), Int.toNat_of_nonneg (by omega), Int.toNat_of_nonneg (by omega), Int.toNat_of_nonneg (by omega), Int.toNat_of_nonneg (by omega), Int.toNat_of_nonneg (by omega)]
  · unfold Cn.ok MayC
    simp only
    rw [Int.toNat_of_nonneg (by omega), Int.toNat_of_nonneg (by omega), Int.toNat_of_nonneg (by omega), Int.toNat_of_nonneg (by omega), Int.toNat_of_nonneg (by omega), Int.toNat_of_nonneg (by omega)]
    rw [Int.tmod_eq_emod_of_nonneg (by omega)]
    omega
  · simp only; omega
/-- What is taken goes. -/
theorem TakeR.perm {ba : Int} {s s' : SupS} {l l' : List Int} {ch : Int} {is_ : Bool} {N : Nat} (h1 : 1 ≤ ba) (h : TakeR ba s l ch is_ N s' l') (hn : s.xs ++ l ≠ []) : is_ = true ∧ (s.xs ++ l).Perm (ch :: (s'.xs ++ l')) := by
  rcases h with ⟨hx, rfl, rfl, _, rfl, rfl⟩ | ⟨hx, hl, c, hc, rfl, rfl, _, rfl, rfl⟩ | ⟨hx, hl, _⟩
  · refine ⟨rfl, ?_⟩
    have e : s.xs = s.xs.dropLast ++ [lastI s.xs] := by
      unfold lastI
      rw [List.getLastD_eq_getLast?, List.getLast?_eq_some_getLast hx]
      exact (List.dropLast_concat_getLast hx).symm
    have : (s.xs.dropLast ++ [lastI s.xs] ++ l').Perm (lastI s.xs :: (s.xs.dropLast ++ l')) := by
      rw [List.append_assoc]
      exact List.perm_middle
    rw [← e] at this
    exact this
  · refine ⟨rfl, ?_⟩
    obtain ⟨y, l2, rfl⟩ := List.exists_cons_of_ne_nil hl
    obtain ⟨c, rfl⟩ : ∃ d, c = d + 1 := ⟨c - 1, by simp at hc; omega⟩
    have : (s.give (List.take (c + 1) (y :: l2)).tail).xs ++ List.drop (c + 1) (y :: l2) = l2 := by
      simp [SupS.give, hx]
    rw [this, hx]
    exact List.Perm.refl _
  · rw [hx, hl] at hn; exact absurd rfl hn
/-- What is known while one alone takes all. -/
def AllP (x : Cn) (i : Nat) (s : SupS) (m : Mm) (l : List Int) (sn : List Bool) : Prop :=
  s.most = (SupS.nil x.ca).most ∧ s.lm = Lm.nil ∧ m.ws.length = x.len ∧ Pool x.pool m l ∧ (s.xs ++ l).Nodup ∧ (∀ y ∈ s.xs ++ l, 0 ≤ y ∧ y < (x.c : Int)) ∧ i + (s.xs ++ l).length = x.c ∧ sn.length = x.c ∧ (∀ y ∈ s.xs ++ l, sn[y.toNat]? = some false)
theorem AllP.step {x : Cn} {i : Nat} {s s' : SupS} {m m' : Mm} {l l' : List Int} {sn : List Bool} {ch : Int} {is_ : Bool} {N : Nat} (h1 : 1 ≤ (x.ba : Int)) (h8 : (x.ba : Int) ≤ 8) (h : AllP x i s m l sn) (hi : i < x.c) (ht : TakeR x.ba s l ch is_ N s' l')
    (hl : m'.ws.length = x.len) (hp : Pool x.pool m' l') : is_ = true ∧ (0 ≤ ch ∧ ch < (x.c : Int)) ∧ sn[ch.toNat]? = some false ∧ AllP x (i + 1) s' m' l' (sn.set ch.toNat true) := by
  obtain ⟨a1, a2, a3, a4, a5, a6, a7, a8, a9⟩ := h
  obtain ⟨hi1, hpm⟩ := ht.perm h1 (by intro e; rw [e] at a7; simp at a7; omega)
  obtain ⟨_, z2, z3⟩ := ht.size h8
  have hmem : ch ∈ s.xs ++ l := hpm.mem_iff.2 (by simp)
  have hnd := hpm.nodup_iff.1 a5
  rw [List.nodup_cons] at hnd
  have hsub : ∀ y ∈ s'.xs ++ l', y ∈ s.xs ++ l := fun y hy => hpm.mem_iff.2 (List.mem_cons_of_mem _ hy)
  have hlen := hpm.length_eq
  rw [List.length_cons] at hlen
  refine ⟨hi1, a6 _ hmem, a9 _ hmem, z3.trans a1, z2.trans a2, hl, hp, hnd.2, fun y hy => a6 y (hsub y hy), by omega, by rw [List.length_set]; exact a8, fun y hy => ?_⟩
  have h2 := a6 y (hsub y hy)
  have h3 := a6 _ hmem
  rw [List.getElem?_set_ne (fun e => hnd.1 (by rw [show ch = y by omega]; exact hy))]
  exact a9 y (hsub y hy)
theorem iotaI_len (n : Nat) : (iotaI n).length = n := by simp [iotaI]
theorem iotaI_mem {n : Nat} {x : Int} (h : x ∈ iotaI n) : 0 ≤ x ∧ x < n := by
  simp only [iotaI, List.mem_map, List.mem_range] at h
  obtain ⟨i, hi, rfl⟩ := h
  omega
section
variable {L F G : St}
end
end Go.Proofs.YtnbkjcmmjgkdaaaGreat

/-
  gather's statements: collects, first.
-/
set_option linter.unusedVariables false
set_option linter.unusedSimpArgs false
namespace Go.Proofs.YtnbkjcmmjgkdaaaGreat
open Go
attribute [local irreducible] Sx Cx Rx Fx Krg Ksq Kbl Klp Kr
section
variable {L F G : St}
set_option maxHeartbeats 2000000 in
set_option maxRecDepth 20000 in
theorem gaCollects {x : Cn} {n : Gn} {r : Nat} {r2 : Option Addr} {k c c2 pb : Nat} {Q : Nat → Who} {s : SupS} {m : Mm} {i : Nat} (N : Nat) (hi : i < k) (hk : k ≤ 64) (hN : N < 400) (hx : x.ok) (hl : x.len ≤ m.ws.length) (hb : s.xs.length + s.lm.size ≤ 1000000)
    (hnd : ∀ j, j < N → (colIt x.pool x.w j (m, s, ColS.init)).2.2.done = false) (hd : (colIt x.pool x.w N (m, s, ColS.init)).2.2.done = true) (hg : (colIt x.pool x.w N (m, s, ColS.init)).2.2.g.done = true) :
    Fx Tryz.prog 31 [.pointer (some ⟨n.a, 0, none⟩), .int .i64 i]
      (pt (some ⟨n.a, 0, none⟩) (Blk 80 (gaV x n (some ⟨r, 0, none⟩) r2 k c c2)) :: pt (some ⟨r, 0, none⟩) (Row 39 1 k c (ptrs k fun i => (Q i).u)) :: pt (some ⟨n.g, 0, none⟩) (GaO n.mp n.e) :: pt (some ⟨n.e, 0, none⟩) (EpO n.mp x) ::
        pt (some ⟨n.mp, 0, none⟩) (MemO m) :: pt (some ⟨(Q i).u, 0, none⟩) (SupO n.mp pb x s) :: pt (some ⟨pb, 0, none⟩) (SkO n.mp x.pool) :: G)
      (fun v L' => v = .tuple #[.bool (colIt x.pool x.w N (m, s, ColS.init)).2.2.a.won, .int .i64 N] ∧ L' =
        pt (some ⟨n.a, 0, none⟩) (Blk 80 (gaV x n (some ⟨r, 0, none⟩) r2 k c c2)) :: pt (some ⟨r, 0, none⟩) (Row 39 1 k c (ptrs k fun i => (Q i).u)) :: pt (some ⟨n.g, 0, none⟩) (GaO n.mp n.e) :: pt (some ⟨n.e, 0, none⟩) (EpO n.mp x) ::
        pt (some ⟨n.mp, 0, none⟩) (MemO (colIt x.pool x.w N (m, s, ColS.init)).1) :: pt (some ⟨(Q i).u, 0, none⟩) (SupO n.mp pb x (colIt x.pool x.w N (m, s, ColS.init)).2.1) :: pt (some ⟨pb, 0, none⟩) (SkO n.mp x.pool) :: G) := by
  refine Fx.mk Tryz.func31 k31 (Nat.le_of_ble_eq_true rfl) ?_
  dsimp only [c31, envOf, Nat.reduceAdd]
  refine go ?_
  refine Cx.ordc rfl (by kernel_rfl) ?_
  refine ge ?_
  refine Ev.ldrH (b := r) (v := .pointer (some ⟨(Q i).u, 0, none⟩)) (by kernel_rfl) rfl rfl (by rw [show 0 + (i : Int).toNat * 1 = i by omega]; exact ptrs_get (U := fun i => (Q i).u) hi) ?_
  refine ge ?_
  refine Ev.caH (by kernel_rfl) rfl rfl (gatherCollect (g := n.g) (u := (Q i).u) (e := n.e) (mp := n.mp) (pb := pb) (x := x)) (Pres.deps (by kernel_rfl)) ?_
  rintro v L' ⟨b, rfl, rfl⟩
  refine ge ?_
  refine go ?_
  refine Cx.lp (α := {j : Nat // j ≤ N}) (fun j => [(6, .pointer (some ⟨b, 0, none⟩)), (7, .int .i64 j.1), (8, .int .i64 j.1)])
    (fun j => pt (some ⟨b, 0, none⟩) (ColO n.g (Q i).u n.e pb x (colIt x.pool x.w j.1 (m, s, ColS.init)).2.2) :: pt (some ⟨(Q i).u, 0, none⟩) (SupO n.mp pb x (colIt x.pool x.w j.1 (m, s, ColS.init)).2.1) :: pt (some ⟨n.mp, 0, none⟩) (MemO (colIt x.pool x.w j.1 (m, s, ColS.init)).1) ::
      pt (some ⟨n.a, 0, none⟩) (Blk 80 (gaV x n (some ⟨r, 0, none⟩) r2 k c c2)) :: pt (some ⟨r, 0, none⟩) (Row 39 1 k c (ptrs k fun i => (Q i).u)) :: pt (some ⟨n.g, 0, none⟩) (GaO n.mp n.e) :: pt (some ⟨n.e, 0, none⟩) (EpO n.mp x) :: pt (some ⟨pb, 0, none⟩) (SkO n.mp x.pool) :: G)
    (fun j => N - j.1) ⟨0, by omega⟩ (sub.cons rfl (sub.cons rfl (sub.cons rfl sub.nil))) ?_ ?_
  · dsimp only [colIt]
    exact ent
  rintro ⟨j, hj⟩
  dsimp only
  refine go ?_
  rw [decide_eq_true (show (j : Int) < 400 by omega)]
  refine go ?_
  have hsz := colIt_size (k := x.pool) (n := x.w) (m := m) (s := s) (c := ColS.init) j
  refine Sx.ca rfl (colStepC (b := b) (g := n.g) (u := (Q i).u) (e := n.e) (mp := n.mp) (pb := pb) (x := x) (m := (colIt x.pool x.w j (m, s, ColS.init)).1) (s := (colIt x.pool x.w j (m, s, ColS.init)).2.1) (c := (colIt x.pool x.w j (m, s, ColS.init)).2.2) hx (by rw [colIt_len]; exact hl) (colIt_at j) (by omega)) ?_
  rintro v L' ⟨rfl, rfl⟩
  by_cases hjn : j = N
  · subst hjn
    have e : colStep x.pool x.w (colIt x.pool x.w j (m, s, ColS.init)).1 (colIt x.pool x.w j (m, s, ColS.init)).2.1 (colIt x.pool x.w j (m, s, ColS.init)).2.2 = colIt x.pool x.w j (m, s, ColS.init) := by
      unfold colStep; rw [if_pos hd]
    rw [hd, e]
    refine go ?_
    refine Sx.ca rfl (colDone (b := b) (g := n.g) (u := (Q i).u) (e := n.e) (pb := pb) (x := x) (c := (colIt x.pool x.w j (m, s, ColS.init)).2.2) (colIt_at j)) ?_
    rintro v L' ⟨rfl, rfl⟩
    rw [hd]
    refine go ?_
    refine Sx.ca rfl (colHandDone (b := b) (g := n.g) (u := (Q i).u) (e := n.e) (pb := pb) (x := x) (c := (colIt x.pool x.w j (m, s, ColS.init)).2.2) hd hg) ?_
    rintro v L' ⟨rfl, rfl⟩
    refine go ?_
    refine Sx.ca rfl (colWon (b := b) (g := n.g) (u := (Q i).u) (e := n.e) (pb := pb) (x := x) (c := (colIt x.pool x.w j (m, s, ColS.init)).2.2) hd) ?_
    rintro v L' ⟨rfl, rfl⟩
    refine go ?_
    refine Kr.two (.inr rfl) rfl rfl (Ent.trans Ent.drop ?_) ⟨rfl, rfl⟩
    exact ent
  · rw [hnd j (by omega)]
    refine go ?_
    rw [w64 (n := (j : Int) + 1) (by omega) (by omega)]
    refine Klp.nm ⟨j + 1, by omega⟩ (sub.cons rfl (sub.cons rfl (sub.cons rfl sub.nil))) ?_ (by dsimp only; omega)
    dsimp only [colIt]
    exact ent
theorem poolM_at {x : Cn} (hx : x.ok) (a : Nat) (h0 : a ≠ 0) (hl : a < x.link) : (poolM x).at_ a = 0 := by
  have hlen := hx.len_le
  have hk := hx.pool (Nat.le_refl x.len) hlen
  unfold poolM
  rw [← rUp_fill (len := x.len) hk (zeroM_len x), rUp_at hk (zeroM_len x) x.pool.n (Nat.le_refl _), if_neg (by show ¬ 0 = a; omega), if_neg (by show ¬ (x.link ≤ a ∧ a < x.link + x.pool.n); omega)]
  unfold zeroM Mm.at_
  rw [List.getD_eq_getElem?_getD, List.getElem?_replicate]
  split <;> rfl
theorem gaFirst : Fx Tryz.prog 9 [] L (fun v L' => v = .bool true ∧ L = L') := by
  refine Fx.mk Tryz.func9 k9 (Nat.le_of_ble_eq_true rfl) ?_
  dsimp only [c9, envOf, Nat.reduceAdd]
  have hx : (⟨2, 2, 8, 1, 0, 1⟩ : Cn).ok := by unfold Cn.ok MayC; decide
  obtain ⟨x, hxe⟩ : ∃ x, x = (⟨2, 2, 8, 1, 0, 1⟩ : Cn) := ⟨_, rfl⟩
  have hw : x.w = 2 := by rw [hxe]
  have hc : x.c = 2 := by rw [hxe]
  have hca : x.ca = 0 := by rw [hxe]
  have hok : (poolM x).ok := fillM_ok (fun w hw => by simp only [zeroM] at hw; rw [List.eq_of_mem_replicate hw]; omega) (by show x.c ≤ 4096; omega)
  rw [← hxe] at hx
  have hlen := hx.len_le
  have hlk : 5 ≤ x.link := by unfold Cn.link; omega
  have hl3 : 3 ≤ x.len := by unfold Cn.len; omega
  have hp0 : Pool x.pool (poolM x) (iotaI x.c) := (fill_pool (hx.pool (Nat.le_refl _) hlen) (by rw [zeroM_len])).1
  have hr0 : SupS.ready (SupS.nil x.ca) (cutE (((poolM x).at_ 2 + 1) % 18446744073709551616)) = SupS.nil x.ca := by
    rw [poolM_at hx 2 (by omega) (by omega), hca]; rfl
  obtain ⟨N, m', c', hN, e, hd, hg, hwon, hcat, hnd, hl', hp', h2', _, _⟩ := col_free (x := x) (m := poolM x) (s := SupS.nil x.ca) (l := iotaI x.c) (xs := []) hx (poolM_len x) hok hp0
    (fun j hj hbh => by have := hbh.1; rw [poolM_at hx (3 + j) (by omega) (by omega)] at this; omega) (by rw [hr0]; rfl) List.nodup_nil (by simp) (by simp)
  have hN5 : N = 5 := by rw [hN, hw]; rfl
  subst hN5
  have gm := gaMade (L := L) hx
  refine go ?_
  refine Sx.ca (vs := [x.v]) (by rw [hxe]; rfl) gm ?_
  rintro v L' ⟨n, r, r2, c, c2, Q, rfl, rfl⟩
  refine go ?_
  have ec : Ent (gaF x n (some ⟨r, 0, none⟩) (some ⟨r2, 0, none⟩) x.w c c2 Q (fun _ => SupS.nil x.ca) (fun _ => SupS.nil x.ca) (poolM x) (fillM x.spare (poolM x)) L)
      (pt (some ⟨n.a, 0, none⟩) (Blk 80 (gaV x n (some ⟨r, 0, none⟩) (some ⟨r2, 0, none⟩) x.w c c2)) :: pt (some ⟨r, 0, none⟩) (Row 39 1 x.w c (ptrs x.w fun i => (Q i).u)) :: pt (some ⟨n.g, 0, none⟩) (GaO n.mp n.e) :: pt (some ⟨n.e, 0, none⟩) (EpO n.mp x) ::
        pt (some ⟨n.mp, 0, none⟩) (MemO (poolM x)) :: pt (some ⟨(Q 0).u, 0, none⟩) (SupO n.mp (Q 0).pb x (SupS.nil x.ca)) :: pt (some ⟨(Q 0).pb, 0, none⟩) (SkO n.mp x.pool) :: pt (some ⟨n.pb, 0, none⟩) (SkO n.mp x.pool) :: pt (some ⟨n.te, 0, none⟩) (EpO n.mp x) :: L) := by
    dsimp only [gaF]
    refine Ent.trans (Ent.ith 0 (by omega)) ?_
    simp only [whoL, List.cons_append, List.nil_append]
    exact entm
  refine Sx.ent ec ?_
  have hcol := gaCollects (x := x) (n := n) (r := r) (r2 := some ⟨r2, 0, none⟩) (k := x.w) (c := c) (c2 := c2) (pb := (Q 0).pb) (Q := Q) (s := SupS.nil x.ca) (m := poolM x) (i := 0) (G := pt (some ⟨n.pb, 0, none⟩) (SkO n.mp x.pool) :: pt (some ⟨n.te, 0, none⟩) (EpO n.mp x) :: L) 5 (by omega) (by omega) (by omega) hx (by rw [poolM_len]; exact Nat.le_refl _) (by rw [hca]; decide) hnd (by rw [e]; exact hd) (by rw [e]; exact hg)
  rw [e] at hcol
  refine Sx.ca rfl hcol ?_
  rintro v L' ⟨rfl, rfl⟩
  dsimp only
  rw [hwon]
  refine go ?_
  refine Sx.ca rfl (epochNow (e := n.te) (mp := n.mp) (x := x) (m := m') (by omega)) ?_
  rintro v L' ⟨rfl, rfl⟩
  rw [h2', poolM_at hx 2 (by omega) (by omega), show cutE ((0 + 1) % 18446744073709551616) = 1 from rfl]
  refine go ?_
  refine Sx.ca rfl (stackList (sb := n.pb) (mp := n.mp) (k := x.pool) (m := m') (hx.pool (by omega) (by omega))) ?_
  rintro v L' ⟨ro, co, rfl, rfl⟩
  rw [list_pool hp', List.nil_append, iotaI_len, hc]
  refine go ?_
  refine Kr.one (.inr rfl) rfl ?_ ⟨rfl, rfl⟩
  exact entm
end
end Go.Proofs.YtnbkjcmmjgkdaaaGreat

/-
  Two memories that agree on some cells: what goes on by these goes on alike.
-/
set_option linter.unusedVariables false
set_option linter.unusedSimpArgs false
namespace Go.Proofs.YtnbkjcmmjgkdaaaGreat
structure Agree (A : Nat → Prop) (m m2 : Mm) : Prop where
  len : m2.ws.length = m.ws.length
  n : m2.n = m.n
  at_ : ∀ a, A a → m2.at_ a = m.at_ a
theorem Agree.refl (A : Nat → Prop) (m : Mm) : Agree A m m := ⟨rfl, rfl, fun _ _ => rfl⟩
theorem Agree.tick {A : Nat → Prop} {m m2 : Mm} (h : Agree A m m2) : Agree A m.tick m2.tick := ⟨h.len, congrArg (· + 1) h.n, h.at_⟩
theorem Agree.put {A : Nat → Prop} {m m2 : Mm} (h : Agree A m m2) {i v : Nat} (hi : i < m.ws.length) : Agree A (m.put i v) (m2.put i v) := by
  refine ⟨by rw [Mm.len_put, Mm.len_put, h.len], congrArg (· + 1) h.n, fun a ha => ?_⟩
  rw [Mm.at_put _ (by rw [h.len]; exact hi), Mm.at_put _ hi, h.at_ a ha]
theorem Agree.cas {A : Nat → Prop} {m m2 : Mm} (h : Agree A m m2) {i o v : Nat} (hi : i < m.ws.length) (ha : A i) : Agree A (m.cas i o v) (m2.cas i o v) := by
  unfold Mm.cas
  rw [h.at_ i ha]
  split
  · exact h.put hi
  · exact h.tick
/-- The cells of a stack are among them. -/
structure Covers (A : Nat → Prop) (k : Sk) : Prop where
  h : A k.head
  l : ∀ i, i < k.n → A (k.links + i)
/-- What holds of a Take as it goes on. -/
structure TkOk (k : Sk) (len : Nat) (r : Mm × SupS × TakeS) : Prop where
  m : r.1.ok
  l : r.1.ws.length = len
  t : r.2.2.ok
  q : r.2.2.done = false → r.2.2.at_ = 1 → r.2.2.q.ok k
theorem popStep_mok {k : Sk} {m : Mm} {q : PopS} (hm : m.ok) (hq : q.ok k) (hn : k.n ≤ 4096) : (popStep k m q).2.ok := by
  have hu := hq.u2
  unfold popStep
  (repeat' split) <;> first | exact hm | exact Mm.ok_tick hm | exact Mm.ok_cas hm (nextW_lt hq.w (by omega))
theorem TkOk.step {k : Sk} {ba : Int} {len : Nat} {r : Mm × SupS × TakeS} (hk : k.ok len) (h : TkOk k len r) : TkOk k len (takeStep k ba r.1 r.2.1 r.2.2) := by
  obtain ⟨m, s, t⟩ := r
  have hm := h.m
  have hl := h.l
  simp only at hm hl ⊢
  refine ⟨?_, by rw [takeStep_len]; exact hl, takeStep_ok h.t, ?_⟩
  · unfold takeStep
    split
    · exact hm
    · rename_i hd
      split
      · dsimp only; split <;> exact hm
      · rename_i hne
        have ha := h.t.a
        have := popStep_mok (k := k) (q := t.q) hm (h.q (by simpa using hd) (by simp only at ha; have : t.at_ ≠ 0 := hne; simp only; omega)) hk.n2
        dsimp only; split <;> exact this
  · unfold takeStep
    split
    · exact h.q
    · rename_i hd
      split
      · dsimp only
        split
        · rename_i r' hr
          unfold keepT at hr
          split at hr
          · cases hr
          · cases hr; intro h; cases h
        · exact fun _ _ => PopS.ok_init hk.n1 ba
      · rename_i hne
        have ha := h.t.a
        have hq := popStep_ok (m := m) hk hm (h.q (by simpa using hd) (by simp only at ha; have : t.at_ ≠ 0 := hne; simp only; omega))
        dsimp only
        split
        · intro h
          unfold popped at h
          split at h <;> cases h
        · exact fun _ _ => hq
theorem TkOk.init {k : Sk} {ba : Int} {m : Mm} {s : SupS} (hk : k.ok m.ws.length) (hm : m.ok) : TkOk k m.ws.length (m, takeInit ba s) := by
  refine ⟨hm, rfl, takeInit_ok, ?_⟩
  unfold takeInit keepT
  split
  · rename_i r hr
    split at hr
    · cases hr
    · cases hr; intro h; cases h
  · split
    · intro _ h; cases h
    · exact fun _ _ => PopS.ok_init hk.n1 ba
theorem TkOk.it {k : Sk} {ba : Int} {len : Nat} {r : Mm × SupS × TakeS} (hk : k.ok len) (h : TkOk k len r) : ∀ j, TkOk k len (tkIt k ba j r)
  | 0 => h
  | j + 1 => (TkOk.it hk h j).step hk
def SupS.size (s : SupS) : Nat := s.xs.length + s.lm.size
theorem keepT_size {s : SupS} {t : TakeS} {r : SupS × TakeS} (h : keepT s t = some r) : r.1.size ≤ s.size := by
  unfold keepT at h
  split at h
  · cases h
  · cases h
    unfold SupS.size SupS.kept
    simp only [List.length_dropLast]
    omega
theorem takeInit_size {ba : Int} {s : SupS} : (takeInit ba s).1.size ≤ s.size := by
  unfold takeInit
  split
  · rename_i r hr; exact keepT_size hr
  · split <;> exact Nat.le_refl _
theorem takeStep_size {k : Sk} {ba : Int} {m : Mm} {s : SupS} {t : TakeS} {len : Nat} (hk : k.ok len) (ht : TkOk k len (m, s, t)) : (takeStep k ba m s t).2.1.size ≤ s.size + 8 := by
  have hl := ht.l
  simp only at hl
  subst hl
  unfold takeStep
  cases hd : t.done with
  | true => simp
  | false =>
    simp only [Bool.false_eq_true, if_false]
    have ha := ht.t.a
    simp only at ha
    rcases (show t.at_ = 0 ∨ t.at_ = 1 by omega) with h0 | h0
    · rw [h0]
      simp only
      have hr : (s.ready (cutE (m.at_ 2))).size = s.size := s.ready_size _
      split
      · rename_i r hr'
        have := keepT_size hr'
        simp only; omega
      · simp only; omega
    · have hq := popStep_ok (m := m) hk ht.m (ht.q hd h0)
      rw [h0]
      simp only
      split
      · unfold popped
        split
        · simp
        · rename_i y l hg
          have h8 := hq.len
          simp only at hg
          rw [hg, List.length_cons] at h8
          unfold SupS.size SupS.give
          simp only [List.length_append]
          omega
      · simp
theorem tkIt_size {k : Sk} {ba : Int} {r : Mm × SupS × TakeS} {len : Nat} (hk : k.ok len) (ht : TkOk k len r) : ∀ j, (tkIt k ba j r).2.1.size ≤ r.2.1.size + 8 * j
  | 0 => Nat.le_refl _
  | j + 1 => by
    have h1 := tkIt_size (ba := ba) hk ht j
    have h2 : (takeStep k ba (tkIt k ba j r).1 (tkIt k ba j r).2.1 (tkIt k ba j r).2.2).2.1.size ≤ (tkIt k ba j r).2.1.size + 8 := takeStep_size (ba := ba) hk (TkOk.it (ba := ba) hk ht j)
    show (takeStep k ba (tkIt k ba j r).1 (tkIt k ba j r).2.1 (tkIt k ba j r).2.2).2.1.size ≤ _
    omega
/-- When it is done it stays so. -/
theorem tkIt_done {k : Sk} {ba : Int} {r : Mm × SupS × TakeS} {N : Nat} (h : (tkIt k ba N r).2.2.done = true) : ∀ j, tkIt k ba (N + j) r = tkIt k ba N r
  | 0 => rfl
  | j + 1 => by
    show takeStep k ba (tkIt k ba (N + j) r).1 (tkIt k ba (N + j) r).2.1 (tkIt k ba (N + j) r).2.2 = _
    rw [tkIt_done h j]
    unfold takeStep
    rw [if_pos h]
end Go.Proofs.YtnbkjcmmjgkdaaaGreat

/-
  The document's Take, one access at a time.
-/
set_option linter.unusedVariables false
set_option linter.unusedSimpArgs false
namespace Go.Proofs.YtnbkjcmmjgkdaaaGreat
open Go
attribute [local irreducible] Sx Cx Rx Fx Krg Ksq Kbl Klp Kr
section
variable {L F G : St}
theorem SupS.kept_nil {s : SupS} (h : s.xs = []) : s.kept = s := by
  cases s; simp only [SupS.kept]; simp only at h; subst h; rfl
theorem refTakeNew {s w rm rp rs re : Nat} {x : Cn} {S : SupS} {F1 F2 : St} (hx : x.ok) (hb : S.xs.length + S.lm.size ≤ 1000000) [t2 : Take L (some ⟨s, 0, none⟩) (RSupO w S) F1] [t3 : Take F1 (some ⟨w, 0, none⟩) (RWO x rm rp rs re) F2] [t4 : Take F2 (some ⟨rp, 0, none⟩) (RSkO rm x.pool) G] :
    Fx Tryz.prog 85 [.pointer (some ⟨s, 0, none⟩)] L
      (fun v L' => ∃ b, v = .pointer (some ⟨b, 0, none⟩) ∧ L' = pt (some ⟨b, 0, none⟩) (RTakeO s rp (takeInit x.ba S).2) :: pt (some ⟨s, 0, none⟩) (RSupO w (takeInit x.ba S).1) :: F1) := by
  obtain ⟨b1, b2, b3, b4, b5, b6, b7⟩ := hx.b
  refine Fx.mk Tryz.func85 k85 (Nat.le_of_ble_eq_true rfl) ?_
  dsimp only [c85, envOf, Nat.reduceAdd]
  refine go ?_
  refine Sx.bx rfl rfl fun b => ?_
  refine go ?_
  refine Sx.ca rfl (refKept (b := b) (s := s) (w := w) (S := S) (n := 0) (seen := -1) (pp := .pointer none) (by omega)) ?_
  rintro v L' ⟨rfl, rfl⟩
  by_cases hxs : S.xs = []
  · rw [decide_eq_false (fun h => h hxs), if_pos hxs, SupS.kept_nil hxs]
    refine Sx.nil ?_
    refine Krg.i ?_
    refine Ksq.nm ?_
    refine Cx.sq ?_
    refine Cx.sq ?_
    refine Cx.ent (Ent.cons (Ent.cons (Ent.trans (Ent.of t3.out) (Ent.cons (Ent.of t4.out))))) ?_
    refine Cx.openp (a := some ⟨s, 0, none⟩) rfl ?_
    rintro ⟨st, lm⟩
    simp only [rsupL, List.cons_append, List.nil_append]
    refine go ?_
    refine Sx.ca rfl (refLimboLen (b := lm) (m := S.lm) (by omega)) ?_
    rintro v L' ⟨rfl, rfl⟩
    refine go ?_
    by_cases hz : 0 < S.lm.size
    · have e0 : takeInit x.ba S = (S, TakeS.none_) := by unfold takeInit keepT; rw [if_pos hxs]; simp only; rw [if_pos hz]
      rw [e0]
      refine Cx.cno rfl (decide_eq_false (by omega)) ?_
      refine go ?_
      refine Kr.one (.inr rfl) rfl ?_ ⟨b, rfl, rfl⟩
      refine Ent.trans (Ent.trans (Ent.take (a := some ⟨b, 0, none⟩)) (RTakeO.closeL (rp := rp) TakeS.none_ rfl rfl rfl)) (Ent.cons ?_)
      refine Ent.trans (RSupO.close (a := some ⟨s, 0, none⟩) (st := st) (lm := lm) (w := w) S rfl rfl rfl) (Ent.cons ?_)
      exact Ent.trans (Ent.cons (Ent.of t4.back)) (Ent.of t3.back)
    · have e0 : takeInit x.ba S = (S, { TakeS.none_ with at_ := 1, q := PopS.init x.ba }) := by unfold takeInit keepT; rw [if_pos hxs]; simp only; rw [if_neg hz]
      rw [e0]
      refine Cx.cyes rfl (decide_eq_true (by omega)) ?_
      refine Cx.ent (RSupO.close (a := some ⟨s, 0, none⟩) (st := st) (lm := lm) (w := w) S rfl rfl rfl) ?_
      refine go ?_
      refine Sx.ca rfl (refTakePop (b := b) (s := s) (w := w) (rm := rm) (rp := rp) (rs := rs) (re := re) (x := x) (S := S) (n := 0) (ch := -1) (seen := -1) (pp := .pointer none) b6) ?_
      rintro v L' ⟨p, rfl, rfl⟩
      refine go ?_
      refine Kr.one (.inr rfl) rfl ?_ ⟨b, rfl, rfl⟩
      refine Ent.trans (RTakeO.closeP (rp := rp) { TakeS.none_ with at_ := 1, q := PopS.init x.ba } rfl (by simp) rfl rfl) (Ent.cons (Ent.cons ?_))
      exact Ent.trans (Ent.cons (Ent.of t4.back)) (Ent.of t3.back)
  · have e0 : takeInit x.ba S = (S.kept, { TakeS.none_ with chunk := lastI S.xs, is_ := true, done := true }) := by unfold takeInit keepT; rw [if_neg hxs]
    rw [e0, decide_eq_true hxs, if_neg hxs]
    refine go ?_
    refine Kr.one (.inr rfl) rfl ?_ ⟨b, rfl, rfl⟩
    refine Ent.trans (RTakeO.closeD (rp := rp) { TakeS.none_ with chunk := lastI S.xs, is_ := true, done := true } rfl rfl rfl) ?_
    exact Ent.refl _
set_option maxHeartbeats 1000000 in
/-- One access of a Take of the document's. -/
theorem refTakeStep {b s w rm rp rs re : Nat} {x : Cn} {S : SupS} {m : Mm} {t : TakeS} {F1 F2 F3 F4 : St} (hx : x.ok) (hl : x.len ≤ m.ws.length) (ht : t.ok) (hq : t.done = false → t.at_ = 1 → t.q.ok x.pool) (hb : S.xs.length + S.lm.size ≤ 1000000)
    [t1 : Take L (some ⟨b, 0, none⟩) (RTakeO s rp t) F1] [t2 : Take F1 (some ⟨s, 0, none⟩) (RSupO w S) F2] [t3 : Take F2 (some ⟨rm, 0, none⟩) (RMemO m) F3] [t4 : Take F3 (some ⟨w, 0, none⟩) (RWO x rm rp rs re) F4] [t5 : Take F4 (some ⟨rp, 0, none⟩) (RSkO rm x.pool) G] :
    Fx Tryz.prog 81 [.pointer (some ⟨b, 0, none⟩)] L
      (fun v L' => v = .bool (!t.done) ∧ L' = pt (some ⟨b, 0, none⟩) (RTakeO s rp (takeStep x.pool x.ba m S t).2.2) :: pt (some ⟨s, 0, none⟩) (RSupO w (takeStep x.pool x.ba m S t).2.1) :: pt (some ⟨rm, 0, none⟩) (RMemO (takeStep x.pool x.ba m S t).1) :: F3) := by
  obtain ⟨b1, b2, b3, b4, b5, b6, b7⟩ := hx.b
  have hl3 : 3 ≤ x.len := by unfold Cn.len; omega
  have hback : Ent (pt (some ⟨w, 0, none⟩) (RWO x rm rp rs re) :: pt (some ⟨rp, 0, none⟩) (RSkO rm x.pool) :: G) F3 := Ent.trans (Ent.cons (Ent.of t5.back)) (Ent.of t4.back)
  refine Fx.mk Tryz.func81 k81 (Nat.le_of_ble_eq_true rfl) ?_
  dsimp only [c81, envOf, Nat.reduceAdd]
  refine Cx.ent (Ent.trans (Ent.of t1.out) (Ent.cons (Ent.trans (Ent.of t2.out) (Ent.cons (Ent.trans (Ent.of t3.out) (Ent.cons (Ent.trans (Ent.of t4.out) (Ent.cons (Ent.of t5.out))))))))) ?_
  refine Cx.pure (rmemKey (rm := rm) (m := m)) fun hm => ?_
  cases hd : t.done with
  | true =>
    have e1 : takeStep x.pool x.ba m S t = (m, S, t) := by unfold takeStep; rw [hd]; rfl
    rw [e1]
    refine Cx.openp (a := some ⟨b, 0, none⟩) (RTakeO.d hd) ?_
    rintro ⟨n, pp⟩
    simp only [rtakeDL, List.cons_append, List.nil_append]
    refine go ?_
    exact Kr.one (.inr rfl) rfl (Ent.trans (RTakeO.closeD t hd rfl rfl) (Ent.cons (Ent.cons (Ent.cons hback)))) ⟨rfl, rfl⟩
  | false =>
    have ha := ht.a
    rcases (show t.at_ = 0 ∨ t.at_ = 1 by omega) with h0 | h0
    · have hlt := Mm.at_lt hm.1 2
      have hsz := size_ready (cutE (m.at_ 2)) S.lm
      have hsx : (S.ready (cutE (m.at_ 2))).xs.length ≤ 100000000 := by
        show (S.xs ++ (readyAll (cutE (m.at_ 2)) S.lm).1).length ≤ _
        rw [List.length_append]; omega
      refine Cx.openp (a := some ⟨b, 0, none⟩) (RTakeO.l hd h0) ?_
      rintro pp
      simp only [rtakeLL, List.cons_append, List.nil_append]
      refine Cx.openp (a := some ⟨s, 0, none⟩) rfl ?_
      rintro ⟨st, lm⟩
      simp only [rsupL, List.cons_append, List.nil_append]
      refine go ?_
      refine Sx.ca rfl (refLoad (rm := rm) (m := m) 2 (by omega)) ?_
      rintro v L' ⟨rfl, rfl⟩
      refine go ?_
      refine Sx.ca rfl (refCut (m.at_ 2) hlt) ?_
      rintro v L' ⟨rfl, rfl⟩
      refine go ?_
      refine Cx.ent (RSupO.close (a := some ⟨s, 0, none⟩) (st := st) (lm := lm) (w := w) S rfl rfl rfl) ?_
      refine Cx.ordc rfl (by kernel_rfl) ?_
      refine ge ?_
      refine Ev.caH (by kernel_rfl) rfl rfl (refSupReady (s := s) (w := w) (S := S) (now := cutE (m.at_ 2)) (by omega) (by omega) (by unfold cutE; omega)) (Pres.deps (by kernel_rfl)) ?_
      rintro v L' ⟨rfl, rfl⟩
      refine ge ?_
      refine go ?_
      refine Sx.ca rfl (refKept (b := b) (s := s) (w := w) (S := S.ready (cutE (m.at_ 2))) (n := 0) (seen := cutE (m.at_ 2)) (pp := pp) hsx) ?_
      rintro v L' ⟨rfl, rfl⟩
      by_cases hxs : (S.ready (cutE (m.at_ 2))).xs = []
      · have e1 : takeStep x.pool x.ba m S t = (m.tick, S.ready (cutE (m.at_ 2)), { t with seen := cutE (m.at_ 2), at_ := 1, q := PopS.init x.ba }) := by
          unfold takeStep keepT; rw [hd, h0]; simp only [Bool.false_eq_true, if_false]; rw [if_pos hxs]
        rw [e1, decide_eq_false (show ¬ ((S.ready (cutE (m.at_ 2))).xs ≠ []) from fun h => h hxs), if_pos hxs, SupS.kept_nil hxs]
        refine go ?_
        refine Sx.ca rfl (refTakePop (b := b) (s := s) (w := w) (rm := rm) (rp := rp) (rs := rs) (re := re) (x := x) (S := S.ready (cutE (m.at_ 2))) (n := 0) (ch := -1) (seen := cutE (m.at_ 2)) (pp := pp) b6) ?_
        rintro v L' ⟨p, rfl, rfl⟩
        refine go ?_
        refine Kr.one (.inr rfl) rfl ?_ ⟨rfl, rfl⟩
        refine Ent.trans (RTakeO.closeP (rp := rp) { t with seen := cutE (m.at_ 2), at_ := 1, q := PopS.init x.ba } hd (by simp) rfl rfl) (Ent.cons (Ent.cons ?_))
        refine Ent.trans ?_ (Ent.cons hback)
        exact ent
      · have e1 : takeStep x.pool x.ba m S t = (m.tick, (S.ready (cutE (m.at_ 2))).kept, { t with seen := cutE (m.at_ 2), chunk := lastI (S.ready (cutE (m.at_ 2))).xs, is_ := true, done := true }) := by
          unfold takeStep keepT; rw [hd, h0]; simp only [Bool.false_eq_true, if_false]; rw [if_neg hxs]
        rw [e1, decide_eq_true hxs, if_neg hxs]
        refine go ?_
        refine Kr.one (.inr rfl) rfl ?_ ⟨rfl, rfl⟩
        refine Ent.trans (RTakeO.closeD (rp := rp) { t with seen := cutE (m.at_ 2), chunk := lastI (S.ready (cutE (m.at_ 2))).xs, is_ := true, done := true } rfl rfl rfl) (Ent.cons (Ent.cons ?_))
        refine Ent.trans ?_ (Ent.cons hback)
        exact ent
    · have hk := hx.pool (n := m.ws.length) hl hm.2
      have hqo := hq hd h0
      refine Cx.openp (a := some ⟨b, 0, none⟩) (RTakeO.p hd (by omega)) ?_
      rintro p
      simp only [rtakePL, List.cons_append, List.nil_append]
      refine go ?_
      refine Sx.ca rfl (refPopStep (b := p) (sb := rp) (rm := rm) (k := x.pool) (m := m) (q := t.q) hk hqo) ?_
      rintro v L' ⟨rfl, rfl⟩
      have hq' := popStep_ok hk hm.1 hqo
      obtain ⟨q1, hq1⟩ : ∃ q1, (popStep x.pool m t.q).1 = q1 := ⟨_, rfl⟩
      obtain ⟨m1, hm1⟩ : ∃ m1, (popStep x.pool m t.q).2 = m1 := ⟨_, rfl⟩
      have hp1 : popStep x.pool m t.q = (q1, m1) := by rw [← hq1, ← hm1]
      rw [hq1] at hq'
      rw [hp1]
      dsimp only
      cases hqd : q1.done with
      | false =>
        have e1 : takeStep x.pool x.ba m S t = (m1, S, { t with q := q1 }) := by unfold takeStep; rw [hd, h0]; simp only [Bool.false_eq_true, if_false]; rw [hp1]; simp only [hqd, Bool.false_eq_true, if_false]
        rw [e1]
        refine Sx.nil ?_
        refine Krg.i ?_
        refine Ksq.nm ?_
        refine Cx.sq ?_
        refine Cx.openp (a := some ⟨p, 0, none⟩) rfl ?_
        rintro ⟨r, c⟩
        simp only [rpopL, List.cons_append, List.nil_append]
        rw [hqd]
        refine go ?_
        refine Kr.one (.inr rfl) rfl ?_ ⟨rfl, rfl⟩
        refine Ent.trans (RPopO.close (sb := rp) (a := some ⟨p, 0, none⟩) (r := r) q1 rfl rfl rfl rfl rfl rfl (by rw [hqd]) rfl) ?_
        refine Ent.trans (Ent.trans (Ent.take (a := some ⟨b, 0, none⟩)) (RTakeO.closeP (rp := rp) { t with q := q1 } hd (by dsimp only; omega) rfl rfl)) (Ent.cons ?_)
        refine Ent.trans ?_ (Ent.cons (Ent.cons hback))
        exact ent
      | true =>
        have e1 : takeStep x.pool x.ba m S t = (m1, popped S { t with q := q1 }) := by unfold takeStep; rw [hd, h0]; simp only [Bool.false_eq_true, if_false]; rw [hp1]; simp only [hqd, if_true]
        rw [e1]
        refine Sx.nil ?_
        refine Krg.i ?_
        refine Ksq.nm ?_
        refine Cx.sq ?_
        refine Cx.openp (a := some ⟨p, 0, none⟩) rfl ?_
        rintro ⟨r, c⟩
        simp only [rpopL, List.cons_append, List.nil_append]
        rw [hqd]
        refine go ?_
        refine Sx.ent (RPopO.close (sb := rp) (a := some ⟨p, 0, none⟩) (r := r) q1 rfl rfl rfl rfl rfl rfl (by rw [hqd]) rfl) ?_
        refine Sx.ca rfl (refPopGot (b := p) (sb := rp) (rm := rm) (k := x.pool) (q := q1) hqd hq'.len) ?_
        rintro v L' ⟨ro, co, rfl, rfl⟩
        refine go ?_
        cases hg : q1.got with
        | nil =>
          have e2 : popped S { t with q := q1 } = (S, { t with q := q1, done := true }) := by unfold popped; simp only [hg]
          rw [e2]
          refine go ?_
          refine Kr.one (.inr rfl) rfl ?_ ⟨rfl, rfl⟩
          refine Ent.trans (Ent.trans (Ent.take (a := some ⟨b, 0, none⟩)) (RTakeO.closeD (rp := rp) { t with q := q1, done := true } rfl (by unfold TakeS.ch; simp only; rw [(ht.i hd).2]; rfl) rfl)) (Ent.cons ?_)
          refine Ent.trans ?_ (Ent.cons (Ent.cons hback))
          exact ent
        | cons y l =>
          have e2 : popped S { t with q := q1 } = (S.give l, { t with q := q1, chunk := y, is_ := true, done := true }) := by unfold popped; simp only [hg]
          have h8 := hq'.len
          rw [hg] at h8
          simp only [List.length_cons] at h8 ⊢
          rw [e2]
          refine Cx.cyes rfl (decide_eq_true (by omega)) ?_
          refine Cx.rowkey (a := ro) fun hx0 hn0 hc0 hk0 => ?_
          obtain ⟨rg, rfl⟩ := row_some (i := 0) (by omega) (hk0.imp (fun h => ⟨h.1, h.2.1, h.2.2⟩) id)
          refine gg ?_
          refine Sx.ldr (b := rg) rfl (v := .int .i64 y) rfl ?_
          refine go ?_
          refine Cx.ent (Ent.take (a := some ⟨s, 0, none⟩)) ?_
          refine Cx.openp (a := some ⟨s, 0, none⟩) rfl ?_
          rintro ⟨st, lm⟩
          simp only [rsupL, List.cons_append, List.nil_append]
          refine Cx.ordc rfl (by kernel_rfl) ?_
          refine ge ?_
          refine Ev.caH (by kernel_rfl) rfl rfl (refGive (b := st) (ys := l) (Rd.suffix_ (g := rg) (i := 1) hx0 hn0 (by omega)) (by omega)) (Pres.deps (by kernel_rfl)) ?_
          rintro v L' ⟨rfl, rfl⟩
          refine ge ?_
          refine go ?_
          refine Kr.one (.inr rfl) rfl ?_ ⟨rfl, rfl⟩
          refine Ent.trans (Ent.trans (Ent.take (a := some ⟨b, 0, none⟩)) (RTakeO.closeD (rp := rp) { t with q := q1, chunk := y, is_ := true, done := true } rfl rfl rfl)) (Ent.cons ?_)
          refine Ent.trans (RSupO.close (a := some ⟨s, 0, none⟩) (st := st) (lm := lm) (w := w) (S.give l) rfl rfl rfl) (Ent.cons ?_)
          refine Ent.trans ?_ (Ent.cons hback)
          exact ent
end
end Go.Proofs.YtnbkjcmmjgkdaaaGreat

/-
  gather's statements: take.
-/
set_option linter.unusedVariables false
set_option linter.unusedSimpArgs false
namespace Go.Proofs.YtnbkjcmmjgkdaaaGreat
open Go
attribute [local irreducible] Sx Cx Rx Fx Krg Ksq Kbl Klp Kr
/-- The cells that count for both: all but the spare slots'. -/
def NoSlots (x : Cn) (a : Nat) : Prop := a ≠ 1 ∧ (a < x.slot ∨ x.slot + x.sl ≤ a)
theorem noSlots_covers {x : Cn} : Covers (NoSlots x) x.pool := by
  refine ⟨⟨by simp [Cn.pool], .inl ?_⟩, fun i _ => ⟨?_, .inr ?_⟩⟩
  · show 0 < x.slot; unfold Cn.slot; omega
  · show x.link + i ≠ 1; unfold Cn.link; omega
  · show x.slot + x.sl ≤ x.link + i; unfold Cn.slot Cn.link; omega
theorem noSlots_two {x : Cn} : NoSlots x 2 := ⟨by omega, .inl (by unfold Cn.slot; omega)⟩
section
variable {L F G : St}
abbrev gtF (x : Cn) (n : Gn) (r r2 k c c2 : Nat) (Q : Nat → Who) (i : Nat) (S S2 : SupS) (m m2 : Mm) (G : St) : St :=
  pt (some ⟨n.a, 0, none⟩) (Blk 80 (gaV x n (some ⟨r, 0, none⟩) (some ⟨r2, 0, none⟩) k c c2)) :: pt (some ⟨r, 0, none⟩) (Row 39 1 k c (ptrs k fun i => (Q i).u)) :: pt (some ⟨r2, 0, none⟩) (Row 89 1 k c2 (ptrs k fun i => (Q i).s)) ::
  pt (some ⟨n.mp, 0, none⟩) (MemO m) :: pt (some ⟨n.w, 0, none⟩) (RWO x n.rm n.rp n.rs n.re) :: pt (some ⟨n.rm, 0, none⟩) (RMemO m2) :: pt (some ⟨n.rp, 0, none⟩) (RSkO n.rm x.pool) ::
  pt (some ⟨(Q i).u, 0, none⟩) (SupO n.mp (Q i).pb x S) :: pt (some ⟨(Q i).pb, 0, none⟩) (SkO n.mp x.pool) :: pt (some ⟨(Q i).s, 0, none⟩) (RSupO n.w S2) :: G
set_option maxHeartbeats 2000000 in
set_option maxRecDepth 20000 in
theorem gaTake2 {x : Cn} {n : Gn} {r r2 k c c2 : Nat} {Q : Nat → Who} {S S2 : SupS} {m m2 : Mm} {i : Nat} (hi : i < k) (hk : k ≤ 64) (hx : x.ok) (hl : m.ws.length = x.len) (hl2 : m2.ws.length = x.len) (hm : m.ok) (hm2 : m2.ok) (hb : S.size ≤ 100000) (hb2 : S2.size ≤ 100000)
    (hd : (tkIt x.pool x.ba 40 (m, takeInit x.ba S)).2.2.done = true) (hd2 : (tkIt x.pool x.ba 40 (m2, takeInit x.ba S2)).2.2.done = true)
    (hs : (tkIt x.pool x.ba 40 (m, takeInit x.ba S)).2.2.is_ = true → (tkIt x.pool x.ba 40 (m2, takeInit x.ba S2)).2.2.ch = (tkIt x.pool x.ba 40 (m, takeInit x.ba S)).2.2.chunk) :
    Fx Tryz.prog 30 [.pointer (some ⟨n.a, 0, none⟩), .int .i64 i] (gtF x n r r2 k c c2 Q i S S2 m m2 G)
      (fun v L' => v = .tuple #[.int .i64 (tkIt x.pool x.ba 40 (m, takeInit x.ba S)).2.2.chunk, .bool (tkIt x.pool x.ba 40 (m, takeInit x.ba S)).2.2.is_] ∧
        L' = gtF x n r r2 k c c2 Q i (tkIt x.pool x.ba 40 (m, takeInit x.ba S)).2.1 (tkIt x.pool x.ba 40 (m2, takeInit x.ba S2)).2.1 (tkIt x.pool x.ba 40 (m, takeInit x.ba S)).1 (tkIt x.pool x.ba 40 (m2, takeInit x.ba S2)).1 G) := by
  have hlen := hx.len_le
  have hpk := hx.pool (n := m.ws.length) (by omega) (by omega)
  have hpk2 := hx.pool (n := m2.ws.length) (by omega) (by omega)
  have hok0 := TkOk.init (ba := x.ba) (s := S) hpk hm
  have hok2 := TkOk.init (ba := x.ba) (s := S2) hpk2 hm2
  have hokj := fun j => TkOk.it (ba := x.ba) hpk hok0 j
  have hokj2 := fun j => TkOk.it (ba := x.ba) hpk2 hok2 j
  have hszj := fun j => tkIt_size (ba := x.ba) hpk hok0 j
  have hszj2 := fun j => tkIt_size (ba := x.ba) hpk2 hok2 j
  have hsz0 := takeInit_size (ba := x.ba) (s := S)
  have hsz02 := takeInit_size (ba := x.ba) (s := S2)
  unfold gtF
  refine Fx.mk Tryz.func30 k30 (Nat.le_of_ble_eq_true rfl) ?_
  dsimp only [c30, envOf, Nat.reduceAdd]
  refine go ?_
  refine Cx.ordc rfl (by kernel_rfl) ?_
  refine ge ?_
  refine Ev.ldrH (b := r) (v := .pointer (some ⟨(Q i).u, 0, none⟩)) (by kernel_rfl) rfl rfl (by rw [show 0 + (i : Int).toNat * 1 = i by omega]; exact ptrs_get (U := fun i => (Q i).u) hi) ?_
  refine ge ?_
  iterate 6 (refine Ev.bring 1 rfl ?_; refine ge ?_)
  refine Ev.bring 1 rfl ?_
  refine Ev.ldrH (b := r2) (v := .pointer (some ⟨(Q i).s, 0, none⟩)) (by kernel_rfl) rfl rfl (by rw [show 0 + (i : Int).toNat * 1 = i by omega]; exact ptrs_get (U := fun i => (Q i).s) hi) ?_
  have hrow : ∀ (L0 : St) (F0 : St) [Take L0 (some ⟨r2, 0, none⟩) (Row 89 1 k c2 (ptrs k fun i => (Q i).s)) F0], Has L0 r2 (0 + (i : Int).toNat * 1) [.pointer (some ⟨(Q i).s, 0, none⟩)] := fun L0 F0 _ =>
    (Has.row (E := 89) (sz := 1) (n := k) (cap := c2) (xs := ptrs k fun i => (Q i).s) (m := 1)).one (take_one (by rw [show 0 + (i : Int).toNat * 1 = i by omega]; exact ptrs_get (U := fun i => (Q i).s) hi))
  refine Ev.caH (by kernel_rfl) rfl rfl (supTake (u := (Q i).u) (mp := n.mp) (pb := (Q i).pb) (x := x) (s := S) hx (by unfold SupS.size at hb; omega)) (.keep (fun v L' ⟨_, _, e⟩ => by subst e; exact hrow _ _) (.keep (fun v L' ⟨_, _, e⟩ => by subst e; exact Has.cell rfl) (.dep rfl (.dep rfl .nil)))) ?_
  rintro v L' ⟨b, rfl, rfl⟩
  refine ge ?_
  refine Ev.caH (by kernel_rfl) rfl rfl (refTakeNew (s := (Q i).s) (w := n.w) (rm := n.rm) (rp := n.rp) (rs := n.rs) (re := n.re) (x := x) (S := S2) hx (by unfold SupS.size at hb2; omega)) (Pres.deps (by kernel_rfl)) ?_
  rintro v L' ⟨bb, rfl, rfl⟩
  refine ge ?_
  refine go ?_
  refine Cx.lp (α := {j : Nat // j ≤ 40}) (fun j => [(6, .pointer (some ⟨b, 0, none⟩)), (7, .pointer (some ⟨bb, 0, none⟩)), (8, .int .i64 j.1)])
    (fun j => pt (some ⟨b, 0, none⟩) (TakeO (Q i).u (Q i).pb x.pool (tkIt x.pool x.ba j.1 (m, takeInit x.ba S)).2.2) :: pt (some ⟨bb, 0, none⟩) (RTakeO (Q i).s n.rp (tkIt x.pool x.ba j.1 (m2, takeInit x.ba S2)).2.2) ::
      gtF x n r r2 k c c2 Q i (tkIt x.pool x.ba j.1 (m, takeInit x.ba S)).2.1 (tkIt x.pool x.ba j.1 (m2, takeInit x.ba S2)).2.1 (tkIt x.pool x.ba j.1 (m, takeInit x.ba S)).1 (tkIt x.pool x.ba j.1 (m2, takeInit x.ba S2)).1 G)
    (fun j => 40 - j.1) ⟨0, by omega⟩ (sub.cons rfl (sub.cons rfl (sub.cons rfl sub.nil))) ?_ ?_
  · dsimp only [gtF, tkIt]
    exact ent
  rintro ⟨j, hj⟩
  dsimp only [gtF]
  have hokm := hokj j
  have hokm2 := hokj2 j
  have hsz := hszj j
  have hsz2 := hszj2 j
  have hl1 := hokm.l
  have hl12 := hokm2.l
  dsimp only at hsz hl1 hsz2 hl12
  refine go ?_
  refine Cx.ifp rfl (fun h => ?_) (fun h => ?_)
  · refine go ?_
    refine Sx.ca rfl (takeStepC (b := b) (u := (Q i).u) (mp := n.mp) (pb := (Q i).pb) (x := x) (s := (tkIt x.pool x.ba j (m, takeInit x.ba S)).2.1) (m := (tkIt x.pool x.ba j (m, takeInit x.ba S)).1) (t := (tkIt x.pool x.ba j (m, takeInit x.ba S)).2.2) hx (by omega) hokm.t (by unfold SupS.size at hsz hsz0 hb; omega)) ?_
    rintro v L' ⟨rfl, rfl⟩
    refine go ?_
    refine Sx.ca rfl (refTakeStep (b := bb) (s := (Q i).s) (w := n.w) (rm := n.rm) (rp := n.rp) (rs := n.rs) (re := n.re) (x := x) (S := (tkIt x.pool x.ba j (m2, takeInit x.ba S2)).2.1) (m := (tkIt x.pool x.ba j (m2, takeInit x.ba S2)).1) (t := (tkIt x.pool x.ba j (m2, takeInit x.ba S2)).2.2) hx (by omega) hokm2.t hokm2.q (by unfold SupS.size at hsz2 hsz02 hb2; omega)) ?_
    rintro v L' ⟨rfl, rfl⟩
    refine go ?_
    rw [w64 (n := (j : Int) + 1) (by omega) (by omega)]
    refine Klp.nm ⟨j + 1, by omega⟩ (sub.cons rfl (sub.cons rfl (sub.cons rfl sub.nil))) ?_ (by dsimp only; omega)
    dsimp only [gtF, tkIt]
    refine Ent.trans (Ent.take (a := some ⟨b, 0, none⟩)) (Ent.cons ?_)
    exact ent
  · obtain rfl : j = 40 := by omega
    refine go ?_
    refine Sx.ca rfl (takeChunk (b := b) (u := (Q i).u) (pb := (Q i).pb) (k := x.pool) (t := (tkIt x.pool x.ba 40 (m, takeInit x.ba S)).2.2) hokm.t) ?_
    rintro v L' ⟨rfl, rfl⟩
    refine Sx.ent (Ent.take (a := some ⟨bb, 0, none⟩)) ?_
    refine Sx.openp (a := some ⟨bb, 0, none⟩) (RTakeO.d hd2) ?_
    rintro ⟨nn, pp⟩
    simp only [rtakeDL, List.cons_append, List.nil_append]
    refine go ?_
    refine Cx.ordc rfl (by kernel_rfl) ?_
    refine ge ?_
    cases his : (tkIt x.pool x.ba 40 (m, takeInit x.ba S)).2.2.is_ with
    | true =>
      have hch := hs his
      refine ge ?_
      refine go ?_
      refine Kr.two (.inr rfl) rfl rfl ?_ ⟨?_, rfl⟩
      · exact ent
      · rw [hch]; simp
    | false =>
      refine ge ?_
      refine go ?_
      refine Kr.two (.inr rfl) rfl rfl ?_ ⟨rfl, rfl⟩
      exact ent
end
end Go.Proofs.YtnbkjcmmjgkdaaaGreat

/-
  One alone takes and keeps: what is known of it.
-/
set_option linter.unusedVariables false
set_option linter.unusedSimpArgs false
namespace Go.Proofs.YtnbkjcmmjgkdaaaGreat
/-- While one alone takes chunks, with nothing in its limbo: what it took, what it has, what is in the pool are all there are. -/
structure CP (x : Cn) (s : SupS) (m : Mm) (lp ys : List Int) : Prop where
  most : s.most = (SupS.nil x.ca).most
  lm : s.lm = Lm.nil
  len : m.ws.length = x.len
  ok : m.ok
  pool : Pool x.pool m lp
  perm : (ys ++ (s.xs ++ lp)).Perm (iotaI x.c)
  at_ : ∀ a, a ≠ 0 → a < x.link → m.at_ a = 0
theorem CP.count {x : Cn} {s : SupS} {m : Mm} {lp ys : List Int} (h : CP x s m lp ys) : ys.length + (s.xs.length + lp.length) = x.c := by
  have := h.perm.length_eq
  rw [List.length_append, List.length_append, iotaI_len] at this
  exact this
theorem CP.size {x : Cn} {s : SupS} {m : Mm} {lp ys : List Int} (h : CP x s m lp ys) : s.size ≤ x.c := by
  have := h.count
  unfold SupS.size
  rw [h.lm]
  show s.xs.length + 0 ≤ _
  omega
theorem CP.take {x : Cn} {s : SupS} {m : Mm} {lp ys : List Int} (hx : x.ok) (h : CP x s m lp ys) (hy : ys.length < x.c) :
    (tkIt x.pool x.ba 40 (m, takeInit x.ba s)).2.2.done = true ∧ (tkIt x.pool x.ba 40 (m, takeInit x.ba s)).2.2.is_ = true ∧
    ∃ lp', CP x (tkIt x.pool x.ba 40 (m, takeInit x.ba s)).2.1 (tkIt x.pool x.ba 40 (m, takeInit x.ba s)).1 lp' (ys ++ [(tkIt x.pool x.ba 40 (m, takeInit x.ba s)).2.2.chunk]) := by
  obtain ⟨b1, b2, b3, b4, b5, b6, b7⟩ := hx.b
  have hlen := hx.len_le
  have hk := hx.pool (Nat.le_refl x.len) hlen
  have hk2 : x.pool.ok m.ws.length := by rw [h.len]; exact hk
  obtain ⟨N, m', s', t', l', n1, e, hd, h3, h4, h5, _, h6, h7⟩ := takes_plain (ba := x.ba) hk h.len h.pool (by omega) (by omega) (by rw [h.lm]; rfl)
  have hdN : (tkIt x.pool x.ba N (m, takeInit x.ba s)).2.2.done = true := by rw [e]; exact hd
  have h40 := tkIt_done hdN (40 - N)
  rw [show N + (40 - N) = 40 by omega, e] at h40
  have hcnt := h.count
  obtain ⟨hi, hpm⟩ := h5.perm (by omega) (by intro e2; have := congrArg List.length e2; rw [List.length_append, List.length_nil] at this; omega)
  have hok := (TkOk.it (ba := x.ba) hk2 (TkOk.init (ba := x.ba) (s := s) hk2 h.ok) 40).m
  obtain ⟨z1, z2, z3⟩ := h5.size (by omega)
  rw [h40] at hok ⊢
  refine ⟨hd, hi, l', z3.trans h.most, z2.trans h.lm, h3, hok, h4, ?_, fun a h0 ha => ?_⟩
  · refine List.Perm.trans ?_ h.perm
    rw [List.append_assoc]
    exact List.Perm.append_left _ hpm.symm
  · rw [h7 a h0]; exact h.at_ a h0 ha
end Go.Proofs.YtnbkjcmmjgkdaaaGreat

/-
  GatherCosts' walk.
-/
set_option linter.unusedVariables false
set_option linter.unusedSimpArgs false
namespace Go.Proofs.YtnbkjcmmjgkdaaaGreat
open Go
attribute [local irreducible] Sx Cx Rx Fx Krg Ksq Kbl Klp Kr
section
variable {L F G : St}
/-- One worker's part ahead of the others'. -/
theorem gaF_ith {x : Cn} {n : Gn} {r r2 k c c2 : Nat} {Q : Nat → Who} {S S2 : Nat → SupS} {m m2 : Mm} (i : Nat) (hi : i < k) :
    Ent (gaF x n (some ⟨r, 0, none⟩) (some ⟨r2, 0, none⟩) k c c2 Q S S2 m m2 G) (gtF x n r r2 k c c2 Q i (S i) (S2 i) m m2 (pt (some ⟨n.pb, 0, none⟩) (SkO n.mp x.pool) :: pt (some ⟨n.te, 0, none⟩) (EpO n.mp x) :: pt (some ⟨n.g, 0, none⟩) (GaO n.mp n.e) :: pt (some ⟨n.e, 0, none⟩) (EpO n.mp x) ::
      pt (some ⟨n.rs, 0, none⟩) (RSkO n.rm x.spare) :: pt (some ⟨n.re, 0, none⟩) (REpO x n.rm) :: (many k (updS (fun i => whoL n.mp n.w x (Q i) (S i) (S2 i)) i []) ++ G))) := by
  unfold gaF gtF
  refine Ent.trans (Ent.ith i hi) ?_
  simp only [whoL, List.cons_append, List.nil_append]
  exact entm
end
end Go.Proofs.YtnbkjcmmjgkdaaaGreat

/-
  Workers one by one: chunks taken from the pool, retired under 0; Collects, round by round.
-/
set_option linter.unusedVariables false
set_option linter.unusedSimpArgs false
namespace Go.Proofs.YtnbkjcmmjgkdaaaGreat
def lmOf (ys : List Int) : Lm := ⟨0, ys, 0, [], 0, [], 0⟩
theorem lmOf_size (ys : List Int) : (lmOf ys).size = ys.length := by simp [lmOf, Lm.size]
theorem lmOf_retire (ys : List Int) (c : Int) : retireM (lmOf ys) 0 [c] = lmOf (ys ++ [c]) ∧ outM (lmOf ys) 0 = [] ∧ ¬ refused (lmOf ys) 0 [c] := by
  refine ⟨by simp [retireM, lmOf, bucketOf, Lm.tag, Lm.items, Lm.put], by simp [outM, lmOf, bucketOf, Lm.tag, Lm.items], by simp [refused, lmOf]⟩
theorem lmOf_ready (ys : List Int) (now : Int) : readyAll now (lmOf ys) = if 2 ≤ now then (ys, lmOf []) else ([], lmOf ys) := by
  unfold readyAll
  split
  · rename_i h
    by_cases hy : ys = []
    · subst hy
      simp [lmOf, readyM, leastUp, Lm.open_, openM, Lm.tag, Lm.items, Lm.cnt, one]
    · have hl : 0 < ys.length := List.length_pos_iff.2 hy
      have hn : ¬ (now < 2) := by omega
      simp [lmOf, readyM, leastUp, Lm.open_, openM, Lm.tag, Lm.items, Lm.cnt, one, hy, hl, h, Lm.put]
  · rfl
/-- A worker's supply, with nothing kept. -/
def SW (x : Cn) (ys : List Int) : SupS := ⟨(SupS.nil x.ca).most, [], lmOf ys⟩
theorem SW_nil (x : Cn) : SW x [] = SupS.nil x.ca := rfl
theorem SW_size (x : Cn) (ys : List Int) : (SW x ys).size = ys.length := by
  unfold SupS.size SW
  rw [lmOf_size]
  simp
theorem SW_ready (x : Cn) (ys : List Int) (now : Int) : (SW x ys).ready now = ⟨(SupS.nil x.ca).most, if 2 ≤ now then ys else [], lmOf (if 2 ≤ now then [] else ys)⟩ := by
  unfold SupS.ready SW
  simp only [lmOf_ready]
  split <;> simp
/-- A Take alone, of one chunk at a time, with nothing that is ready. -/
theorem SW_take {x : Cn} {m : Mm} {ys l : List Int} {y : Int} (hx : x.ok) (hb : x.ba = 1) (hml : m.ws.length = x.len) (hm : m.ok) (hp : Pool x.pool m (y :: l)) (he : m.at_ 2 < 2) :
    ∃ m' q, tkIt x.pool x.ba 40 (m, takeInit x.ba (SW x ys)) = (m', SW x ys, q) ∧ q.done = true ∧ q.is_ = true ∧ q.chunk = y ∧ m'.ws.length = x.len ∧ m'.ok ∧ Pool x.pool m' l ∧ (∀ a, a ≠ 0 → m'.at_ a = m.at_ a) := by
  have hlen := hx.len_le
  have hk := hx.pool (Nat.le_refl x.len) hlen
  have hk2 : x.pool.ok m.ws.length := by rw [hml]; exact hk
  have hok := fun s => (TkOk.it (ba := x.ba) hk2 (TkOk.init (ba := x.ba) (s := s) hk2 hm) 40).m
  have hcut : cutE (m.at_ 2) < 2 := by unfold cutE; omega
  have hre : (SW x ys).ready (cutE (m.at_ 2)) = SW x ys := by rw [SW_ready, if_neg (by omega), if_neg (by omega)]; rfl
  have hc1 : ((1 : Nat) : Int) = min (x.ba : Int) (y :: l).length := by rw [hb]; simp only [List.length_cons]; omega
  by_cases hz : 0 < (lmOf ys).size
  · have e0 : takeInit x.ba (SW x ys) = (SW x ys, TakeS.none_) := by unfold takeInit keepT; rw [if_pos (show (SW x ys).xs = [] from rfl)]; simp only; rw [if_pos (show 0 < (SW x ys).lm.size from hz)]
    have e1 : tkIt x.pool x.ba 1 (m, SW x ys, TakeS.none_) = (m.tick, SW x ys, { TakeS.none_ with seen := cutE (m.at_ 2), at_ := 1, q := PopS.init x.ba }) := by
      simp only [tkIt]
      unfold takeStep keepT
      simp only [TakeS.none_, Bool.false_eq_true, if_false, hre]
      rw [if_pos (show (SW x ys).xs = [] from rfl)]
    obtain ⟨m', q, e, h2, h3, h4, h5, h6⟩ := take_alone hk (m := m.tick) (l := y :: l) hml (hp.congr rfl fun _ _ => rfl) (ba := x.ba) (by omega) (by omega) (by simp) 1 hc1 (s := SW x ys) (t := { TakeS.none_ with seen := cutE (m.at_ 2), at_ := 1, q := PopS.init x.ba }) rfl rfl rfl
    have hadd : ∀ j, tkIt x.pool x.ba (1 + j) (m, SW x ys, TakeS.none_) = tkIt x.pool x.ba j (m.tick, SW x ys, { TakeS.none_ with seen := cutE (m.at_ 2), at_ := 1, q := PopS.init x.ba }) := by
      intro j
      induction j with
      | zero => exact e1
      | succ j ih => show takeStep _ _ (tkIt x.pool x.ba (1 + j) _).1 (tkIt x.pool x.ba (1 + j) _).2.1 (tkIt x.pool x.ba (1 + j) _).2.2 = _; rw [ih]; rfl
    have e4 : tkIt x.pool x.ba 4 (m, SW x ys, TakeS.none_) = _ := (hadd 3).trans e
    have h40 := tkIt_done (k := x.pool) (ba := x.ba) (N := 4) (r := (m, SW x ys, TakeS.none_)) (by rw [e4]) 36
    have hok' := hok (SW x ys)
    rw [e0] at hok' ⊢
    rw [show 40 = 4 + 36 from rfl, h40, e4] at hok' ⊢
    exact ⟨m', _, rfl, rfl, rfl, rfl, h3, hok', h4, fun a ha => (h5 a ha).trans rfl⟩
  · have e0 : takeInit x.ba (SW x ys) = (SW x ys, { TakeS.none_ with at_ := 1, q := PopS.init x.ba }) := by unfold takeInit keepT; rw [if_pos (show (SW x ys).xs = [] from rfl)]; simp only; rw [if_neg (show ¬ 0 < (SW x ys).lm.size from hz)]
    obtain ⟨m', q, e, h2, h3, h4, h5, h6⟩ := take_alone hk hml hp (ba := x.ba) (by omega) (by omega) (by simp) 1 hc1 (s := SW x ys) (t := { TakeS.none_ with at_ := 1, q := PopS.init x.ba }) rfl rfl rfl
    have h40 := tkIt_done (k := x.pool) (ba := x.ba) (N := 3) (r := (m, SW x ys, { TakeS.none_ with at_ := 1, q := PopS.init x.ba })) (by rw [e]) 37
    have hok' := hok (SW x ys)
    rw [e0] at hok' ⊢
    rw [show 40 = 3 + 37 from rfl, h40, e] at hok' ⊢
    exact ⟨m', _, rfl, rfl, rfl, rfl, h3, hok', h4, fun a ha => h5 a ha⟩
def flat (n : Nat) (f : Nat → List Int) : List Int := (List.range n).flatMap f
def upd (f : Nat → List Int) (i : Nat) (s : List Int) : Nat → List Int := fun j => if j = i then s else f j
theorem flat_succ (n : Nat) (f : Nat → List Int) : flat (n + 1) f = flat n f ++ f n := by simp [flat, List.range_succ]
theorem flat_congr {n : Nat} {f g : Nat → List Int} (h : ∀ i, i < n → f i = g i) : flat n f = flat n g := by
  induction n with
  | zero => rfl
  | succ n ih => rw [flat_succ, flat_succ, ih fun i hi => h i (by omega), h n (by omega)]
theorem flat_upd {n : Nat} {f : Nat → List Int} (s : List Int) : ∀ {i : Nat}, i < n → (flat n (upd f i s)).Perm (s ++ flat n (upd f i [])) := by
  induction n with
  | zero => intro i h; omega
  | succ n ih =>
    intro i h
    rw [flat_succ, flat_succ]
    by_cases e : i = n
    · subst e
      have e1 : ∀ s : List Int, flat i (upd f i s) = flat i f := fun s => flat_congr fun j hj => by unfold upd; rw [if_neg (by omega)]
      rw [e1, e1, show upd f i s i = s from if_pos rfl, show upd f i [] i = [] from if_pos rfl, List.append_nil]
      exact List.perm_append_comm
    · simp only [upd, if_neg (show n ≠ i by omega)]
      rw [← List.append_assoc]
      exact (ih (by omega)).append_right _
theorem upd_id (f : Nat → List Int) (i : Nat) : upd f i (f i) = f := by
  funext j; unfold upd; split
  · rename_i h; rw [h]
  · rfl
theorem flat_one {n : Nat} {f : Nat → List Int} {i : Nat} (h : i < n) : (flat n f).Perm (f i ++ flat n (upd f i [])) := by
  have := flat_upd (f := f) (f i) h
  rw [upd_id] at this
  exact this
theorem flat_len_upd {n : Nat} {f : Nat → List Int} {i : Nat} (s : List Int) (h : i < n) : (flat n (upd f i s)).length + (f i).length = (flat n f).length + s.length := by
  have h1 := (flat_upd (f := f) s h).length_eq
  have h2 := (flat_one (f := f) h).length_eq
  rw [List.length_append] at h1 h2
  omega
/-- An Advance that somebody hinders. -/
theorem adv_behind {n p : Nat} {m : Mm} (hp : p < n) (h0 : ∀ j, j < p → ¬ behind (m.at_ 2) (m.at_ (3 + j))) (h1 : behind (m.at_ 2) (m.at_ (3 + p))) :
    advIt n (p + 2) (AdvS.init, m) = (⟨m.at_ 2, p, false, 1, true⟩, m.add (p + 2)) ∧ (∀ j, j < p + 2 → (advIt n j (AdvS.init, m)).1.done = false) := by
  have hl : ∀ j, j ≤ p → advIt n (j + 1) (AdvS.init, m) = (⟨m.at_ 2, j, false, 1, false⟩, m.add (j + 1)) := by
    intro j
    induction j with
    | zero => intro _; rfl
    | succ j ih =>
      intro hj
      show advStep n (advIt n (j + 1) (AdvS.init, m)).2 (advIt n (j + 1) (AdvS.init, m)).1 = _
      rw [ih (by omega)]
      have hat : ∀ i, (m.add (j + 1)).at_ i = m.at_ i := fun _ => rfl
      simp only [advStep, Bool.false_eq_true, if_false, hat]
      rw [if_neg (h0 j (by omega)), if_pos (by omega)]
      rfl
  refine ⟨?_, fun j hj => ?_⟩
  · show advStep n (advIt n (p + 1) (AdvS.init, m)).2 (advIt n (p + 1) (AdvS.init, m)).1 = _
    rw [hl p (Nat.le_refl _)]
    have hat : ∀ i, (m.add (p + 1)).at_ i = m.at_ i := fun _ => rfl
    simp only [advStep, Bool.false_eq_true, if_false, hat]
    rw [if_pos h1]
    rfl
  · rcases j with _ | j
    · rfl
    · rw [hl j (by omega)]
/-- A Collect that somebody hinders, with nothing ready. -/
theorem col_behind {x : Cn} {m : Mm} {ys : List Int} {p : Nat} (hp : p < x.w) (h0 : ∀ j, j < p → ¬ behind (m.at_ 2) (m.at_ (3 + j))) (h1 : behind (m.at_ 2) (m.at_ (3 + p))) (he : m.at_ 2 < 2) :
    ∃ c', colIt x.pool x.w (p + 3) (m, SW x ys, ColS.init) = (m.add (p + 3), SW x ys, c') ∧ c'.done = true ∧ c'.g.done = true ∧ (∀ j, j < p + 3 → (colIt x.pool x.w j (m, SW x ys, ColS.init)).2.2.done = false) := by
  obtain ⟨ha, hnd⟩ := adv_behind hp h0 h1
  have hcut : cutE (m.at_ 2) < 2 := by unfold cutE; omega
  have hre : (SW x ys).ready (cutE (m.at_ 2)) = SW x ys := by rw [SW_ready, if_neg (by omega), if_neg (by omega)]; rfl
  have hg : (giveInit x.pool ([] : List Int)) = PushS.init [] := giveInit_yes ⟨List.nodup_nil, by simp⟩
  obtain ⟨e, hn⟩ := col_alone (k := x.pool) (s := SW x ys) (s1 := SW x ys) (m' := (m.add (p + 2)).tick) (p' := PushS.init []) (N2 := 0) hnd ha rfl hre.symm (by show (giveInit x.pool [], _) = _; rw [hg]) rfl (fun j hj => by omega)
  exact ⟨_, e, rfl, rfl, hn⟩
end Go.Proofs.YtnbkjcmmjgkdaaaGreat

/-
  Epochs: an Enter: it announces the epoch in two accesses.
-/
set_option linter.unusedVariables false
set_option linter.unusedSimpArgs false
namespace Go.Proofs.YtnbkjcmmjgkdaaaGreat
open Go
attribute [local irreducible] Sx Cx Rx Fx Krg Ksq Kbl Klp Kr
section
variable {L F G : St}
theorem putPin (e : Nat) (he : e < 4611686018427387904) : Fx Tryz.prog 186 [.int .i64 e] L (fun v L' => v = .tuple #[wd (2 * e + 1), .bool true] ∧ L = L') := by
  refine Fx.mk Tryz.func186 k186 (Nat.le_of_ble_eq_true rfl) ?_
  dsimp only [c186, envOf, Nat.reduceAdd]
  refine go ?_
  refine Sx.ca rfl (wordWithin _ _ _ (by omega) (by omega)) ?_
  rintro v L' ⟨rfl, rfl⟩
  refine go ?_
  rw [wrap64 (n := e) (by omega)]
  refine Sx.ca rfl (bitsPut 1 1 63 e (by omega) (by omega) (by omega) (by omega)) ?_
  rintro v L' ⟨rfl, rfl⟩
  refine go ?_
  exact Kr.two (.inr rfl) rfl rfl (Ent.refl _) ⟨by rw [show e * 2 ^ 1 + 1 = 2 * e + 1 by omega], rfl⟩
theorem epochIs {e mp : Nat} {x : Cn} (n : Nat) [t : Take L (some ⟨e, 0, none⟩) (EpO mp x) F] : Fx Tryz.prog 113 [.pointer (some ⟨e, 0, none⟩), .int .i64 n] L (fun v L' => v = .bool (decide (n < x.w)) ∧ L = L') := by
  refine Fx.mk Tryz.func113 k113 (Nat.le_of_ble_eq_true rfl) ?_
  dsimp only [c113, envOf, Nat.reduceAdd]
  refine go ?_
  refine Kr.one (.inr rfl) rfl (Ent.refl _) ⟨congrArg Value.bool (decide_eq_decide.2 (by omega)), rfl⟩
abbrev enB (b e : Nat) (nx : Value) (cnt : Int) (n : Nat) (now : Int) : As := pt (some ⟨b, 0, none⟩) (Blk 188 [nx, .nilFunc, .nilFunc, .nilFunc, .int .i64 cnt, .pointer (some ⟨e, 0, none⟩), .int .i64 n, .int .i64 now])
theorem epochEnter {e mp : Nat} {x : Cn} (n : Nat) (hn : n < x.w) [t : Take L (some ⟨e, 0, none⟩) (EpO mp x) F] : Fx Tryz.prog 51 [.pointer (some ⟨e, 0, none⟩), .int .i64 n] L
    (fun v L' => ∃ b, v = .tuple #[.pointer (some ⟨b, 0, none⟩), .int .i64 0] ∧ L' = enB b e (mth 115 b) 0 n 0 :: L) := by
  refine Fx.mk Tryz.func51 k51 (Nat.le_of_ble_eq_true rfl) ?_
  dsimp only [c51, envOf, Nat.reduceAdd]
  refine go ?_
  refine Sx.ca rfl (epochIs (e := e) (mp := mp) (x := x) n) ?_
  rintro v L' ⟨rfl, rfl⟩
  rw [decide_eq_true hn]
  refine go ?_
  refine Sx.bx rfl rfl fun b => ?_
  refine go ?_
  refine Sx.ca rfl (machGo (b := b)) ?_
  rintro v L' ⟨rfl, rfl⟩
  refine go ?_
  exact Kr.two (.inr rfl) rfl rfl (Ent.refl _) ⟨b, rfl, rfl⟩
theorem enterLoad {b e mp n : Nat} {x : Cn} {m : Mm} {cnt now : Int} (hm : m.ok) (hl : 2 < m.ws.length) :
    Fx Tryz.prog 115 [.pointer (some ⟨b, 0, none⟩)] (enB b e .nilFunc cnt n now :: pt (some ⟨e, 0, none⟩) (EpO mp x) :: pt (some ⟨mp, 0, none⟩) (MemO m) :: G)
      (fun v L' => v = .tuple #[] ∧ L' = enB b e (mth 161 b) cnt n (cutE (m.at_ 2)) :: pt (some ⟨mp, 0, none⟩) (MemO m.tick) :: pt (some ⟨e, 0, none⟩) (EpO mp x) :: G) := by
  refine Fx.mk Tryz.func115 k115 (Nat.le_of_ble_eq_true rfl) ?_
  dsimp only [c115, envOf, Nat.reduceAdd]
  refine Cx.sq ?_
  refine Cx.ordc rfl (by kernel_rfl) ?_
  refine ge ?_
  refine Ev.caH (by kernel_rfl) rfl rfl (cellsLoad (b := mp) (m := m) 2 hl) (Pres.deps (by kernel_rfl)) ?_
  rintro v L' ⟨rfl, rfl⟩
  refine ge ?_
  refine go ?_
  refine Sx.ca rfl (epochCut (m.at_ 2) (Mm.at_lt hm 2)) ?_
  rintro v L' ⟨rfl, rfl⟩
  refine go ?_
  refine Sx.ca rfl (machGo (b := b)) ?_
  rintro v L' ⟨rfl, rfl⟩
  refine go ?_
  refine Kr.none (.inl rfl) ?_ ⟨rfl, rfl⟩
  exact ent
theorem enterStore {b e mp n : Nat} {x : Cn} {m : Mm} {cnt : Int} (p : Nat) (hp : p < 4611686018427387904) (hw : x.w ≤ 64) (hn : n < x.w) (hl : 3 + n < m.ws.length) :
    Fx Tryz.prog 161 [.pointer (some ⟨b, 0, none⟩)] (enB b e .nilFunc cnt n p :: pt (some ⟨mp, 0, none⟩) (MemO m) :: pt (some ⟨e, 0, none⟩) (EpO mp x) :: G)
      (fun v L' => v = .tuple #[] ∧ L' = enB b e .nilFunc cnt n p :: pt (some ⟨mp, 0, none⟩) (MemO (m.put (3 + n) (2 * p + 1))) :: pt (some ⟨e, 0, none⟩) (EpO mp x) :: G) := by
  refine Fx.mk Tryz.func161 k161 (Nat.le_of_ble_eq_true rfl) ?_
  dsimp only [c161, envOf, Nat.reduceAdd]
  refine go ?_
  refine Sx.ca rfl (putPin p hp) ?_
  rintro v L' ⟨rfl, rfl⟩
  refine go ?_
  refine Cx.orde rfl (by kernel_rfl) ?_
  refine ge ?_
  rw [w64 (n := (3 : Int) + n) (by omega) (by omega), show (3 : Int) + n = ((3 + n : Nat) : Int) by omega]
  refine Ev.caH (by kernel_rfl) rfl rfl (cellsStore (b := mp) (m := m) (3 + n) (2 * p + 1) hl (by omega)) (Pres.deps (by kernel_rfl)) ?_
  rintro v L' ⟨rfl, rfl⟩
  refine ge ?_
  refine Kr.none (.inl rfl) ?_ ⟨rfl, rfl⟩
  exact ent
theorem enterDone {b e n : Nat} {cnt now : Int} : Fx Tryz.prog 53 [.pointer (some ⟨b, 0, none⟩)] (enB b e .nilFunc cnt n now :: G) (fun v L' => v = .bool true ∧ enB b e .nilFunc cnt n now :: G = L') := by
  refine Fx.mk Tryz.func53 k53 (Nat.le_of_ble_eq_true rfl) ?_
  dsimp only [c53, envOf, Nat.reduceAdd]
  refine go ?_
  refine Sx.ca rfl (machDoneYes (b := b)) ?_
  rintro v L' ⟨rfl, rfl⟩
  refine go ?_
  exact Kr.one (.inr rfl) rfl (Ent.refl _) ⟨rfl, rfl⟩
theorem enterStep {b e : Nat} {f : FuncId} {cnt now : Int} {n : Nat} {R : Value → St → Prop} (hc : callable Tryz.prog f = true) (hf : Fx Tryz.prog f [.pointer (some ⟨b, 0, none⟩)] (enB b e .nilFunc (IntKind.i64.wrap (cnt + 1)) n now :: G) R) :
    Fx Tryz.prog 52 [.pointer (some ⟨b, 0, none⟩)] (enB b e (mth f b) cnt n now :: G) (fun v L' => v = .bool true ∧ ∃ u, R u L') := by
  refine Fx.mk Tryz.func52 k52 (Nat.le_of_ble_eq_true rfl) ?_
  dsimp only [c52, envOf, Nat.reduceAdd]
  refine go ?_
  refine Sx.ca rfl (machStep (b := b) hc hf) ?_
  rintro v L' ⟨rfl, u, hR⟩
  refine go ?_
  exact Kr.one (.inr rfl) rfl (Ent.refl _) ⟨rfl, u, hR⟩
end
end Go.Proofs.YtnbkjcmmjgkdaaaGreat

/-
  Chunks that are retired come back, round by round.
-/
set_option linter.unusedVariables false
set_option linter.unusedSimpArgs false
namespace Go.Proofs.YtnbkjcmmjgkdaaaGreat
/-- While workers take chunks and retire them. -/
structure BP (x : Cn) (ys : Nat → List Int) (lp : List Int) (m m2 : Mm) (j : Nat) : Prop where
  len : m.ws.length = x.len
  ok : m.ok
  pool : Pool x.pool m lp
  len2 : m2.ws.length = x.len
  ok2 : m2.ok
  pool2 : Pool x.pool m2 lp
  perm : (flat x.w ys ++ lp).Perm (iotaI x.c)
  cnt : (flat x.w ys).length = j
  at_ : ∀ a, a ≠ 0 → a < x.link → m.at_ a = 0
  at2 : m2.at_ 2 = 0
theorem flat_mem_len {n i : Nat} {f : Nat → List Int} (h : i < n) : (f i).length ≤ (flat n f).length := by
  have := (flat_one (f := f) h).length_eq
  rw [List.length_append] at this
  omega
theorem BP.small {x : Cn} {ys : Nat → List Int} {lp : List Int} {m m2 : Mm} {j i : Nat} (h : BP x ys lp m m2 j) (hi : i < x.w) : (SW x (ys i)).size ≤ x.c := by
  have h1 := h.perm.length_eq
  rw [List.length_append, iotaI_len] at h1
  have h2 := flat_mem_len (f := ys) hi
  rw [SW_size]
  omega
theorem BP.take {x : Cn} {ys : Nat → List Int} {lp : List Int} {m m2 : Mm} {j i : Nat} (hx : x.ok) (hb : x.ba = 1) (h : BP x ys lp m m2 j) (hj : j < x.c) (hi : i < x.w) :
    ∃ y lp' m' m2' q q2, tkIt x.pool x.ba 40 (m, takeInit x.ba (SW x (ys i))) = (m', SW x (ys i), q) ∧ tkIt x.pool x.ba 40 (m2, takeInit x.ba (SW x [])) = (m2', SW x [], q2) ∧ q.done = true ∧ q2.done = true ∧ q.is_ = true ∧ q2.ch = q.chunk ∧ q.chunk = y ∧
      BP x (upd ys i (ys i ++ [y])) lp' m' m2' (j + 1) := by
  have hl : 5 ≤ x.link := by have := hx.b; unfold Cn.link; omega
  have h1 := h.perm.length_eq
  rw [List.length_append, iotaI_len, h.cnt] at h1
  obtain ⟨y, lp', rfl⟩ := List.exists_cons_of_ne_nil (show lp ≠ [] from fun e => by rw [e, List.length_nil] at h1; omega)
  obtain ⟨m', q, e, a1, a2, a3, a4, a5, a6, a7⟩ := SW_take (ys := ys i) hx hb h.len h.ok h.pool (by rw [h.at_ 2 (by omega) (by omega)]; omega)
  obtain ⟨m2', q2, e', c1, c2, c3, c4, c5, c6, c7⟩ := SW_take (ys := []) hx hb h.len2 h.ok2 h.pool2 (by rw [h.at2]; omega)
  refine ⟨y, lp', m', m2', q, q2, e, e', a1, c1, a2, ?_, a3, a4, a5, a6, c4, c5, c6, ?_, ?_, fun a h0 ha => (a7 a h0).trans (h.at_ a h0 ha), (c7 2 (by omega)).trans h.at2⟩
  · unfold TakeS.ch; rw [if_pos c2, c3, a3]
  · refine List.Perm.trans ?_ h.perm
    have p1 := flat_upd (f := ys) (ys i ++ [y]) hi
    have p2 := flat_one (f := ys) hi
    refine (p1.append_right lp').trans ?_
    refine List.Perm.trans ?_ (p2.symm.append_right (y :: lp'))
    rw [List.append_assoc, List.append_assoc, List.append_assoc]
    refine List.Perm.append_left _ ?_
    rw [List.singleton_append]
    exact List.perm_middle.symm
  · have := flat_len_upd (f := ys) (ys i ++ [y]) hi
    rw [List.length_append, List.length_singleton] at this
    have := h.cnt
    omega
/-- While workers collect: the epoch, who is pinned (the last one, at 0, or nobody). -/
structure CB (x : Cn) (pin : Bool) (ys : Nat → List Int) (l : List Int) (m : Mm) (e : Nat) : Prop where
  len : m.ws.length = x.len
  ok : m.ok
  pool : Pool x.pool m l
  perm : (flat x.w ys ++ l).Perm (iotaI x.c)
  ep : m.at_ 2 = e
  pins : ∀ j, j < x.w → m.at_ (3 + j) = if pin = true ∧ j + 1 = x.w then 1 else 0
theorem CB.small {x : Cn} {pin : Bool} {ys : Nat → List Int} {l : List Int} {m : Mm} {e i : Nat} (h : CB x pin ys l m e) (hi : i < x.w) : (SW x (ys i)).size ≤ x.c := by
  have h1 := h.perm.length_eq
  rw [List.length_append, iotaI_len] at h1
  have h2 := flat_mem_len (f := ys) hi
  rw [SW_size]
  omega
theorem CB.step {x : Cn} {pin : Bool} {ys : Nat → List Int} {l : List Int} {m : Mm} {e i : Nat} (hx : x.ok) (hc8 : x.c ≤ 8) (h : CB x pin ys l m e) (hi : i < x.w) (he : e < 1000) (hp : pin = true → e ≤ 1) :
    ∃ N m' c' ys' l' e', N < 400 ∧ colIt x.pool x.w N (m, SW x (ys i), ColS.init) = (m', SW x (ys' i), c') ∧ c'.done = true ∧ c'.g.done = true ∧ (∀ j, j < N → (colIt x.pool x.w j (m, SW x (ys i), ColS.init)).2.2.done = false) ∧
      ys' = upd ys i (ys' i) ∧ (m'.ok → CB x pin ys' l' m' e') ∧ e' = (if pin = true then 1 else e + 1) ∧ ys' i = (if pin = true then ys i else if 1 ≤ e then [] else ys i) := by
  obtain ⟨b1, b2, b3, b4, b5, b6, b7⟩ := hx.b
  have hlw : 3 + x.w ≤ x.link := by unfold Cn.link; omega
  have hsl : x.slot + x.sl = x.link := by unfold Cn.slot Cn.link; omega
  have hbeh : ∀ j, j < x.w → (behind (m.at_ 2) (m.at_ (3 + j)) ↔ pin = true ∧ j + 1 = x.w ∧ e ≠ 0) := fun j hj => by
    rw [h.pins j hj, h.ep]
    unfold behind pinI cutE
    split
    · rename_i hh
      constructor
      · intro hb; exact ⟨hh.1, hh.2, by have := hb.2; omega⟩
      · intro hb; exact ⟨by omega, by have := hb.2.2; omega⟩
    · rename_i hh
      constructor
      · intro hb; omega
      · intro hb; exact absurd ⟨hb.1, hb.2.1⟩ hh
  by_cases hbl : pin = true ∧ e ≠ 0
  · have he1 : e = 1 := by have := hp hbl.1; have := hbl.2; omega
    obtain ⟨c', e1, d1, d2, d3⟩ := col_behind (x := x) (m := m) (ys := ys i) (p := x.w - 1) (by omega) (fun j hj hb => by have := ((hbeh j (by omega)).1 hb).2.1; omega) ((hbeh _ (by omega)).2 ⟨hbl.1, by omega, hbl.2⟩) (by rw [h.ep]; omega)
    refine ⟨_, _, c', ys, l, e, by omega, e1, d1, d2, d3, (upd_id ys i).symm, fun hmk => ⟨h.len, hmk, h.pool.congr rfl fun _ _ => rfl, h.perm, h.ep, h.pins⟩, by rw [if_pos hbl.1, he1], by rw [if_pos hbl.1]⟩
  · have hnb : ∀ j, j < x.w → ¬ behind (m.at_ 2) (m.at_ (3 + j)) := fun j hj hb => hbl ⟨((hbeh j hj).1 hb).1, ((hbeh j hj).1 hb).2.2⟩
    have hcut : cutE ((m.at_ 2 + 1) % 18446744073709551616) = (e : Int) + 1 := by rw [h.ep]; unfold cutE; omega
    have hnd : (flat x.w ys ++ l).Nodup := h.perm.nodup_iff.2 (iota_nodup _)
    have hrg : ∀ z ∈ flat x.w ys ++ l, 0 ≤ z ∧ z < (x.c : Int) := fun z hz => iotaI_mem (h.perm.mem_iff.1 hz)
    have hp1 := (flat_one (f := ys) hi).append_right l
    have hnd1 := hp1.nodup_iff.1 hnd
    obtain ⟨xs, hxs⟩ : ∃ xs, xs = (if (2 : Int) ≤ e + 1 then ys i else []) := ⟨_, rfl⟩
    have hsub : ∀ z ∈ xs, z ∈ ys i := fun z hz => by rw [hxs] at hz; split at hz; exact hz; cases hz
    have hysnd : (ys i).Nodup := (List.nodup_append.1 (List.nodup_append.1 hnd1).1).1
    have hxnd : xs.Nodup := by rw [hxs]; split; exact hysnd; exact List.nodup_nil
    have hdj : ∀ z ∈ xs, z ∉ l := fun z hz hz2 => (List.nodup_append.1 hnd1).2.2 z (List.mem_append_left _ (hsub z hz)) z hz2 rfl
    have hxr : ∀ z ∈ xs, 0 ≤ z ∧ z < (x.c : Int) := fun z hz => hrg z (hp1.mem_iff.2 (List.mem_append_left _ (List.mem_append_left _ (hsub z hz))))
    obtain ⟨N, m', c', hN, e1, d1, d2, d3, _, d5, d6, d7, d8, _, d10⟩ := col_free (x := x) (m := m) (s := SW x (ys i)) (l := l) (xs := xs) hx h.len h.ok h.pool hnb (by rw [hcut, SW_ready, hxs]) hxnd hxr hdj
    have hxl : xs.length ≤ 8 := by
      have := h.perm.length_eq
      rw [List.length_append, iotaI_len] at this
      have := flat_mem_len (f := ys) hi
      have : xs.length ≤ (ys i).length := by rw [hxs]; split <;> simp
      omega
    have hyi : upd ys i (if (2 : Int) ≤ e + 1 then [] else ys i) i = if (2 : Int) ≤ e + 1 then [] else ys i := if_pos rfl
    have hpe : pin = true → e = 0 := fun hpt => Classical.byContradiction fun hne => hbl ⟨hpt, hne⟩
    refine ⟨N, m', c', upd ys i (if (2 : Int) ≤ e + 1 then [] else ys i), xs ++ l, e + 1, ?_, ?_, d1, d2, d5, by rw [hyi], fun hmk => ⟨d6, hmk, d7, ?_, by rw [d8, h.ep]; omega, fun j hj => ?_⟩, ?_, ?_⟩
    · rw [hN]; split <;> omega
    · rw [e1, hcut, SW_ready, hyi]; rfl
    · refine List.Perm.trans ?_ h.perm
      refine ((flat_upd (f := ys) _ hi).append_right _).trans (List.Perm.trans ?_ hp1.symm)
      rw [hxs]
      split
      · rw [List.nil_append, ← List.append_assoc]; exact List.perm_append_comm.append_right _
      · exact List.Perm.refl _
    · rw [d10 (3 + j) (by omega) (by omega) (fun z _ => by omega)]; exact h.pins j hj
    · split
      · rename_i hpt; rw [hpe hpt]
      · rfl
    · rw [hyi]
      by_cases hpt : pin = true
      · rw [if_pos hpt, if_neg (by have := hpe hpt; omega)]
      · rw [if_neg hpt]
        by_cases h1 : 1 ≤ e
        · rw [if_pos h1, if_pos (by omega)]
        · rw [if_neg h1, if_neg (by omega)]
end Go.Proofs.YtnbkjcmmjgkdaaaGreat

/-
  GatherBack's walk.
-/
set_option linter.unusedVariables false
set_option linter.unusedSimpArgs false
namespace Go.Proofs.YtnbkjcmmjgkdaaaGreat
open Go
attribute [local irreducible] Sx Cx Rx Fx Krg Ksq Kbl Klp Kr
section
variable {L F G : St}
abbrev gaR (x : Cn) (n : Gn) (k : Nat) (Q : Nat → Who) (S S2 : Nat → SupS) (i : Nat) (G : St) : St :=
  pt (some ⟨n.pb, 0, none⟩) (SkO n.mp x.pool) :: pt (some ⟨n.te, 0, none⟩) (EpO n.mp x) :: pt (some ⟨n.g, 0, none⟩) (GaO n.mp n.e) :: pt (some ⟨n.e, 0, none⟩) (EpO n.mp x) ::
      pt (some ⟨n.rs, 0, none⟩) (RSkO n.rm x.spare) :: pt (some ⟨n.re, 0, none⟩) (REpO x n.rm) :: (many k (updS (fun i => whoL n.mp n.w x (Q i) (S i) (S2 i)) i []) ++ G)
theorem gaF_back {x : Cn} {n : Gn} {r r2 k c c2 : Nat} {Q : Nat → Who} {S S2 S' S2' : Nat → SupS} {m m2 : Mm} {i : Nat} (hi : i < k) (h1 : ∀ j, j ≠ i → S' j = S j) (h2 : ∀ j, j ≠ i → S2' j = S2 j) :
    Ent (gtF x n r r2 k c c2 Q i (S' i) (S2' i) m m2 (gaR x n k Q S S2 i G)) (gaF x n (some ⟨r, 0, none⟩) (some ⟨r2, 0, none⟩) k c c2 Q S' S2' m m2 G) := by
  have e : updS (fun i => whoL n.mp n.w x (Q i) (S i) (S2 i)) i [] = updS (fun i => whoL n.mp n.w x (Q i) (S' i) (S2' i)) i [] := by
    funext j
    unfold updS
    split
    · rfl
    · rename_i hj; simp only [h1 j hj, h2 j hj]
  have hb := Ent.ithBack (n := k) (f := fun i => whoL n.mp n.w x (Q i) (S' i) (S2' i)) (G := G) (s := whoL n.mp n.w x (Q i) (S' i) (S2' i)) (i := i) hi
    (N := [pt (some ⟨n.a, 0, none⟩) (Blk 80 (gaV x n (some ⟨r, 0, none⟩) (some ⟨r2, 0, none⟩) k c c2)), pt (some ⟨r, 0, none⟩) (Row 39 1 k c (ptrs k fun i => (Q i).u)), pt (some ⟨r2, 0, none⟩) (Row 89 1 k c2 (ptrs k fun i => (Q i).s)),
      pt (some ⟨n.mp, 0, none⟩) (MemO m), pt (some ⟨n.pb, 0, none⟩) (SkO n.mp x.pool), pt (some ⟨n.te, 0, none⟩) (EpO n.mp x), pt (some ⟨n.g, 0, none⟩) (GaO n.mp n.e), pt (some ⟨n.e, 0, none⟩) (EpO n.mp x),
      pt (some ⟨n.w, 0, none⟩) (RWO x n.rm n.rp n.rs n.re), pt (some ⟨n.rm, 0, none⟩) (RMemO m2), pt (some ⟨n.rp, 0, none⟩) (RSkO n.rm x.pool), pt (some ⟨n.rs, 0, none⟩) (RSkO n.rm x.spare), pt (some ⟨n.re, 0, none⟩) (REpO x n.rm)])
  have hid := updS_id (fun i => whoL n.mp n.w x (Q i) (S' i) (S2' i)) i
  rw [hid] at hb
  unfold gtF gaR gaF
  rw [e]
  refine Ent.trans ?_ hb
  simp only [whoL, List.cons_append, List.nil_append]
  exact ent
set_option maxHeartbeats 8000000 in
theorem gatherBack (n many_ : Int) (pin : Bool) : Fx Tryz.prog 8 [.int .i64 n, .int .i64 many_, .bool pin] L (fun v L' => v = .bool true ∧ Ent L' L) := by
  refine Fx.mk Tryz.func8 k8 (Nat.le_of_ble_eq_true rfl) ?_
  dsimp only [c8, envOf, Nat.reduceAdd]
  refine go ?_
  refine Sx.ca rfl gaFirst ?_
  rintro v L' ⟨rfl, rfl⟩
  refine go ?_
  refine Sx.ca rfl (config_ n) ?_
  rintro v L' ⟨⟨w, c, wd, sl, ca, ba, rfl, hsm⟩, rfl⟩
  obtain ⟨x0, hxv, hx0, hca0, hc80, hba0, hw40⟩ := small_cfg hsm
  rw [hxv]
  clear hxv hsm
  clear w c wd sl ca ba
  refine Sx.al fun g0 => ?_
  refine Sx.st (b := g0) rfl rfl rfl rfl rfl rfl ?_
  dsimp only [lay]
  refine go ?_
  obtain ⟨x, hxe⟩ : ∃ x : Cn, x = { x0 with ba := 1 } := ⟨_, rfl⟩
  have hx : x.ok := by rw [hxe]; obtain ⟨h1, h2, h3, h4, h5, h6, h7⟩ := hx0; exact ⟨h1, h2, h3, h4, h5, h6, by show (1 : Int) ≤ (1 : Nat) ∧ ((1 : Nat) : Int) ≤ 8; omega⟩
  have hba : x.ba = 1 := by rw [hxe]
  have hc8 : x.c ≤ 8 := by rw [hxe]; exact hc80
  have hw4 : x.w ≤ 4 := by rw [hxe]; exact hw40
  obtain ⟨b1, b2, b3, b4, b5, b6, b7⟩ := hx.b
  have hlen := hx.len_le
  have hpl := poolM_len x
  have hl3 : 3 + x.w ≤ x.len := by unfold Cn.len; omega
  have hlk : 5 ≤ x.link := by unfold Cn.link; omega
  have hlw : 3 + x.w ≤ x.link := by unfold Cn.link; omega
  refine Sx.ent (Ent.drop (L := L)) ?_
  refine Sx.ca (vs := [x.v]) (by rw [hxe]; rfl) (gaMade hx) ?_
  rintro v L' ⟨gn, r, r2, c, c2, Q, rfl, rfl⟩
  rw [← SW_nil x]
  dsimp only [gaF]
  refine go ?_
  have hk1 := Int.emod_nonneg many_ (show (x.c : Int) + 1 ≠ 0 by omega)
  have hk2 := Int.emod_lt_of_pos many_ (show (0 : Int) < (x.c : Int) + 1 by omega)
  obtain ⟨K, hK⟩ : ∃ K : Nat, many_ % ((x.c : Int) + 1) = K := ⟨(many_ % ((x.c : Int) + 1)).toNat, by omega⟩
  have hp0 : Pool x.pool (poolM x) (iotaI x.c) := (fill_pool (hx.pool (Nat.le_refl _) hlen) (by rw [zeroM_len])).1
  have hpok : (poolM x).ok := fillM_ok (fun w hw => by simp only [zeroM] at hw; rw [List.eq_of_mem_replicate hw]; omega) (by show x.c ≤ 4096; omega)
  have hpok2 : (fillM x.spare (poolM x)).ok := fillM_ok hpok (by show x.sl ≤ 4096; omega)
  have hA0 : Agree (NoSlots x) (poolM x) (fillM x.spare (poolM x)) := by
    have hsp := hx.spare (n := (poolM x).ws.length) (by omega) (by omega)
    refine ⟨fillM_len _ _, fillM_n _ _, fun a ha => ?_⟩
    refine (fill_pool hsp rfl).2 a ha.1 fun j hj => ?_
    have hj' : j < x.sl := hj
    rcases ha.2 with h | h
    · show a ≠ x.slot + j; omega
    · show a ≠ x.slot + j; omega
  have hf0 : ∀ k, flat k (fun _ => ([] : List Int)) = [] := fun k => by induction k with | zero => rfl | succ k ih => rw [flat_succ, ih]; rfl
  have hB0 : BP x (fun _ => []) (iotaI x.c) (poolM x) (fillM x.spare (poolM x)) 0 := by
    refine ⟨hpl, hpok, hp0, hA0.len.trans hpl, hpok2, hp0.congr (hA0.at_ _ (noSlots_covers (x := x)).h) fun i hi => hA0.at_ _ ((noSlots_covers (x := x)).l i hi), by rw [hf0]; exact List.Perm.refl _, by rw [hf0]; rfl, fun a h0 ha => poolM_at hx a h0 ha, ?_⟩
    rw [hA0.at_ 2 noSlots_two]
    exact poolM_at hx 2 (by omega) (by omega)
  refine Cx.lp (α := {p : Nat × (Nat → List Int) × List Int × Mm × Mm // p.1 ≤ K ∧ BP x p.2.1 p.2.2.1 p.2.2.2.1 p.2.2.2.2 p.1})
    (fun p => [(1, .int .i64 many_), (2, .bool pin), (7, .bool true), (9, .pointer (some ⟨gn.a, 0, none⟩)), (10, .int .i64 (x.w : Nat)), (11, .int .i64 (p.1.1 : Nat)), (12, .int .i64 (p.1.1 : Nat))])
    (fun p => gaF x gn (some ⟨r, 0, none⟩) (some ⟨r2, 0, none⟩) x.w c c2 Q (fun w => SW x (p.1.2.1 w)) (fun _ => SW x []) p.1.2.2.2.1 p.1.2.2.2.2 L)
    (fun p => K - p.1.1) ⟨(0, fun _ => [], iotaI x.c, poolM x, fillM x.spare (poolM x)), Nat.zero_le _, hB0⟩ (sub.cons rfl (sub.cons rfl (sub.cons rfl (sub.cons rfl (sub.cons rfl (sub.cons rfl (sub.cons rfl sub.nil))))))) ?_ ?_
  · dsimp only [gaF]
    exact ent
  rintro ⟨⟨j, ys, lp, m, m2⟩, hj, hB⟩
  dsimp only [gaF] at hj hB ⊢
  refine go ?_
  rw [w64 (n := (x.c : Int) + 1) (by omega) (by omega)]
  refine Sx.ca rfl (number many_ ((x.c : Int) + 1) (by omega) (by omega)) ?_
  rintro v L' ⟨rfl, rfl⟩
  rw [hK]
  refine go ?_
  refine Cx.ifp rfl (fun h => ?_) (fun h => ?_)
  · have hmod : j % x.w < x.w := Nat.mod_lt _ (by omega)
    have hsz := hB.small hmod
    obtain ⟨y, lp', m', m2', q, q2, e1, e2, d1, d2, his, hch, hqy, hB'⟩ := hB.take hx hba (by omega) hmod
    have ct := gaTake2 (x := x) (n := gn) (r := r) (r2 := r2) (k := x.w) (c := c) (c2 := c2) (Q := Q) (S := SW x (ys (j % x.w))) (S2 := SW x []) (m := m) (m2 := m2) (i := j % x.w) (G := gaR x gn x.w Q (fun w => SW x (ys w)) (fun _ => SW x []) (j % x.w) L) hmod (by omega) hx hB.len hB.len2 hB.ok hB.ok2 (by omega) (by rw [SW_size]; simp) (by rw [e1]; exact d1) (by rw [e2]; exact d2) (fun _ => by rw [e1, e2]; exact hch)
    rw [e1, e2] at ct
    dsimp only at ct
    rw [his, hqy] at ct
    refine go ?_
    refine Sx.pv rfl (show (x.w : Int) ≠ 0 by omega) ?_
    rw [natTmod]
    refine go ?_
    refine Sx.ent (gaF_ith (S := fun w => SW x (ys w)) (S2 := fun _ => SW x []) (j % x.w) hmod) ?_
    refine Sx.ca rfl ct ?_
    rintro v L' ⟨rfl, rfl⟩
    dsimp only [gtF]
    refine go ?_
    refine Cx.ordc rfl (by kernel_rfl) ?_
    refine ge ?_
    refine Ev.pvH (by kernel_rfl) rfl rfl (show (x.w : Int) ≠ 0 by omega) ?_
    rw [natTmod]
    refine ge ?_
    have hget : (ptrs x.w fun i => (Q i).u)[0 + ((j % x.w : Nat) : Int).toNat * 1]? = some (.pointer (some ⟨(Q (j % x.w)).u, 0, none⟩)) := by rw [show 0 + ((j % x.w : Nat) : Int).toNat * 1 = j % x.w by omega]; exact ptrs_get (U := fun i => (Q i).u) hmod
    have hrow : ∀ (L0 : St) (F0 : St) [Take L0 (some ⟨r, 0, none⟩) (Row 39 1 x.w c (ptrs x.w fun i => (Q i).u)) F0], Has L0 r (0 + ((j % x.w : Nat) : Int).toNat * 1) [.pointer (some ⟨(Q (j % x.w)).u, 0, none⟩)] := fun L0 F0 _ =>
      (Has.row (E := 39) (sz := 1) (n := x.w) (cap := c) (xs := ptrs x.w fun i => (Q i).u) (m := 1)).one (take_one hget)
    refine Ev.ldrH (b := r) (v := .pointer (some ⟨(Q (j % x.w)).u, 0, none⟩)) (by kernel_rfl) rfl rfl hget ?_
    refine ge ?_
    refine Ev.bsH (sz := 1) (by kernel_rfl) rfl rfl rfl (.keep (fun v L' ⟨_, _, e⟩ => by subst e; exact hrow _ _) (.keep (fun v L' ⟨_, _, e⟩ => by subst e; exact Has.cell rfl) .nil)) fun qb => ?_
    refine ge ?_
    obtain ⟨z1, z2, z3⟩ := lmOf_retire (ys (j % x.w)) y
    have hsz2 : (lmOf (ys (j % x.w))).size ≤ 8 := by unfold SupS.size SW at hsz; simp only at hsz; omega
    refine Ev.caH (by kernel_rfl) rfl rfl (supRetire (u := (Q (j % x.w)).u) (mp := gn.mp) (pb := (Q (j % x.w)).pb) (x := x) (s := SW x (ys (j % x.w))) (tag := 0) (ys := [y]) (Rd.row (b := qb) (E := 3) (cap := 1) rfl) (by show (lmOf (ys (j % x.w))).size + 1 ≤ _; omega) (by simp [SW])) (Pres.deps (by kernel_rfl)) ?_
    rintro v L' (⟨hno, _, _⟩ | ⟨_, rfl, rfl⟩)
    · exact absurd hno z3
    rw [show (SW x (ys (j % x.w))).lm = lmOf (ys (j % x.w)) from rfl, z1, z2, show (⟨(SW x (ys (j % x.w))).most, (SW x (ys (j % x.w))).xs ++ [], lmOf (ys (j % x.w) ++ [y])⟩ : SupS) = SW x (ys (j % x.w) ++ [y]) from rfl]
    refine ge ?_
    refine go ?_
    rw [w64 (n := (j : Int) + 1) (by omega) (by omega)]
    refine Klp.nm ⟨(j + 1, upd ys (j % x.w) (ys (j % x.w) ++ [y]), lp', m', m2'), by dsimp only; omega, hB'⟩ (sub.cons rfl (sub.cons rfl (sub.cons rfl (sub.cons rfl (sub.cons rfl (sub.cons rfl (sub.cons rfl sub.nil))))))) ?_ (by dsimp only; omega)
    dsimp only
    have hbk := gaF_back (x := x) (n := gn) (r := r) (r2 := r2) (k := x.w) (c := c) (c2 := c2) (Q := Q) (S := fun w => SW x (ys w)) (S2 := fun _ => SW x []) (S' := fun w => SW x (upd ys (j % x.w) (ys (j % x.w) ++ [y]) w)) (S2' := fun _ => SW x []) (m := m') (m2 := m2') (i := j % x.w) (G := L) hmod (fun w hw => by simp only [upd]; rw [if_neg hw]) (fun _ _ => rfl)
    rw [show upd ys (j % x.w) (ys (j % x.w) ++ [y]) (j % x.w) = ys (j % x.w) ++ [y] from if_pos rfl] at hbk
    refine Ent.trans ?_ hbk
    exact ent
  · obtain rfl : j = K := by omega
    refine go ?_
    refine Cx.jn (β := {m3 : Mm // CB x pin ys lp m3 0}) (fun _ => [(2, .bool pin), (7, .bool true), (9, .pointer (some ⟨gn.a, 0, none⟩)), (10, .int .i64 (x.w : Nat)), (11, .int .i64 (j : Nat))])
      (fun m3 => gaF x gn (some ⟨r, 0, none⟩) (some ⟨r2, 0, none⟩) x.w c c2 Q (fun w => SW x (ys w)) (fun _ => SW x []) m3.1 m2 L) ?_ ?_
    · refine Cx.cd rfl (fun hpn => ?_) (fun hpn => ?_)
      · refine go ?_
        rw [w64 (n := (x.w : Int) - 1) (by omega) (by omega), show (x.w : Int) - 1 = ((x.w - 1 : Nat) : Int) by omega]
        refine Sx.ca rfl (epochEnter (e := gn.te) (mp := gn.mp) (x := x) (x.w - 1) (by omega)) ?_
        rintro v L' ⟨b, rfl, rfl⟩
        refine go ?_
        refine Sx.ent (Ent.cons (Ent.trans (Ent.take (a := some ⟨gn.te, 0, none⟩)) (Ent.cons (Ent.take (a := some ⟨gn.mp, 0, none⟩))))) ?_
        refine Sx.ca rfl (enterStep (b := b) (by kernel_rfl) (enterLoad (b := b) (e := gn.te) (mp := gn.mp) (x := x) (m := m) hB.ok (by rw [hB.len]; omega))) ?_
        rintro v L' ⟨rfl, u, _, rfl⟩
        rw [hB.at_ 2 (by omega) (by omega), show cutE 0 = ((0 : Nat) : Int) from rfl]
        refine go ?_
        refine Sx.ca rfl (enterStep (b := b) (by kernel_rfl) (enterStore (b := b) (e := gn.te) (mp := gn.mp) (x := x) (m := m.tick) 0 (by omega) (by omega) (by omega) (by show 3 + (x.w - 1) < m.ws.length; rw [hB.len]; omega))) ?_
        rintro v L' ⟨rfl, u2, _, rfl⟩
        refine go ?_
        refine Sx.ca rfl (enterDone (b := b)) ?_
        rintro v L' ⟨rfl, rfl⟩
        refine go ?_
        refine Kjn.nm ⟨m.tick.put (3 + (x.w - 1)) (2 * 0 + 1), ?_⟩ (sub.cons rfl (sub.cons rfl (sub.cons rfl (sub.cons rfl (sub.cons rfl sub.nil))))) ?_
        · have hat : ∀ a, (m.tick.put (3 + (x.w - 1)) (2 * 0 + 1)).at_ a = if 3 + (x.w - 1) = a then 1 else m.at_ a := fun a => by rw [Mm.at_put _ (by show 3 + (x.w - 1) < m.ws.length; rw [hB.len]; omega)]; rfl
          refine ⟨by rw [Mm.len_put]; exact hB.len, Mm.ok_put hB.ok (by omega), hB.pool.congr ?_ fun i hi => ?_, hB.perm, ?_, fun i hi => ?_⟩
          · rw [hat, if_neg (by show ¬ 3 + (x.w - 1) = 0; omega)]
          · rw [hat, if_neg (by show ¬ 3 + (x.w - 1) = x.link + i; omega)]
          · rw [hat, if_neg (by omega)]; exact hB.at_ 2 (by omega) (by omega)
          · rw [hat]
            by_cases hl : i + 1 = x.w
            · rw [if_pos (by omega), if_pos ⟨hpn, hl⟩]
            · rw [if_neg (by omega), if_neg (fun hh => hl hh.2)]; exact hB.at_ _ (by omega) (by omega)
        · dsimp only [gaF]
          exact ent
      · refine go ?_
        refine Kjn.nm ⟨m, ?_⟩ (sub.cons rfl (sub.cons rfl (sub.cons rfl (sub.cons rfl (sub.cons rfl sub.nil))))) ?_
        · exact ⟨hB.len, hB.ok, hB.pool, hB.perm, hB.at_ 2 (by omega) (by omega), fun i hi => by rw [if_neg (fun hh => absurd (hh.1.symm.trans hpn) (by simp))]; exact hB.at_ _ (by omega) (by omega)⟩
        · exact ent
    rintro ⟨m3, hC⟩
    dsimp only [gaF]
    have hcnt := hB.cnt
    clear hB
    have hcl := hC.perm.length_eq
    rw [List.length_append, iotaI_len, hcnt] at hcl
    have hC0 : ∀ w, w < x.w → (ys w).length ≤ 8 := fun w hw => by have := flat_mem_len (f := ys) hw; omega
    refine go ?_
    refine Cx.lp (α := {p : Nat × (Nat → List Int) × List Int × Mm × Nat // p.1 ≤ 3 * x.w ∧ CB x pin p.2.1 p.2.2.1 p.2.2.2.1 p.2.2.2.2 ∧ (pin = true → p.2.1 = ys ∧ p.2.2.2.2 = min p.1 1) ∧ (pin = false → p.2.2.2.2 = p.1 ∧ ∀ i', i' < p.1 → 1 ≤ i' → p.2.1 (i' % x.w) = [])})
      (fun p => [(2, .bool pin), (7, .bool true), (9, .pointer (some ⟨gn.a, 0, none⟩)), (10, .int .i64 (x.w : Nat)), (11, .int .i64 (j : Nat)), (17, .int .i64 (p.1.1 : Nat))])
      (fun p => gaF x gn (some ⟨r, 0, none⟩) (some ⟨r2, 0, none⟩) x.w c c2 Q (fun w => SW x (p.1.2.1 w)) (fun _ => SW x []) p.1.2.2.2.1 m2 L)
      (fun p => 3 * x.w - p.1.1) ⟨(0, ys, lp, m3, 0), Nat.zero_le _, hC, fun _ => ⟨rfl, rfl⟩, fun _ => ⟨rfl, fun i' h _ => absurd h (by omega)⟩⟩ (sub.cons rfl (sub.cons rfl (sub.cons rfl (sub.cons rfl (sub.cons rfl (sub.cons rfl sub.nil)))))) ?_ ?_
    · dsimp only [gaF]
      exact ent
    rintro ⟨⟨i, ys1, l1, m4, e⟩, hi, hC1, hP1, hP2⟩
    dsimp only [gaF] at hi hC1 hP1 hP2 ⊢
    refine go ?_
    rw [w64 (n := (3 : Int) * x.w) (by omega) (by omega)]
    refine Cx.ifp rfl (fun h2 => ?_) (fun h2 => ?_)
    · have hmod : i % x.w < x.w := Nat.mod_lt _ (by omega)
      have hsz := hC1.small hmod
      have he : e < 1000 := by
        cases pin with
        | true => have := (hP1 rfl).2; omega
        | false => have := (hP2 rfl).1; omega
      obtain ⟨N, m', c', ys', l', e', hN, e1, d1, d2, d3, d4, d5, d6, d7⟩ := hC1.step hx hc8 hmod he (fun hp => by have := (hP1 hp).2; omega)
      have cc := gaCollects (x := x) (n := gn) (r := r) (r2 := some ⟨r2, 0, none⟩) (k := x.w) (c := c) (c2 := c2) (pb := (Q (i % x.w)).pb) (Q := Q) (s := SW x (ys1 (i % x.w))) (m := m4) (i := i % x.w) (G := pt (some ⟨r2, 0, none⟩) (Row 89 1 x.w c2 (ptrs x.w fun i => (Q i).s)) ::
        pt (some ⟨gn.w, 0, none⟩) (RWO x gn.rm gn.rp gn.rs gn.re) :: pt (some ⟨gn.rm, 0, none⟩) (RMemO m2) :: pt (some ⟨gn.rp, 0, none⟩) (RSkO gn.rm x.pool) :: pt (some ⟨(Q (i % x.w)).s, 0, none⟩) (RSupO gn.w (SW x [])) :: pt (some ⟨gn.pb, 0, none⟩) (SkO gn.mp x.pool) :: pt (some ⟨gn.te, 0, none⟩) (EpO gn.mp x) ::
        pt (some ⟨gn.rs, 0, none⟩) (RSkO gn.rm x.spare) :: pt (some ⟨gn.re, 0, none⟩) (REpO x gn.rm) :: (many x.w (updS (fun i => whoL gn.mp gn.w x (Q i) (SW x (ys1 i)) (SW x [])) (i % x.w) []) ++ L)) N hmod (by omega) hN hx (by rw [hC1.len]; exact Nat.le_refl _)
        (by have := hsz; unfold SupS.size at this; omega) d3 (by rw [e1]; exact d1) (by rw [e1]; exact d2)
      rw [e1] at cc
      dsimp only at cc
      refine go ?_
      refine Sx.pv rfl (show (x.w : Int) ≠ 0 by omega) ?_
      rw [natTmod]
      refine go ?_
      refine Sx.ent (gaF_ith (S := fun w => SW x (ys1 w)) (S2 := fun _ => SW x []) (i % x.w) hmod) ?_
      refine Sx.ent ?_ (Sx.ca rfl cc ?_)
      · dsimp only [gtF]
        exact ent
      rintro v L' ⟨rfl, rfl⟩
      refine Sx.pure (memKey (b := gn.mp) (m := m')) fun hmk => ?_
      refine go ?_
      rw [w64 (n := (i : Int) + 1) (by omega) (by omega)]
      refine Klp.nm ⟨(i + 1, ys', l', m', e'), by dsimp only; omega, d5 hmk.1, fun hp => ?_, fun hp => ?_⟩ (sub.cons rfl (sub.cons rfl (sub.cons rfl (sub.cons rfl (sub.cons rfl (sub.cons rfl sub.nil)))))) ?_ (by dsimp only; omega)
      · dsimp only
        rw [if_pos hp] at d6 d7
        rw [d4, d7, upd_id]
        exact ⟨(hP1 hp).1, by omega⟩
      · dsimp only
        obtain ⟨q1, q2⟩ := hP2 hp
        rw [if_neg (by rw [hp]; simp)] at d6 d7
        refine ⟨by omega, fun i' hi' h1 => ?_⟩
        by_cases hii : i' % x.w = i % x.w
        · rw [hii, d7]
          split
          · rfl
          · rename_i hne
            by_cases hlt : i' < i
            · rw [← hii]; exact q2 i' hlt h1
            · omega
        · rw [d4]
          unfold upd
          rw [if_neg hii]
          refine q2 i' ?_ h1
          by_cases hlt : i' < i
          · exact hlt
          · exact absurd (by rw [show i' = i by omega]) hii
      dsimp only
      have hbk := gaF_back (x := x) (n := gn) (r := r) (r2 := r2) (k := x.w) (c := c) (c2 := c2) (Q := Q) (S := fun w => SW x (ys1 w)) (S2 := fun _ => SW x []) (S' := fun w => SW x (ys' w)) (S2' := fun _ => SW x []) (m := m') (m2 := m2) (i := i % x.w) (G := L) hmod (fun w hw => by rw [d4]; simp only [upd]; rw [if_neg hw]) (fun _ _ => rfl)
      refine Ent.trans ?_ hbk
      unfold gtF gaR
      exact ent
    · obtain rfl : i = 3 * x.w := by omega
      have hys : (flat x.w ys1).length = if pin = true then j else 0 := by
        cases hpn : pin with
        | true => rw [(hP1 hpn).1, hcnt]; rfl
        | false =>
          have := (hP2 hpn).2
          rw [flat_congr (g := fun _ => []) fun w hw => by
            have h3 := this (w + x.w) (by omega) (by omega)
            rw [Nat.add_mod_right, Nat.mod_eq_of_lt hw] at h3
            exact h3, hf0]
          rfl
      have hep : e = if pin = true then 1 else 3 * x.w := by
        cases hpn : pin with
        | true => have := (hP1 hpn).2; rw [if_pos rfl]; omega
        | false => rw [if_neg (by simp)]; exact (hP2 hpn).1
      have hll := hC1.perm.length_eq
      rw [List.length_append, iotaI_len] at hll
      have hyl : ∀ w, w < x.w → (ys1 w).length ≤ 8 := fun w hw => by have := flat_mem_len (f := ys1) hw; omega
      have hfl : ∀ p, p ≤ x.w → (flat p ys1).length ≤ 100 := fun p hp => by
        have : ∀ p, p ≤ x.w → (flat p ys1).length ≤ 8 * p := by
          intro p
          induction p with
          | zero => intro _; simp [flat]
          | succ p ih => intro hp; rw [flat_succ, List.length_append]; have := ih (by omega); have := hyl p (by omega); omega
        have := this p hp; omega
      refine go ?_
      refine Cx.lp (α := {p : Nat // p ≤ x.w})
        (fun p => [(2, .bool pin), (7, .bool true), (9, .pointer (some ⟨gn.a, 0, none⟩)), (10, .int .i64 (x.w : Nat)), (11, .int .i64 (j : Nat)), (18, .int .i64 ((flat p.1 ys1).length : Nat)), (19, .int .i64 (p.1 : Nat))])
        (fun _ => gaF x gn (some ⟨r, 0, none⟩) (some ⟨r2, 0, none⟩) x.w c c2 Q (fun w => SW x (ys1 w)) (fun _ => SW x []) m4 m2 L)
        (fun p => x.w - p.1) ⟨0, Nat.zero_le _⟩ (sub.cons rfl (sub.cons rfl (sub.cons rfl (sub.cons rfl (sub.cons rfl (sub.cons rfl (sub.cons rfl sub.nil))))))) ?_ ?_
      · exact Ent.refl _
      rintro ⟨p, hp⟩
      dsimp only
      refine go ?_
      refine Cx.ifp rfl (fun h3 => ?_) (fun h3 => ?_)
      · have hpw : p < x.w := by omega
        have hpl8 := hyl p hpw
        have hfp := hfl p hp
        refine Cx.ent (gaF_ith (S := fun w => SW x (ys1 w)) (S2 := fun _ => SW x []) p hpw) ?_
        refine go ?_
        have hget : (ptrs x.w fun i => (Q i).u)[0 + (p : Int).toNat * 1]? = some (.pointer (some ⟨(Q p).u, 0, none⟩)) := by rw [show 0 + (p : Int).toNat * 1 = p by omega]; exact ptrs_get (U := fun i => (Q i).u) hpw
        refine Cx.lp (α := {b : Nat // b ≤ 3})
          (fun b => [(2, .bool pin), (7, .bool true), (9, .pointer (some ⟨gn.a, 0, none⟩)), (10, .int .i64 (x.w : Nat)), (11, .int .i64 (j : Nat)), (18, .int .i64 ((flat p ys1).length + (if b.1 = 0 then 0 else (ys1 p).length) : Nat)), (19, .int .i64 (p : Nat)), (20, .int .i64 (b.1 : Nat))])
          (fun _ => gtF x gn r r2 x.w c c2 Q p (SW x (ys1 p)) (SW x []) m4 m2 (gaR x gn x.w Q (fun w => SW x (ys1 w)) (fun _ => SW x []) p L))
          (fun b => 3 - b.1) ⟨0, Nat.zero_le _⟩ (sub.cons rfl (sub.cons rfl (sub.cons rfl (sub.cons rfl (sub.cons rfl (sub.cons rfl (sub.cons rfl (sub.cons rfl sub.nil)))))))) ?_ ?_
        · exact Ent.refl _
        rintro ⟨b, hb⟩
        dsimp only [gtF]
        refine go ?_
        refine Cx.ifp rfl (fun h4 => ?_) (fun h4 => ?_)
        · refine gg ?_
          refine Sx.ldr (b := r) rfl (v := .pointer (some ⟨(Q p).u, 0, none⟩)) hget ?_
          refine go ?_
          refine Sx.ca rfl (supBucket (u := (Q p).u) (mp := gn.mp) (pb := (Q p).pb) (x := x) (s := SW x (ys1 p)) (b : Int) (by show (lmOf (ys1 p)).size ≤ _; rw [lmOf_size]; omega)) ?_
          have hit : ((SW x (ys1 p)).lm.items (b : Int).toNat) = if b = 0 then ys1 p else [] := by
            rcases (show b = 0 ∨ b = 1 ∨ b = 2 by omega) with rfl | rfl | rfl <;> rfl
          have hadd : (flat p ys1).length + (if b = 0 then 0 else (ys1 p).length) + ((SW x (ys1 p)).lm.items (b : Int).toNat).length = (flat p ys1).length + (if b + 1 = 0 then 0 else (ys1 p).length) := by
            rw [hit]
            by_cases hb0 : b = 0
            · rw [if_pos hb0, if_pos hb0, if_neg (by omega)]; omega
            · rw [if_neg hb0, if_neg hb0, if_neg (by omega)]; simp
          have hle : (flat p ys1).length + (if b = 0 then 0 else (ys1 p).length) ≤ 200 := by split <;> omega
          have hle2 : ((SW x (ys1 p)).lm.items (b : Int).toNat).length ≤ 8 := by rw [hit]; split <;> first | omega | simp
          rintro v L' (⟨hno, rfl, rfl⟩ | ⟨hyes, ro, co, rfl, rfl⟩)
          · have hz : ((SW x (ys1 p)).lm.items (b : Int).toNat).length = 0 := by
              rcases hno with hno | hno | hno
              · omega
              · omega
              · rw [hno]; rfl
            rw [hz, Nat.add_zero] at hadd
            refine go ?_
            rw [w64 (n := (((flat p ys1).length + (if b = 0 then 0 else (ys1 p).length) : Nat) : Int) + ((0 : Nat) : Int)) (by omega) (by omega), w64 (n := (b : Int) + 1) (by omega) (by omega)]
            refine Klp.nm ⟨b + 1, by omega⟩ (sub.cons rfl (sub.cons rfl (sub.cons rfl (sub.cons rfl (sub.cons rfl (sub.cons (by dsimp only; rw [← hadd]; rfl) (sub.cons rfl (sub.cons rfl sub.nil)))))))) ?_ (by dsimp only; omega)
            exact ent
          · refine go ?_
            rw [w64 (n := (((flat p ys1).length + (if b = 0 then 0 else (ys1 p).length) : Nat) : Int) + (((SW x (ys1 p)).lm.items (b : Int).toNat).length : Nat)) (by omega) (by omega), w64 (n := (b : Int) + 1) (by omega) (by omega), ← Int.natCast_add, hadd]
            refine Klp.nm ⟨b + 1, by omega⟩ (sub.cons rfl (sub.cons rfl (sub.cons rfl (sub.cons rfl (sub.cons rfl (sub.cons rfl (sub.cons rfl (sub.cons rfl sub.nil)))))))) ?_ (by dsimp only; omega)
            exact ent
        · obtain rfl : b = 3 := by omega
          refine gg ?_
          refine Sx.ldr (b := r) rfl (v := .pointer (some ⟨(Q p).u, 0, none⟩)) hget ?_
          refine go ?_
          refine Sx.ca rfl (supStash (u := (Q p).u) (mp := gn.mp) (pb := (Q p).pb) (x := x) (s := SW x (ys1 p)) (by show 0 ≤ _; omega)) ?_
          rintro v L' ⟨sa, sc, rfl, rfl⟩
          rw [show (SW x (ys1 p)).xs.length = 0 from rfl]
          refine go ?_
          rw [w64 (n := (p : Int) + 1) (by omega) (by omega)]
          refine Klp.nm ⟨p + 1, by omega⟩ (sub.cons rfl (sub.cons rfl (sub.cons rfl (sub.cons rfl (sub.cons rfl (sub.cons (by dsimp only; rw [flat_succ, List.length_append]; rfl) (sub.cons rfl sub.nil))))))) ?_ (by dsimp only; omega)
          refine Ent.trans ?_ (gaF_back (x := x) (n := gn) (r := r) (r2 := r2) (k := x.w) (c := c) (c2 := c2) (Q := Q) (S := fun w => SW x (ys1 w)) (S2 := fun _ => SW x []) (S' := fun w => SW x (ys1 w)) (S2' := fun _ => SW x []) (m := m4) (m2 := m2) (i := p) (G := L) hpw (fun _ _ => rfl) (fun _ _ => rfl))
          unfold gtF gaR
          exact ent
      · obtain rfl : p = x.w := by omega
        rw [hys]
        rw [hys] at hll
        have hkk := hx.pool (n := m4.ws.length) (by rw [hC1.len]; exact Nat.le_refl _) (by rw [hC1.len]; exact hlen)
        have hlist := list_pool hC1.pool
        dsimp only [gaF]
        refine go ?_
        cases hpn : pin with
        | true =>
          rw [hpn] at hll hep
          rw [if_pos rfl] at hll hep ⊢
          refine go ?_
          refine Cx.ordc rfl (by kernel_rfl) ?_
          refine ge ?_
          refine Ev.cakH (by kernel_rfl) rfl rfl (epochNow (e := gn.te) (mp := gn.mp) (x := x) (m := m4) (by rw [hC1.len]; omega)) ?_
          rw [hC1.ep, hep, show cutE 1 = 1 from rfl]
          refine ge ?_
          refine Ev.yes 165 rfl rfl ?_
          refine ge ?_
          refine Ev.yes 170 rfl (decide_eq_true rfl) ?_
          refine ge ?_
          iterate 7 (refine Ev.bring 2 rfl ?_; refine ge ?_)
          rw [w64 (n := (x.c : Int) - j) (by omega) (by omega)]
          refine Ev.caH (by kernel_rfl) rfl rfl (stackList (sb := gn.pb) (mp := gn.mp) (k := x.pool) (m := m4) hkk) (.keep (fun v L' ⟨_, _, _, e⟩ => by subst e; exact Has.cell rfl) (Pres.deps (by kernel_rfl))) ?_
          rw [hlist]
          rintro v L' ⟨ro, co, rfl, rfl⟩
          refine ge ?_
          refine go ?_
          refine Kr.one (.inr rfl) rfl (Ent.refl _) ⟨congrArg Value.bool (decide_eq_true (by omega)), ?_⟩
          exact entm
        | false =>
          rw [hpn] at hll hep
          rw [if_neg (by simp)] at hll hep ⊢
          refine go ?_
          refine Cx.ordc rfl (by kernel_rfl) ?_
          refine ge ?_
          refine Ev.cakH (by kernel_rfl) rfl rfl (epochNow (e := gn.te) (mp := gn.mp) (x := x) (m := m4) (by rw [hC1.len]; omega)) ?_
          rw [hC1.ep, hep, show cutE (3 * x.w) = ((3 * x.w : Nat) : Int) by unfold cutE; omega]
          refine ge ?_
          rw [w64 (n := (3 : Int) * x.w) (by omega) (by omega)]
          refine Ev.yes 197 rfl (decide_eq_true (by omega)) ?_
          refine ge ?_
          refine Ev.yes 201 rfl rfl ?_
          refine ge ?_
          iterate 5 (refine Ev.bring 2 rfl ?_; refine ge ?_)
          refine Ev.caH (by kernel_rfl) rfl rfl (stackList (sb := gn.pb) (mp := gn.mp) (k := x.pool) (m := m4) hkk) (.keep (fun v L' ⟨_, _, _, e⟩ => by subst e; exact Has.cell rfl) (Pres.deps (by kernel_rfl))) ?_
          rw [hlist]
          rintro v L' ⟨ro, co, rfl, rfl⟩
          refine ge ?_
          refine go ?_
          refine Kr.one (.inr rfl) rfl (Ent.refl _) ⟨congrArg Value.bool (decide_eq_true (by omega)), ?_⟩
          exact entm
end
end Go.Proofs.YtnbkjcmmjgkdaaaGreat
