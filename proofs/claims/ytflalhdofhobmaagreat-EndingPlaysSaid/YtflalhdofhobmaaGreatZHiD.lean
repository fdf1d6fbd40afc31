/-
  Parts of the proof, merged: what the statement leans on.
-/
import Derived.Test.YtflalhdofhobmaaGreatZHiC
set_option linter.unusedVariables false
set_option linter.unusedSimpArgs false

namespace Go.Proofs.YtflalhdofhobmaaGreat
structure Mm where
 ws : List Nat
 n : Nat
def Mm.at_ (m : Mm) (i : Nat) : Nat := m.ws.getD i 0
def Mm.tick (m : Mm) : Mm := ⟨m.ws, m.n + 1⟩
def Mm.put (m : Mm) (i v : Nat) : Mm := ⟨m.ws.set i v, m.n + 1⟩
def Mm.lay (m : Mm) (i v : Nat) : Mm := ⟨m.ws.set i v, m.n⟩
def Mm.cas (m : Mm) (i o v : Nat) : Mm := if m.at_ i = o then m.put i v else m.tick
def Mm.ok (m : Mm) : Prop := ∀ w ∈ m.ws, w < 18446744073709551616
theorem Mm.at_lt {m : Mm} (h : m.ok) (i : Nat) : m.at_ i < 18446744073709551616 := by
 unfold Mm.at_
 rw [List.getD_eq_getElem?_getD]
 cases hg : m.ws[i]? with
 | none => simp
 | some w => exact h w (List.mem_of_getElem? hg)
abbrev Ml := @Mm.at_lt
theorem Mm.get {m : Mm} {i : Nat} (h : i < m.ws.length) : m.ws[i]? = some (m.at_ i) := by
 unfold Mm.at_
 rw [List.getD_eq_getElem?_getD, List.getElem?_eq_getElem h]; rfl
theorem Mm.at_lay {m : Mm} {i v : Nat} (j : Nat) (h : i < m.ws.length) : (m.lay i v).at_ j = if i = j then v else m.at_ j := by
 unfold Mm.at_ Mm.lay
 simp only [List.getD_eq_getElem?_getD, List.getElem?_set]
 split <;> simp_all
theorem Mm.at_put {m : Mm} {i v : Nat} (j : Nat) (h : i < m.ws.length) : (m.put i v).at_ j = if i = j then v else m.at_ j := Mm.at_lay j h
abbrev Mp := @Mm.at_put
theorem Mm.len_put {m : Mm} {i v : Nat} : (m.put i v).ws.length = m.ws.length := by simp [Mm.put]
theorem Mm.len_lay {m : Mm} {i v : Nat} : (m.lay i v).ws.length = m.ws.length := by simp [Mm.lay]
theorem Mm.len_cas {m : Mm} {i o v : Nat} : (m.cas i o v).ws.length = m.ws.length := by unfold Mm.cas; split <;> simp [Mm.put, Mm.tick]
theorem Mm.ok_lay {m : Mm} {i v : Nat} (h : m.ok) (hv : v < 18446744073709551616) : (m.lay i v).ok := by
 intro w hw
 rcases List.mem_or_eq_of_mem_set hw with h1 | rfl
 ·exact h w h1
 ·exact hv
theorem Mm.ok_put {m : Mm} {i v : Nat} (h : m.ok) (hv : v < 18446744073709551616) : (m.put i v).ok := Mm.ok_lay (m := m) h hv
theorem Mm.ok_tick {m : Mm} (h : m.ok) : m.tick.ok := h
theorem Mm.ok_cas {m : Mm} {i o v : Nat} (h : m.ok) (hv : v < 18446744073709551616) : (m.cas i o v).ok := by
 unfold Mm.cas; split
 ·exact Mm.ok_put h hv
 ·exact Mm.ok_tick h
def hdI (w : Nat) : Int := (w % 4294967296 : Nat) - 1
def hdT (w : Nat) : Nat := w / 4294967296
def laterT (t : Nat) : Nat := if t < 4294967295 then t + 1 else 0
def nextW (w : Nat) (i : Int) : Nat := laterT (hdT w) * 4294967296 + (i + 1).toNat
theorem hdT_lt {w : Nat} (h : w < 18446744073709551616) : hdT w < 4294967296 := by unfold hdT; omega
theorem laterT_lt {t : Nat} (h : t < 4294967296) : laterT t < 4294967296 := by unfold laterT; split <;> omega
theorem nextW_lt {w : Nat} {i : Int} (h : w < 18446744073709551616) (hi : i < 4294967295) : nextW w i < 18446744073709551616 := by
 have := laterT_lt (hdT_lt h)
 unfold nextW; omega
theorem hdI_next {w : Nat} {i : Int} (h1 : -1 ≤ i) (h2 : i < 4294967295) : hdI (nextW w i) = i := by unfold hdI nextW; omega
theorem hdT_next {w : Nat} {i : Int} (h1 : -1 ≤ i) (h2 : i < 4294967295) : hdT (nextW w i) = laterT (hdT w) := by
 have h : (i + 1).toNat < 4294967296 := by omega
 show (laterT (hdT w) * 4294967296 + (i + 1).toNat) / 4294967296 = laterT (hdT w)
 omega
structure Sk where
 head : Nat
 links : Nat
 n : Nat
structure Sk.ok (k : Sk) (len : Nat) : Prop where
 n1 : 1 ≤ k.n
 n2 : k.n ≤ 4096
 h : k.head < len
 l : k.links + k.n ≤ len
 a : k.head < k.links ∨ k.links + k.n ≤ k.head
 z : len ≤ 8388608
def Sk.top (k : Sk) (w : Nat) : Int := if hdI w < k.n then hdI w else -1
def Sk.below (k : Sk) (w : Nat) : Int := if k.n < w then -1 else (w : Int) - 1
theorem Sk.top_ge (k : Sk) (w : Nat) : -1 ≤ k.top w := by unfold Sk.top hdI; split <;> omega
theorem Sk.top_lt (k : Sk) (w : Nat) : k.top w < k.n := by unfold Sk.top; split <;> omega
theorem Sk.below_ge (k : Sk) (w : Nat) : -1 ≤ k.below w := by unfold Sk.below; split <;> omega
theorem Sk.below_lt (k : Sk) (w : Nat) : k.below w < k.n := by unfold Sk.below; split <;> omega
structure PopS where
 most : Int
 at_ : Nat
 under : Int
 was : Nat
 got : List Int
 done : Bool
def PopS.init (most : Int) : PopS := ⟨min (max most 1) 8, 0, 0, 0, [], false⟩
def lastI (l : List Int) : Int := l.getLastD 0
def popStep (k : Sk) (m : Mm) (q : PopS) : PopS × Mm :=
 if q.done then (q, m) else
 match q.at_ with
 | 0 => if 0 ≤ k.top (m.at_ k.head) then ({ q with was := m.at_ k.head, got := [k.top (m.at_ k.head)], at_ := 1 }, m.tick) else ({ q with was := m.at_ k.head, got := [], done := true }, m.tick)
 | 1 => if 0 ≤ k.below (m.at_ (k.links + (lastI q.got).toNat)) ∧ (q.got.length : Int) < q.most then
   ({ q with under := k.below (m.at_ (k.links + (lastI q.got).toNat)), got := q.got ++ [k.below (m.at_ (k.links + (lastI q.got).toNat))] }, m.tick)
   else ({ q with under := k.below (m.at_ (k.links + (lastI q.got).toNat)), at_ := 2 }, m.tick)
 | _ => ({ q with at_ := 0, done := decide (m.at_ k.head = q.was) }, m.cas k.head q.was (nextW q.was q.under))
structure PopS.ok (k : Sk) (q : PopS) : Prop where
 m1 : 1 ≤ q.most
 m2 : q.most ≤ 8
 a : q.at_ ≤ 2
 u1 : -1 ≤ q.under
 u2 : q.under < k.n
 w : q.was < 18446744073709551616
 g : ∀ x ∈ q.got, 0 ≤ x ∧ x < k.n
 ne : q.done = false → q.at_ ≠ 0 → q.got ≠ []
 len : q.got.length ≤ 8
theorem PopS.ok_init {k : Sk} (h : 1 ≤ k.n) (most : Int) : (PopS.init most).ok k := by
 unfold PopS.init
 refine ⟨by dsimp only; omega, by dsimp only; omega, by simp, by simp, by simp; omega, by simp, by simp, by simp, by simp⟩
theorem lastI_mem {l : List Int} (h : l ≠ []) : lastI l ∈ l := by
 unfold lastI
 rw [List.getLastD_eq_getLast?, List.getLast?_eq_some_getLast h]
 exact List.getLast_mem h
theorem popStep_ok {k : Sk} {m : Mm} {q : PopS} {len : Nat} (hk : k.ok len) (hm : m.ok) (h : q.ok k) : (popStep k m q).1.ok k := by
 have t1 := k.top_ge (m.at_ k.head)
 have t2 := k.top_lt (m.at_ k.head)
 have hw := Ml hm k.head
 have hn := hk.n1
 unfold popStep
 split
 ·exact h
 ·rename_i hd
  split
  ·split
   ·rename_i h0
    exact ⟨h.m1, h.m2, by simp, h.u1, h.u2, hw, fun x hx => by simp only [List.mem_singleton] at hx; omega, by simp, by simp⟩
   ·exact ⟨h.m1, h.m2, h.a, h.u1, h.u2, hw, by simp, by simp, by simp⟩
  ·rename_i ha
   have b1 := k.below_ge (m.at_ (k.links + (lastI q.got).toNat))
   have b2 := k.below_lt (m.at_ (k.links + (lastI q.got).toNat))
   have hl := h.len
   have hne := h.ne (by simpa using hd) (by omega)
   split
   ·rename_i h0
    have := h.m2
    exact ⟨h.m1, h.m2, h.a, b1, b2, h.w, fun x hx => by
     rcases List.mem_append.1 hx with hx | hx
     ·exact h.g x hx
     ·simp only [List.mem_singleton] at hx; omega, by simp, by simp only [List.length_append, List.length_singleton]; omega⟩
   ·exact ⟨h.m1, h.m2, by simp, b1, b2, h.w, h.g, fun _ _ => hne, hl⟩
  ·exact ⟨h.m1, h.m2, by simp, h.u1, h.u2, h.w, h.g, by simp, h.len⟩
theorem popStep_mem {k : Sk} {m : Mm} {q : PopS} {len : Nat} (hk : k.ok len) (hm : m.ok) (h : q.ok k) : (popStep k m q).2.ok ∧ (popStep k m q).2.ws.length = m.ws.length := by
 have := h.u2
 have h2 := hk.n2
 unfold popStep
 split
 ·exact ⟨hm, rfl⟩
 ·split
  ·split <;> exact ⟨hm, rfl⟩
  ·split <;> exact ⟨hm, rfl⟩
  ·exact ⟨Mm.ok_cas hm (nextW_lt h.w (by omega)), Mm.len_cas⟩
structure PushS where
 l : List Int
 at_ : Nat
 was : Nat
 done : Bool
def PushS.init (l : List Int) : PushS := ⟨l, 0, 0, decide (l = [])⟩
def itI (l : List Int) (i : Nat) : Int := l.getD i 0
def pushStep (k : Sk) (m : Mm) (p : PushS) : PushS × Mm :=
 if p.done then (p, m) else
 if p.at_ + 1 < p.l.length then ({ p with at_ := p.at_ + 1 }, m.put (k.links + (itI p.l p.at_).toNat) (itI p.l (p.at_ + 1) + 1).toNat)
 else if p.at_ + 1 = p.l.length then ({ p with at_ := p.at_ + 1, was := m.at_ k.head }, m.tick)
 else if p.at_ = p.l.length then ({ p with at_ := p.at_ + 1 }, m.put (k.links + (itI p.l (p.l.length - 1)).toNat) (k.top p.was + 1).toNat)
 else ({ p with at_ := p.l.length - 1, done := decide (m.at_ k.head = p.was) }, m.cas k.head p.was (nextW p.was (itI p.l 0)))
structure PushS.ok (k : Sk) (p : PushS) : Prop where
 w : p.was < 18446744073709551616
 g : ∀ x ∈ p.l, 0 ≤ x ∧ x < k.n
 ne : p.done = false → p.l ≠ []
 a : p.at_ ≤ p.l.length + 1
theorem PushS.ok_init {k : Sk} {l : List Int} (h : ∀ x ∈ l, 0 ≤ x ∧ x < k.n) : (PushS.init l).ok k :=
 ⟨by simp [PushS.init], h, by simp [PushS.init], by simp [PushS.init]⟩
theorem itI_mem {l : List Int} {i : Nat} (h : i < l.length) : itI l i ∈ l := by
 unfold itI
 rw [List.getD_eq_getElem?_getD, List.getElem?_eq_getElem h]
 exact List.getElem_mem h
theorem pushStep_ok {k : Sk} {m : Mm} {p : PushS} (hm : m.ok) (h : p.ok k) : (pushStep k m p).1.ok k := by
 have ha := h.a
 unfold pushStep
 split
 ·exact h
 ·rename_i hd
  have hne := h.ne (by simpa using hd)
  have hl := List.length_pos_iff.2 hne
  split
  ·exact ⟨h.w, h.g, h.ne, by dsimp only; omega⟩
  ·split
   ·exact ⟨Ml hm _, h.g, h.ne, by dsimp only; omega⟩
   ·split
    ·exact ⟨h.w, h.g, h.ne, by dsimp only; omega⟩
    ·exact ⟨h.w, h.g, fun _ => hne, by dsimp only; omega⟩
theorem pushStep_mem {k : Sk} {m : Mm} {p : PushS} {len : Nat} (hk : k.ok len) (hm : m.ok) (h : p.ok k) : (pushStep k m p).2.ok ∧ (pushStep k m p).2.ws.length = m.ws.length := by
 have h2 := hk.n2
 have ht := k.top_lt p.was
 unfold pushStep
 split
 ·exact ⟨hm, rfl⟩
 ·rename_i hd
  have hl := List.length_pos_iff.2 (h.ne (by simpa using hd))
  split
  ·have := h.g _ (itI_mem (l := p.l) (i := p.at_ + 1) (by omega))
   exact ⟨Mm.ok_put hm (by omega), Mm.len_put⟩
  ·split
   ·exact ⟨hm, rfl⟩
   ·split
    ·exact ⟨Mm.ok_put hm (by omega), Mm.len_put⟩
    ·have := h.g _ (itI_mem (l := p.l) (i := 0) (by omega))
     exact ⟨Mm.ok_cas hm (nextW_lt h.w (by omega)), Mm.len_cas⟩
section
open Go
attribute [local irreducible] Sx Cx Rx Fx Krg Ksq Kbl Klp Kr
abbrev wd (n : Nat) : Value := .int .u64 (n : Int)
theorem bv64 (a : Nat) : BitVec.ofInt 64 (a : Int) = BitVec.ofNat 64 a := by
 apply BitVec.eq_of_toNat_eq
 simp [BitVec.toNat_ofInt]
theorem wrap64 {n : Nat} (h : n < 18446744073709551616) : IntKind.u64.wrap (n : Int) = (n : Int) := wu64 (by omega) (by omega)
theorem and64 (a b : Nat) (ha : a < 18446744073709551616) (hb : b < 18446744073709551616) : bitsOf .and .u64 a b = ((a &&& b : Nat) : Int) := by
 show IntKind.u64.wrap (((BitVec.ofInt 64 (a : Int) &&& BitVec.ofInt 64 (b : Int)).toNat : Nat) : Int) = _
 rw [bv64, bv64, BitVec.toNat_and, BitVec.toNat_ofNat, BitVec.toNat_ofNat, Nat.mod_eq_of_lt ha, Nat.mod_eq_of_lt hb]
 exact wrap64 (Nat.lt_of_le_of_lt Nat.and_le_left ha)
theorem or64 (a b : Nat) (ha : a < 18446744073709551616) (hb : b < 18446744073709551616) : bitsOf .or .u64 a b = ((a ||| b : Nat) : Int) := by
 show IntKind.u64.wrap (((BitVec.ofInt 64 (a : Int) ||| BitVec.ofInt 64 (b : Int)).toNat : Nat) : Int) = _
 rw [bv64, bv64, BitVec.toNat_or, BitVec.toNat_ofNat, BitVec.toNat_ofNat, Nat.mod_eq_of_lt ha, Nat.mod_eq_of_lt hb]
 exact wrap64 (Nat.or_lt_two_pow (n := 64) ha hb)
theorem andNot64 (a b c : Nat) (hc : c < 18446744073709551616) (h : ∀ i, i < 64 → c.testBit i = (a.testBit i && !b.testBit i)) : bitsOf .andNot .u64 a b = (c : Int) := by
 show IntKind.u64.wrap (((BitVec.ofInt 64 (a : Int) &&& ~~~(BitVec.ofInt 64 (b : Int))).toNat : Nat) : Int) = _
 have e : BitVec.ofNat 64 a &&& ~~~(BitVec.ofNat 64 b) = BitVec.ofNat 64 c := by
  apply BitVec.eq_of_getLsbD_eq
  intro i hi
  rw [BitVec.getLsbD_and, BitVec.getLsbD_not, BitVec.getLsbD_ofNat, BitVec.getLsbD_ofNat, BitVec.getLsbD_ofNat, h i hi]
  simp [hi]
 rw [bv64, bv64, e, BitVec.toNat_ofNat, Nat.mod_eq_of_lt hc]
 exact wrap64 hc
theorem pow64 {a : Nat} (h : a ≤ 63) : (2 : Nat) ^ a < 18446744073709551616 := Nat.lt_of_le_of_lt (Nat.pow_le_pow_right (by omega) h) (by decide)
section
variable {L F : St}
theorem bitsField (a w : Nat) (h : a + w ≤ 64) : FX 225 [ii a, ii w] L (fun v L' => v = .bool true ∧ L = L') := by
 refine Fm Tryz.func225 k225 ?_
 dsimp only [c225, eL]
 refine go ?_
 iterate 3 (try (refine Sx.gyes rfl (dt (by omega)) ?_; refine go ?_))
 rw [w64 (n := 64 - (w : Int)) (by omega) (by omega), dt (show (a : Int) ≤ 64 - w by omega)]
 exact Ko rfl (Er _) ⟨rfl, rfl⟩
theorem bitsMask (w : Nat) (h : w ≤ 63) : FX 226 [ii w] L (fun v L' => v = wd (2 ^ w - 1) ∧ L = L') := by
 refine Fm Tryz.func226 k226 ?_
 dsimp only [c226, eL]
 have hp := pow64 h
 have h1 : 1 ≤ 2 ^ w := Nat.one_le_two_pow
 refine go ?_
 have e1 : (bif true then (if (w : Int) < 0 then (0 : Int) else (w : Int)) else (if (0 : Int) < (w : Int) then (0 : Int) else (w : Int))) = w := by
  rw [cond_true, if_neg (by omega)]
 have e2 : (bif false then (if (w : Int) < 64 then (64 : Int) else (w : Int)) else (if (64 : Int) < (w : Int) then (64 : Int) else (w : Int))) = w := by
  rw [cond_false, if_neg (by omega)]
 rw [e1, e2]
 refine Sv rfl (by omega) ?_
 have e3 : min (w : Int).toNat IntKind.u64.bits = w := by rw [tn]; exact Nat.min_eq_left (by show w ≤ 64; omega)
 rw [e3, show (1 : Int) * 2 ^ w = ((2 ^ w : Nat) : Int) by push_cast; omega, wrap64 hp]
 refine go ?_
 rw [show ((2 ^ w : Nat) : Int) - 1 = ((2 ^ w - 1 : Nat) : Int) by omega, wrap64 (by omega)]
 exact Ko rfl (Er _) ⟨rfl, rfl⟩
theorem bitsGet (x a w : Nat) (hx : x < 18446744073709551616) (h : a + w ≤ 64) (hw : w ≤ 63) : FX 170 [wd x, ii a, ii w] L (fun v L' => v = wd (x / 2 ^ a % 2 ^ w) ∧ L = L') := by
 refine Fm Tryz.func170 k170 ?_
 dsimp only [c170, eL]
 have hp := pow64 hw
 have h1 : 1 ≤ 2 ^ w := Nat.one_le_two_pow
 refine go ?_
 refine Sa rfl (bitsField a w h) ?_
 rintro v L' ⟨rfl, rfl⟩
 refine go ?_
 refine Xd rfl kr_ ?_
 repeat' (first|refine Ze0 0 rfl kr_ ?_|refine Ze1 kr_ rfl rfl ?_|refine Ze2 ?_|refine Ze3 ?_|refine Ze4 kr_ rfl rfl (by rfl) ?_|refine Ze5 kr_ rfl rfl rfl ?_)
 refine Ev.pvH kr_ rfl rfl (by omega) ?_
 have e3 : min (a : Int).toNat IntKind.u64.bits = a := by rw [tn]; exact Nat.min_eq_left (by show a ≤ 64; omega)
 have e4 : (x : Int).fdiv (2 ^ a) = ((x / 2 ^ a : Nat) : Int) := by
  rw [show (2 : Int) ^ a = ((2 ^ a : Nat) : Int) by push_cast; rfl, Int.fdiv_eq_ediv_of_nonneg _ (Int.natCast_nonneg _)]; rfl
 rw [e3, e4]
 repeat' (first|refine Ze0 0 rfl kr_ ?_|refine Ze1 kr_ rfl rfl ?_|refine Ze2 ?_|refine Ze3 ?_|refine Ze4 kr_ rfl rfl (by rfl) ?_|refine Ze5 kr_ rfl rfl rfl ?_)
 refine Eb kr_ rfl rfl (bitsMask w hw) ?_
 repeat' (first|refine Ze0 0 rfl kr_ ?_|refine Ze1 kr_ rfl rfl ?_|refine Ze2 ?_|refine Ze3 ?_|refine Ze4 kr_ rfl rfl (by rfl) ?_|refine Ze5 kr_ rfl rfl rfl ?_)
 rw [and64 _ _ (Nat.lt_of_le_of_lt (Nat.div_le_self _ _) hx) (by omega), Nat.and_two_pow_sub_one_eq_mod]
 refine go ?_
 exact Ko rfl (Er _) ⟨rfl, rfl⟩
theorem bitsFits (x w : Nat) (hx : x < 2 ^ w) (hw : w ≤ 63) : FX 260 [wd x, ii w] L (fun v L' => v = .bool true ∧ L = L') := by
 refine Fm Tryz.func260 k260 ?_
 dsimp only [c260, eL]
 refine go ?_
 refine Sa rfl (bitsMask w hw) ?_
 rintro v L' ⟨rfl, rfl⟩
 refine go ?_
 rw [andNot64 x (2 ^ w - 1) 0 (by omega) (fun i hi => by
  rw [Nat.zero_testBit, Nat.testBit_two_pow_sub_one]
  by_cases hiw : i < w
  ·simp [hiw]
  ·rw [Nat.testBit_lt_two_pow (Nat.lt_of_lt_of_le hx (Nat.pow_le_pow_right (by omega) (by omega)))]; rfl)]
 exact Ko rfl (Er _) ⟨rfl, rfl⟩
theorem bitsPut (x a w y : Nat) (hx : x < 2 ^ a) (hy : y < 2 ^ w) (h : a + w ≤ 64) (hw : w ≤ 63) : FX 244 [wd x, ii a, ii w, wd y] L (fun v L' => v = .tuple #[wd (y * 2 ^ a + x), .bool true] ∧ L = L') := by
 have hp := pow64 hw
 have h1 : 1 ≤ 2 ^ w := Nat.one_le_two_pow
 have hb : 2 ^ w * 2 ^ a ≤ 18446744073709551616 := by rw [← Nat.pow_add, Nat.add_comm]; exact Nat.pow_le_pow_right (n := 2) (i := a + w) (j := 64) (by omega) h
 have h2 : 1 ≤ 2 ^ a := Nat.one_le_two_pow
 have hmx : (2 ^ w - 1) * 2 ^ a + 2 ^ a = 2 ^ w * 2 ^ a := by rw [← Nat.succ_mul]; congr 1; omega
 have hyx : y * 2 ^ a + 2 ^ a ≤ 2 ^ w * 2 ^ a := by rw [← Nat.succ_mul]; exact Nat.mul_le_mul_right _ hy
 refine Fm Tryz.func244 k244 ?_
 dsimp only [c244, eL]
 refine go ?_
 refine Sa rfl (bitsField a w h) ?_
 rintro v L' ⟨rfl, rfl⟩
 refine go ?_
 refine Sa rfl (bitsFits y w hy hw) ?_
 rintro v L' ⟨rfl, rfl⟩
 refine go ?_
 refine Xd rfl kr_ ?_
 repeat' (first|refine Ze0 0 rfl kr_ ?_|refine Ze1 kr_ rfl rfl ?_|refine Ze2 ?_|refine Ze3 ?_|refine Ze4 kr_ rfl rfl (by rfl) ?_|refine Ze5 kr_ rfl rfl rfl ?_)
 refine Eb kr_ rfl rfl (bitsMask w hw) ?_
 have e3 : min (a : Int).toNat IntKind.u64.bits = a := by rw [tn]; exact Nat.min_eq_left (by show a ≤ 64; omega)
 repeat' (first|refine Ze0 0 rfl kr_ ?_|refine Ze1 kr_ rfl rfl ?_|refine Ze2 ?_|refine Ze3 ?_|refine Ze4 kr_ rfl rfl (by rfl) ?_|refine Ze5 kr_ rfl rfl rfl ?_)
 refine Ev.pvH kr_ rfl rfl (by omega) ?_
 rw [e3, show ((2 ^ w - 1 : Nat) : Int) * 2 ^ a = (((2 ^ w - 1) * 2 ^ a : Nat) : Int) by push_cast; rfl, wrap64 (by omega)]
 repeat' (first|refine Ze0 0 rfl kr_ ?_|refine Ze1 kr_ rfl rfl ?_|refine Ze2 ?_|refine Ze3 ?_|refine Ze4 kr_ rfl rfl (by rfl) ?_|refine Ze5 kr_ rfl rfl rfl ?_)
 refine Ev.pvH kr_ rfl rfl (by omega) ?_
 rw [e3, show (y : Int) * 2 ^ a = ((y * 2 ^ a : Nat) : Int) by push_cast; rfl, wrap64 (by omega)]
 rw [andNot64 x ((2 ^ w - 1) * 2 ^ a) x (by omega) (fun i hi => by
  rw [Nat.mul_comm, Nat.testBit_two_pow_mul]
  by_cases hia : i < a
  ·simp [show ¬ a ≤ i by omega]
  ·rw [Nat.testBit_lt_two_pow (Nat.lt_of_lt_of_le hx (Nat.pow_le_pow_right (by omega) (by omega)))]; rfl)]
 repeat' (first|refine Ze0 0 rfl kr_ ?_|refine Ze1 kr_ rfl rfl ?_|refine Ze2 ?_|refine Ze3 ?_|refine Ze4 kr_ rfl rfl (by rfl) ?_|refine Ze5 kr_ rfl rfl rfl ?_)
 rw [or64 _ _ (by omega) (by omega)]
 have e5 : x ||| y * 2 ^ a = y * 2 ^ a + x := by
  rw [Nat.or_comm, Nat.mul_comm y, Nat.two_pow_add_eq_or_of_lt hx y]
 rw [e5]
 refine go ?_
 exact Kr.two (.inr rfl) rfl rfl (Er _) ⟨rfl, rfl⟩
end
section
variable {L F : St}
theorem wordWithin (n a b : Int) (h1 : a ≤ n) (h2 : n ≤ b) : FX 243 [ii n, ii a, ii b] L (fun v L' => v = .bool true ∧ L = L') := by
 refine Fm Tryz.func243 k243 ?_
 dsimp only [c243, eL]
 refine go ?_
 refine Sx.gyes rfl (dt (by omega)) (go ?_)
 rw [dt h2]
 exact Ko rfl (Er _) ⟨rfl, rfl⟩
theorem wordWithout (n a b : Int) (h1 : a ≤ n) (h2 : ¬ n ≤ b) : FX 243 [ii n, ii a, ii b] L (fun v L' => v = .bool false ∧ L = L') := by
 refine Fm Tryz.func243 k243 ?_
 dsimp only [c243, eL]
 refine go ?_
 refine Sx.gyes rfl (dt (by omega)) (go ?_)
 rw [dz h2]
 exact Ko rfl (Er _) ⟨rfl, rfl⟩
abbrev hdV (i : Int) (t : Nat) : Value := .agg #[ii i, ii (t : Int)]
theorem getHead (w : Nat) (hw : w < 18446744073709551616) : FX 171 [wd w] L (fun v L' => v = hdV (hdI w) (hdT w) ∧ L = L') := by
 refine Fm Tryz.func171 k171 ?_
 dsimp only [c171, eL]
 refine Cx.sq ?_
 refine Cx.rg ?_
 refine Sx.al fun g => (go ?_)
 refine Sa rfl (bitsGet w 0 32 hw (by omega) (by omega)) ?_
 rintro v L' ⟨rfl, rfl⟩
 rw [Nat.pow_zero, Nat.div_one]
 refine go ?_
 refine Sa rfl (bitsGet w 32 32 hw (by omega) (by omega)) ?_
 rintro v L' ⟨rfl, rfl⟩
 refine go ?_
 have h1 : w % 2 ^ 32 < 4294967296 := Nat.mod_lt _ (by omega)
 have h2 : w / 2 ^ 32 % 2 ^ 32 = hdT w := by unfold hdT; omega
 have h3 := hdT_lt hw
 rw [h2, w64 (n := ((w % 2 ^ 32 : Nat) : Int)) (by omega) (by omega), w64 (n := ((w % 2 ^ 32 : Nat) : Int) - 1) (by omega) (by omega), w64 (n := (hdT w : Int)) (by omega) (by omega)]
 refine Sx.st (b := g) rfl rfl rfl rfl rfl rfl ?_
 dsimp only [lay]
 refine go ?_
 exact Kr_cell (b := g) (.inr rfl) rfl rfl (L' := L) Ed ⟨rfl, rfl⟩
theorem putHead (i : Int) (t : Nat) (h1 : -1 ≤ i) (h2 : i < 4294967295) (ht : t < 4294967296) : FX 203 [hdV i t] L (fun v L' => v = .tuple #[wd (t * 4294967296 + (i + 1).toNat), .bool true] ∧ L = L') := by
 refine Fm Tryz.func203 k203 ?_
 dsimp only [c203, eL]
 refine Cx.sq ?_
 refine Cx.rg ?_
 refine Sx.bx rfl rfl fun g => (go ?_)
 refine Sa rfl (wordWithin _ _ _ (by omega) (by omega)) ?_
 rintro v L' ⟨rfl, rfl⟩
 refine go ?_
 refine Sa rfl (wordWithin _ _ _ (by omega) (by omega)) ?_
 rintro v L' ⟨rfl, rfl⟩
 refine go ?_
 rw [w64 (n := i + 1) (by omega) (by omega), show i + 1 = (((i + 1).toNat : Nat) : Int) by omega, wrap64 (by omega)]
 refine Sa rfl (bitsPut 0 0 32 (i + 1).toNat (by omega) (by omega) (by omega) (by omega)) ?_
 rintro v L' ⟨rfl, rfl⟩
 rw [Nat.pow_zero, Nat.mul_one, Nat.add_zero]
 refine go ?_
 rw [wrap64 (by omega)]
 refine Sa rfl (bitsPut (i + 1).toNat 32 32 t (by omega) (by omega) (by omega) (by omega)) ?_
 rintro v L' ⟨rfl, rfl⟩
 refine go ?_
 exact Kr.two (.inr rfl) rfl rfl Ed ⟨rfl, rfl⟩
theorem wordNext (i j : Int) (t : Nat) (ht : t < 4294967296) : FX 271 [hdV i t, ii j] L (fun v L' => v = hdV j (laterT t) ∧ L = L') := by
 refine Fm Tryz.func271 k271 ?_
 dsimp only [c271, eL]
 refine Cx.sq ?_
 refine Cx.rg ?_
 refine Sx.bx rfl rfl fun g => (go ?_)
 refine Sx.al fun q => (go ?_)
 by_cases h : t < 4294967295
 ·refine Sa rfl (wordWithin _ _ _ (by omega) (by omega)) ?_
  rintro v L' ⟨rfl, rfl⟩
  refine go ?_
  rw [w64 (n := (t : Int) + 1) (by omega) (by omega)]
  refine Sx.st (b := q) rfl rfl rfl rfl rfl rfl ?_
  dsimp only [lay]
  refine go ?_
  refine Kr_cell (b := q) (.inr rfl) rfl rfl (L' := L) (Et Ed Ed) ⟨?_, rfl⟩
  unfold laterT
  rw [if_pos h]; rfl
 ·refine Sa rfl (wordWithout _ _ _ (by omega) (by omega)) ?_
  rintro v L' ⟨rfl, rfl⟩
  refine go ?_
  refine Sx.st (b := q) rfl rfl rfl rfl rfl rfl ?_
  dsimp only [lay]
  refine go ?_
  refine Kr_cell (b := q) (.inr rfl) rfl rfl (L' := L) (Et Ed Ed) ⟨?_, rfl⟩
  unfold laterT
  rw [if_neg h]; rfl
end
def us (l : List Nat) : List Value := l.map wd
theorem length_us (l : List Nat) : (us l).length = l.length := by simp [us]
theorem us_get {l : List Nat} {i w : Nat} (h : l[i]? = some w) : (us l)[i]? = some (wd w) := by simp [us, h]
theorem us_set (l : List Nat) (i w : Nat) : (us l).set i (wd w) = us (l.set i w) := by simp [us, List.map_set]
theorem lay_one {cs : List Value} {off : Nat} {u : Value} (h : off < cs.length) : lay cs off [u] = cs.set off u := by
 have := lay_cons cs off u [] (by simp; omega)
 rw [← this, lay_nil]
theorem wrap_succ (n : Nat) : IntKind.i64.wrap (IntKind.i64.wrap (n : Int) + 1) = IntKind.i64.wrap ((n + 1 : Nat) : Int) := by
 have hw : ∀ x : Int, IntKind.i64.wrap x = if x % 18446744073709551616 ≥ 9223372036854775808 then x % 18446744073709551616 - 18446744073709551616 else x % 18446744073709551616 := fun x => by
  unfold IntKind.wrap
  simp only [IntKind.bits, IntKind.signed]
  simp
 rw [hw, hw, hw]
 push_cast
 (repeat' split) <;> omega
section
variable {L F : St}
def memL (T : TypeId) (m : Mm) (a : OA) (y : (OA × Nat) × (Value × Value × Value × Value × Value)) : St :=
 [lift (m.ok ∧ m.ws.length ≤ 8388608 ∧ ones [y.2.1, y.2.2.1, y.2.2.2.1, y.2.2.2.2.1, y.2.2.2.2.2] = true), pt a (Blk T [.slice y.1.1 m.ws.length y.1.2, ii (IntKind.i64.wrap (m.n : Int)), y.2.1, y.2.2.1, y.2.2.2.1, y.2.2.2.2.1, y.2.2.2.2.2]), pt y.1.1 (Row 56 1 m.ws.length y.1.2 (us m.ws))]
def MemT (T : TypeId) (m : Mm) (a : OA) : As := exs (memL T m a)
abbrev MemO := MemT 139
theorem MemO.close {T : TypeId} {a r : OA} {c n : Nat} {v x0 x1 x2 x3 x4 : Value} {w : List Value} {F G : St} (m : Mm) (hm : m.ok ∧ m.ws.length ≤ 8388608 ∧ ones [x0, x1, x2, x3, x4] = true) [t : Take L a (Blk T [.slice r n c, v, x0, x1, x2, x3, x4]) F] [u : Take F r (Row 56 1 n c w) G]
  (hv : v = ii (IntKind.i64.wrap (m.n : Int))) (hn : n = m.ws.length) (hw : w = us m.ws) : Ent L (pt a (MemT T m) :: G) := by
 subst hv; subst hn; subst hw
 refine Et (Em (t := t) (Eo u.out)) ?_
 refine Et (Ent.lift hm (Er _)) ?_
 exact Ent.close (f := memL T m a) rfl ((r, c), (x0, x1, x2, x3, x4))
theorem cellsNew (n : Nat) (h1 : 1 ≤ n) (h2 : n ≤ 8388608) : FX 15 [ii n] L (fun v L' => ∃ g, v = .tuple #[zp g, ii 0] ∧ L' = pt (ad g) (MemO ⟨List.replicate n 0, 0⟩) :: L) := by
 refine Fm Tryz.func15 k15 ?_
 dsimp only [c15, eL]
 refine go ?_
 refine Sx.gyes rfl (dz (by omega)) (go ?_)
 refine Xn rfl (dz (by omega)) (go ?_)
 refine Sx.mk rfl rfl (by omega) (by omega) (by omega) (by omega) fun g => (go ?_)
 refine Sx.bx rfl rfl fun q => (go ?_)
 refine Kr.two (.inr rfl) rfl rfl ?_ ⟨q, rfl, rfl⟩
 have hu : us (List.replicate n 0) = List.replicate n (.int .u64 0) := by simp [us, wd]
 refine MemO.close (a := ad q) (r := ad g) ⟨List.replicate n 0, 0⟩ ⟨fun w hw => ?_, ?_, rfl⟩ rfl (by simp) ?_
 ·rw [List.eq_of_mem_replicate hw]; omega
 ·simpa using h2
 ·rw [hu, made_one]; simp
theorem cellsLen {b : Nat} {m : Mm} {F : St} [t : Take L (ad b) (MemO m) F] : FX 137 [zp b] L (fun v L' => v = ii m.ws.length ∧ L = L') := by
 refine Fx.kept (t := t) ?_
 refine Fm Tryz.func137 k137 ?_
 dsimp only [c137, eL]
 refine Xo (t := t) rfl ?_
 rintro ⟨⟨r, c⟩, ⟨x0, x1, x2, x3, x4⟩⟩
 simp only [memL, lc, ln]
 refine Cx.liftp fun hm => (go ?_)
 exact Ko rfl (MemO.close (a := ad b) (r := r) m hm rfl rfl rfl) ⟨rfl, rfl⟩
theorem cellsCount {b : Nat} {m : Mm} {F : St} [t : Take L (ad b) (MemO m) F] (hn : m.n ≤ 1000000000000) : FX 116 [zp b] L (fun v L' => v = ii m.n ∧ L = L') := by
 refine Fx.kept (t := t) ?_
 refine Fm Tryz.func116 k116 ?_
 dsimp only [c116, eL]
 refine Xo (t := t) rfl ?_
 rintro ⟨⟨r, c⟩, ⟨x0, x1, x2, x3, x4⟩⟩
 simp only [memL, lc, ln]
 refine Cx.liftp fun hm => (go ?_)
 exact Ko rfl (MemO.close (a := ad b) (r := r) m hm rfl rfl rfl) ⟨congrArg (Value.int .i64) (w64 (by omega) (by omega)), rfl⟩
theorem cellsIs {b : Nat} {m : Mm} {F : St} (i : Int) [t : Take L (ad b) (MemO m) F] : FX 81 [zp b, ii i] L (fun v L' => v = .bool (decide (0 ≤ i ∧ i < m.ws.length)) ∧ L = L') := by
 refine Fx.kept (t := t) ?_
 refine Fm Tryz.func81 k81 ?_
 dsimp only [c81, eL]
 refine Xo (t := t) rfl ?_
 rintro ⟨⟨r, c⟩, ⟨x0, x1, x2, x3, x4⟩⟩
 simp only [memL, lc, ln]
 refine Cx.liftp fun hm => (go ?_)
 refine Sx.ifp rfl (fun h => ?_) (fun h => ?_)
 ·refine go ?_
  exact Ko rfl (MemO.close (a := ad b) (r := r) m hm rfl rfl rfl) ⟨congrArg Value.bool (decide_eq_decide.2 (by omega)), rfl⟩
 ·refine go ?_
  exact Ko rfl (MemO.close (a := ad b) (r := r) m hm rfl rfl rfl) ⟨congrArg Value.bool (dz (fun hh => h hh.1)).symm, rfl⟩
theorem cellsPeek {b : Nat} {m : Mm} {F : St} (i : Nat) (hi : i < m.ws.length) [t : Take L (ad b) (MemO m) F] : FX 29 [zp b, ii i] L (fun v L' => v = wd (m.at_ i) ∧ L = L') := by
 refine Fx.kept (t := t) ?_
 refine Fm Tryz.func29 k29 ?_
 dsimp only [c29, eL]
 refine go ?_
 refine Sa rfl (cellsIs (b := b) (m := m) (i : Int)) ?_
 rintro v L' ⟨rfl, rfl⟩
 rw [dt (show (0 : Int) ≤ i ∧ (i : Int) < m.ws.length by omega)]
 refine go ?_
 refine Sx.openp (t := t) rfl ?_
 rintro ⟨⟨r, c⟩, ⟨x0, x1, x2, x3, x4⟩⟩
 simp only [memL, lc, ln]
 refine Sx.liftp fun hm => (go ?_)
 refine Sx.rowsome (a := r) (by omega) fun g hr => ?_
 subst hr
 refine Sv rfl ⟨by omega, by omega⟩ ?_
 refine Sx.ldr rfl (v := wd (m.at_ i)) (by simpa using us_get (Mm.get hi)) (go ?_)
 exact Ko rfl (MemO.close (a := ad b) (r := ad g) m hm rfl rfl rfl) ⟨rfl, rfl⟩
theorem cellsLay {b : Nat} {m : Mm} {F : St} (i w : Nat) (hi : i < m.ws.length) (hw : w < 18446744073709551616) [t : Take L (ad b) (MemO m) F] : FX 23 [zp b, ii i, wd w] L (fun v L' => v = ii 0 ∧ L' = pt (ad b) (MemO (m.lay i w)) :: F) := by
 refine Fm Tryz.func23 k23 ?_
 dsimp only [c23, eL]
 refine go ?_
 refine Sa rfl (cellsIs (b := b) (m := m) (i : Int)) ?_
 rintro v L' ⟨rfl, rfl⟩
 rw [dt (show (0 : Int) ≤ i ∧ (i : Int) < m.ws.length by omega)]
 refine go ?_
 refine Sx.openp (t := t) rfl ?_
 rintro ⟨⟨r, c⟩, ⟨x0, x1, x2, x3, x4⟩⟩
 simp only [memL, lc, ln]
 refine Sx.liftp fun hm => (go ?_)
 refine Sx.rowsome (a := r) (by omega) fun g hr => ?_
 subst hr
 refine Sv rfl ⟨by omega, by omega⟩ ?_
 refine Sx.str (b := g) rfl rfl rfl rfl rfl (by rw [length_us]; simp; omega) (lay_one (by rw [length_us]; simpa using hi)) (go ?_)
 refine Ko rfl (MemO.close (a := ad b) (r := ad g) (m.lay i w) ⟨Mm.ok_lay hm.1 hw, by rw [Mm.len_lay]; exact hm.2.1, hm.2.2⟩ rfl Mm.len_lay.symm ?_) ⟨rfl, rfl⟩
 simp only [Nat.zero_add, Nat.mul_one, tn]
 exact us_set m.ws i w
set_option maxHeartbeats 1000000 in
theorem cellsStroke {b : Nat} {m : Mm} {F : St} (kd : Int) (i w : Nat) (ok : Bool) (hi : i < m.ws.length) (hw : w < 18446744073709551616) [t : Take L (ad b) (MemO m) F] :
  FX 205 [zp b, ii kd, ii i, wd w, .bool ok] L (fun v L' => v = wd (m.at_ i) ∧ L' = pt (ad b) (MemO (m.put i w)) :: F) := by
 refine Fm Tryz.func205 k205 ?_
 dsimp only [c205, eL]
 refine Xo (t := t) rfl ?_
 rintro ⟨⟨r, c⟩, ⟨x0, x1, x2, x3, x4⟩⟩
 simp only [memL, lc, ln]
 refine Cx.liftp fun hm => ?_
 refine Cx.rowkey (a := r) fun hx0 hn0 _ hk0 => ?_
 obtain ⟨g, rfl⟩ : ∃ g, r = ad g := by
  rcases hk0 with h | h
  ·omega
  ·exact h
 refine go ?_
 refine Sv rfl ⟨by omega, by omega⟩ ?_
 refine Sx.ldr rfl (v := wd (m.at_ i)) (by simpa using us_get (Mm.get hi)) (go ?_)
 refine Sv rfl ⟨by omega, by omega⟩ ?_
 refine Sx.str (b := g) rfl rfl rfl rfl rfl (by rw [length_us]; simp; omega) (lay_one (by rw [length_us]; simpa using hi)) (go ?_)
 rw [wrap_succ]
 refine Sx.st (b := b) rfl rfl rfl rfl rfl rfl ?_
 dsimp only [lay]
 refine go ?_
 refine Ko rfl (MemO.close (a := ad b) (r := ad g) (m.put i w) ⟨Mm.ok_put hm.1 hw, by rw [Mm.len_put]; exact hm.2.1, rfl⟩ rfl Mm.len_put.symm ?_) ⟨rfl, rfl⟩
 simp only [Nat.zero_add, Nat.mul_one, tn]
 exact us_set m.ws i w
theorem putSame (m : Mm) (i : Nat) (hi : i < m.ws.length) : m.put i (m.at_ i) = m.tick := by
 unfold Mm.put Mm.tick
 congr 1
 have := Mm.get hi
 rw [List.getElem?_eq_getElem hi, Option.some.injEq] at this
 rw [← this]
 exact List.set_getElem_self hi
end
section
variable {L F : St}
theorem cellsLoad {b : Nat} {m : Mm} {F : St} (i : Nat) (hi : i < m.ws.length) [t : Take L (ad b) (MemO m) F] :
  FX 151 [zp b, ii i] L (fun v L' => v = .tuple #[wd (m.at_ i), ii 0] ∧ L' = pt (ad b) (MemO m.tick) :: F) := by
 refine Fm Tryz.func151 k151 ?_
 dsimp only [c151, eL]
 refine go ?_
 refine Sa rfl (cellsIs (b := b) (m := m) (i : Int)) ?_
 rintro v L' ⟨rfl, rfl⟩
 rw [dt (show (0 : Int) ≤ i ∧ (i : Int) < m.ws.length by omega)]
 refine go ?_
 refine Sx.openp (t := t) rfl ?_
 rintro ⟨⟨r, c⟩, ⟨x0, x1, x2, x3, x4⟩⟩
 simp only [memL, lc, ln]
 refine Sx.liftp fun hm => ?_
 refine Sx.rowkey (a := r) fun hx0 hn0 _ hk0 => ?_
 obtain ⟨g, rfl⟩ : ∃ g, r = ad g := by
  rcases hk0 with h | h
  ·omega
  ·exact h
 have hlt := Ml hm.1 i
 refine go ?_
 refine Sv rfl ⟨by omega, by omega⟩ ?_
 refine Sx.ldr rfl (v := wd (m.at_ i)) (by simpa using us_get (Mm.get hi)) ?_
 refine Se_ (MemO.close (a := ad b) (r := ad g) m hm rfl rfl rfl) ?_
 refine Sa rfl (cellsStroke (b := b) (m := m) 1 i (m.at_ i) true hi hlt) ?_
 rintro v L' ⟨rfl, rfl⟩
 rw [putSame m i hi]
 refine go ?_
 exact Kr.two (.inr rfl) rfl rfl (Er _) ⟨rfl, rfl⟩
theorem cellsStore {b : Nat} {m : Mm} {F : St} (i w : Nat) (hi : i < m.ws.length) (hw : w < 18446744073709551616) [t : Take L (ad b) (MemO m) F] :
  FX 214 [zp b, ii i, wd w] L (fun v L' => v = ii 0 ∧ L' = pt (ad b) (MemO (m.put i w)) :: F) := by
 refine Fm Tryz.func214 k214 ?_
 dsimp only [c214, eL]
 refine go ?_
 refine Sa rfl (cellsIs (b := b) (m := m) (i : Int)) ?_
 rintro v L' ⟨rfl, rfl⟩
 rw [dt (show (0 : Int) ≤ i ∧ (i : Int) < m.ws.length by omega)]
 refine go ?_
 refine Sa rfl (cellsStroke (b := b) (m := m) 2 i w true hi hw) ?_
 rintro v L' ⟨rfl, rfl⟩
 refine go ?_
 exact Ko rfl (Er _) ⟨rfl, rfl⟩
theorem cellsCas {b : Nat} {m : Mm} {F : St} (i o w : Nat) (hi : i < m.ws.length) (hw : w < 18446744073709551616) [t : Take L (ad b) (MemO m) F] :
  FX 228 [zp b, ii i, wd o, wd w] L (fun v L' => v = .tuple #[.bool (decide (m.at_ i = o)), ii 0] ∧ L' = pt (ad b) (MemO (m.cas i o w)) :: F) := by
 refine Fm Tryz.func228 k228 ?_
 dsimp only [c228, eL]
 refine go ?_
 refine Sa rfl (cellsIs (b := b) (m := m) (i : Int)) ?_
 rintro v L' ⟨rfl, rfl⟩
 rw [dt (show (0 : Int) ≤ i ∧ (i : Int) < m.ws.length by omega)]
 refine go ?_
 refine Sx.openp (t := t) rfl ?_
 rintro ⟨⟨r, c⟩, ⟨x0, x1, x2, x3, x4⟩⟩
 simp only [memL, lc, ln]
 refine Sx.liftp fun hm => ?_
 refine Sx.rowkey (a := r) fun hx0 hn0 _ hk0 => ?_
 obtain ⟨g, rfl⟩ : ∃ g, r = ad g := by
  rcases hk0 with h | h
  ·omega
  ·exact h
 have hlt := Ml hm.1 i
 refine go ?_
 refine Sv rfl ⟨by omega, by omega⟩ ?_
 refine Sx.ldr rfl (v := wd (m.at_ i)) (by simpa using us_get (Mm.get hi)) (go ?_)
 refine Cx.ifn rfl (fun h => ?_) (fun h => ?_)
 ·have h' : m.at_ i ≠ o := fun e => h (by rw [e])
  refine go ?_
  refine Sv rfl ⟨by omega, by omega⟩ ?_
  refine Sx.ldr rfl (v := wd (m.at_ i)) (by simpa using us_get (Mm.get hi)) ?_
  refine Se_ (MemO.close (a := ad b) (r := ad g) m hm rfl rfl rfl) ?_
  refine Sa rfl (cellsStroke (b := b) (m := m) 3 i (m.at_ i) false hi hlt) ?_
  rintro v L' ⟨rfl, rfl⟩
  rw [putSame m i hi]
  refine go ?_
  refine Kr.two (.inr rfl) rfl rfl (Er _) ⟨?_, ?_⟩
  ·rw [dz h']
  ·unfold Mm.cas; rw [if_neg h']
 ·have h' : m.at_ i = o := by omega
  refine Xe (MemO.close (a := ad b) (r := ad g) m hm rfl rfl rfl) (go ?_)
  refine Sa rfl (cellsStroke (b := b) (m := m) 3 i w true hi hw) ?_
  rintro v L' ⟨rfl, rfl⟩
  refine go ?_
  refine Kr.two (.inr rfl) rfl rfl (Er _) ⟨?_, ?_⟩
  ·rw [dt h']
  ·unfold Mm.cas; rw [if_pos h']
end
section
variable {L F : St}
abbrev mth (f : FuncId) (b : Nat) : Value := .func (.func f) #[zp b] #[]
theorem machGo {b : Nat} {T : TypeId} {nx : Value} {f : FuncId} {w : Value} {rest : List Value} [t : Take L (ad b) (Blk T (nx :: rest)) F] :
  FX 79 [zp b, .func (.func f) #[w] #[]] L (fun v L' => v = .tuple #[] ∧ L' = pt (ad b) (Blk T (.func (.func f) #[w] #[] :: rest)) :: F) := by
 refine Fm Tryz.func79 k79 ?_
 dsimp only [c79, eL]
 refine go ?_
 exact Kr.none (.inl rfl) (Er _) ⟨rfl, rfl⟩
theorem machDoneYes {b : Nat} {T : TypeId} {rest : List Value} [t : Take L (ad b) (Blk T (.nilFunc :: rest)) F] : FX 92 [zp b] L (fun v L' => v = .bool true ∧ L = L') := by
 refine Fm Tryz.func92 k92 ?_
 dsimp only [c92, eL]
 refine go ?_
 exact Ko rfl (Er _) ⟨rfl, rfl⟩
theorem machDoneNo {b : Nat} {T : TypeId} {f : FuncId} {w : Value} {rest : List Value} [t : Take L (ad b) (Blk T (.func (.func f) #[w] #[] :: rest)) F] : FX 92 [zp b] L (fun v L' => v = .bool false ∧ L = L') := by
 refine Fm Tryz.func92 k92 ?_
 dsimp only [c92, eL]
 refine go ?_
 exact Ko rfl (Er _) ⟨rfl, rfl⟩
theorem machStepDone {b : Nat} {T : TypeId} {rest : List Value} [t : Take L (ad b) (Blk T (.nilFunc :: rest)) F] : FX 91 [zp b] L (fun v L' => v = .bool false ∧ L = L') := by
 refine Fm Tryz.func91 k91 ?_
 dsimp only [c91, eL]
 refine go ?_
 exact Ko rfl (Er _) ⟨rfl, rfl⟩
theorem machStep {b : Nat} {T : TypeId} {f : FuncId} {w z1 z2 z3 : Value} {cnt : Int} {rest : List Value} {R : Value → St → Prop} [t : Take L (ad b) (Blk T (.func (.func f) #[w] #[] :: z1 :: z2 :: z3 :: ii cnt :: rest)) F]
  (hc : callable Tryz.prog f = true) (hf : FX f [w] (pt (ad b) (Blk T (.nilFunc :: z1 :: z2 :: z3 :: ii (IntKind.i64.wrap (cnt + 1)) :: rest)) :: F) R) :
  FX 91 [zp b] L (fun v L' => v = .bool true ∧ ∃ u, R u L') := by
 refine Fm Tryz.func91 k91 ?_
 dsimp only [c91, eL]
 refine go ?_
 refine Sx.cl (p := [w]) (q := []) (vs := []) rfl hc rfl hf ?_
 intro u L' hR
 refine go ?_
 exact Ko rfl (Er _) ⟨rfl, u, hR⟩
theorem machOnNo {b : Nat} {T : TypeId} {fd : FuncId} {w nx z1 z3 : Value} {rest : List Value} [t : Take L (ad b) (Blk T (nx :: z1 :: .func (.func fd) #[w] #[] :: z3 :: rest)) F]
  (hc : callable Tryz.prog fd = true) (hd : FX fd [w] L (fun v L' => v = .bool false ∧ L = L')) :
  FX 190 [zp b] L (fun v L' => v = .tuple #[] ∧ L' = pt (ad b) (Blk T (mth 232 b :: z1 :: .func (.func fd) #[w] #[] :: z3 :: rest)) :: F) := by
 refine Fm Tryz.func190 k190 ?_
 dsimp only [c190, eL]
 refine go ?_
 refine Sx.cl (p := [w]) (q := []) (vs := []) rfl hc rfl hd ?_
 rintro v L' ⟨rfl, rfl⟩
 refine go ?_
 exact Kr.none (.inl rfl) (Er _) ⟨rfl, rfl⟩
theorem machOnYes {b : Nat} {T : TypeId} {fd ft : FuncId} {w u nx z1 : Value} {rest : List Value} {R : Value → St → Prop} [t : Take L (ad b) (Blk T (nx :: z1 :: .func (.func fd) #[w] #[] :: .func (.func ft) #[u] #[] :: rest)) F]
  (hc : callable Tryz.prog fd = true) (hd : FX fd [w] L (fun v L' => v = .bool true ∧ L = L')) (hct : callable Tryz.prog ft = true) (ht : FX ft [u] L R) :
  FX 190 [zp b] L (fun v L' => v = .tuple #[] ∧ ∃ x, R x L') := by
 refine Fm Tryz.func190 k190 ?_
 dsimp only [c190, eL]
 refine go ?_
 refine Sx.cl (p := [w]) (q := []) (vs := []) rfl hc rfl hd ?_
 rintro v L' ⟨rfl, rfl⟩
 refine go ?_
 refine Sx.cl (p := [u]) (q := []) (vs := []) rfl hct rfl ht ?_
 intro x L' hR
 refine go ?_
 exact Kr.none (.inr rfl) (Er _) ⟨rfl, x, hR⟩
theorem machThrough {b : Nat} {T : TypeId} {fs fd ft : FuncId} {ws w u nx z1 z2 z3 : Value} {rest : List Value} {R : Value → St → Prop} [t : Take L (ad b) (Blk T (nx :: z1 :: z2 :: z3 :: rest)) F]
  (hon : FX 190 [zp b] (pt (ad b) (Blk T (nx :: .func (.func fs) #[ws] #[] :: .func (.func fd) #[w] #[] :: .func (.func ft) #[u] #[] :: rest)) :: F) R) :
  FX 119 [zp b, .func (.func fs) #[ws] #[], .func (.func fd) #[w] #[], .func (.func ft) #[u] #[]] L (fun v L' => v = .tuple #[] ∧ ∃ x, R x L') := by
 refine Fm Tryz.func119 k119 ?_
 dsimp only [c119, eL]
 refine go ?_
 refine Sa rfl hon ?_
 intro x L' hR
 refine go ?_
 exact Kr.none (.inl rfl) (Er _) ⟨rfl, x, hR⟩
theorem machGoes {b : Nat} {T : TypeId} {fs : FuncId} {ws nx : Value} {rest : List Value} {R1 R2 : Value → St → Prop} [t : Take L (ad b) (Blk T (nx :: .func (.func fs) #[ws] #[] :: rest)) F]
  (hc : callable Tryz.prog fs = true) (hs : FX fs [ws] L R1) (hon : ∀ x L1, R1 x L1 → FX 190 [zp b] L1 R2) :
  FX 232 [zp b] L (fun v L' => v = .tuple #[] ∧ ∃ x, R2 x L') := by
 refine Fm Tryz.func232 k232 ?_
 dsimp only [c232, eL]
 refine go ?_
 refine Sx.cl (p := [ws]) (q := []) (vs := []) rfl hc rfl hs ?_
 intro x L1 hR1
 refine go ?_
 refine Sa rfl (hon x L1 hR1) ?_
 intro y L2 hR2
 refine go ?_
 exact Kr.none (.inl rfl) (Er _) ⟨rfl, y, hR2⟩
end
section
variable {L F G : St}
abbrev skV (mp : Nat) (k : Sk) : List Value := [zp mp, ii k.head, ii k.links, ii k.n]
abbrev SkO (mp : Nat) (k : Sk) : OA → As := Blk 171 (skV mp k)
theorem stackTop {sb mp : Nat} {k : Sk} (w : Nat) (hw : w < 18446744073709551616) [s : Take L (ad sb) (SkO mp k) F] :
  FX 95 [zp sb, wd w] L (fun v L' => v = ii (k.top w) ∧ L = L') := by
 refine Fm Tryz.func95 k95 ?_
 dsimp only [c95, eL]
 refine go ?_
 refine Sa rfl (getHead w hw) ?_
 rintro v L' ⟨rfl, rfl⟩
 refine Sx.al fun g => ?_
 refine Sx.st (b := g) rfl rfl rfl rfl rfl rfl ?_
 dsimp only [lay]
 refine go ?_
 refine Xd rfl kr_ (ge ?_)
 refine Xi rfl (fun h => ?_) (fun h => ?_)
 ·refine go ?_
  exact Ko rfl Ed ⟨by unfold Sk.top; rw [if_pos h], rfl⟩
 ·refine go ?_
  exact Ko rfl Ed ⟨by unfold Sk.top; rw [if_neg h], rfl⟩
theorem stackBelow {sb mp : Nat} {k : Sk} (w : Nat) (hw : w < 18446744073709551616) (hn : k.n ≤ 4096) [s : Take L (ad sb) (SkO mp k) F] :
  FX 96 [zp sb, wd w] L (fun v L' => v = ii (k.below w) ∧ L = L') := by
 refine Fm Tryz.func96 k96 ?_
 dsimp only [c96, eL]
 refine go ?_
 rw [wrap64 (n := k.n) (by omega)]
 refine Xi rfl (fun h => ?_) (fun h => ?_)
 ·refine go ?_
  exact Ko rfl (Er _) ⟨by unfold Sk.below; rw [if_pos (by omega)], rfl⟩
 ·refine go ?_
  rw [w64 (n := (w : Int)) (by omega) (by omega), w64 (n := (w : Int) - 1) (by omega) (by omega)]
  exact Ko rfl (Er _) ⟨by unfold Sk.below; rw [if_neg (by omega)], rfl⟩
theorem stackCell {g mp : Nat} {T : TypeId} {m : Mm} (i : Int) {F G : St} [t : Take L (ad mp) (MemO m) F] [s : Take L (ad g) (Blk T [zp mp]) G] :
  FX 202 [ii i, zp g] L (fun v L' => v = .bool (decide (0 ≤ i ∧ i < m.ws.length)) ∧ L = L') := by
 refine Fm Tryz.func202 k202 ?_
 dsimp only [c202, eL]
 refine go ?_
 refine Sx.ifp rfl (fun h => ?_) (fun h => ?_)
 ·refine go ?_
  refine Sa rfl (cellsLen (b := mp) (m := m)) ?_
  rintro v L' ⟨rfl, rfl⟩
  refine go ?_
  exact Ko rfl (Er _) ⟨congrArg Value.bool (decide_eq_decide.2 (by omega)), rfl⟩
 ·refine go ?_
  exact Ko rfl (Er _) ⟨congrArg Value.bool (dz (fun hh => h hh.1)).symm, rfl⟩
theorem stackNew {mp : Nat} {m : Mm} {k : Sk} (hk : k.ok m.ws.length) [t : Take L (ad mp) (MemO m) F] :
  FX 138 [zp mp, ii k.head, ii k.links, ii k.n] L (fun v L' => ∃ g, v = .tuple #[zp g, ii 0] ∧ L' = pt (ad g) (SkO mp k) :: L) := by
 obtain ⟨h1, h2, h3, h4, h5, h6⟩ := hk
 refine Fm Tryz.func138 k138 ?_
 dsimp only [c138, eL]
 refine Cx.sq ?_
 refine Cx.rg ?_
 refine Sx.bx rfl rfl fun g => (go ?_)
 refine Sx.gyes rfl (dz (by omega)) (go ?_)
 refine Sx.gyes rfl (dz (by omega)) (go ?_)
 refine Sx.cl (p := []) (q := [zp g]) rfl kr_ rfl (stackCell (mp := mp) (m := m) (k.head : Int)) ?_
 rintro v L' ⟨rfl, rfl⟩
 rw [dt (show (0 : Int) ≤ k.head ∧ (k.head : Int) < m.ws.length by omega)]
 refine go ?_
 refine Sx.cl (p := []) (q := [zp g]) rfl kr_ rfl (stackCell (mp := mp) (m := m) (k.links : Int)) ?_
 rintro v L' ⟨rfl, rfl⟩
 rw [dt (show (0 : Int) ≤ k.links ∧ (k.links : Int) < m.ws.length by omega)]
 refine go ?_
 rw [w64 (n := (k.links : Int) + k.n) (by omega) (by omega), w64 (n := (k.links : Int) + k.n - 1) (by omega) (by omega)]
 refine Sx.cl (p := []) (q := [zp g]) rfl kr_ rfl (stackCell (mp := mp) (m := m) ((k.links : Int) + k.n - 1)) ?_
 rintro v L' ⟨rfl, rfl⟩
 rw [dt (show (0 : Int) ≤ (k.links : Int) + k.n - 1 ∧ (k.links : Int) + k.n - 1 < m.ws.length by omega)]
 refine go ?_
 refine Sx.ifp rfl (fun h7 => ?_) (fun h7 => ?_)
 ·refine go ?_
  rw [w64 (n := (k.links : Int) + k.n) (by omega) (by omega)]
  refine Xn rfl (dz (by omega)) (go ?_)
  refine Sx.bx rfl rfl fun q => (go ?_)
  exact Kr.two (.inr rfl) rfl rfl (Ec Ed) ⟨q, rfl, rfl⟩
 ·refine go ?_
  refine Sx.bx rfl rfl fun q => (go ?_)
  exact Kr.two (.inr rfl) rfl rfl (Ec Ed) ⟨q, rfl, rfl⟩
theorem stackExchange {sb mp : Nat} {k : Sk} {m : Mm} (w : Nat) (i : Int) (hk : k.ok m.ws.length) (hw : w < 18446744073709551616) (h1 : -1 ≤ i) (h2 : i < k.n) [t : Take L (ad mp) (MemO m) F] [s : Take F (ad sb) (SkO mp k) G] :
  FX 268 [zp sb, wd w, ii i] L (fun v L' => v = .bool (decide (m.at_ k.head = w)) ∧ L' = pt (ad mp) (MemO (m.cas k.head w (nextW w i))) :: F) := by
 obtain ⟨k1, k2, k3, k4, k5, k6⟩ := hk
 have hlt := nextW_lt (i := i) hw (by omega)
 refine Fm Tryz.func268 k268 ?_
 dsimp only [c268, eL]
 refine Xe (Et (Eo t.out) (Ec (Eo s.out))) (go ?_)
 refine Sa rfl (getHead w hw) ?_
 rintro v L' ⟨rfl, rfl⟩
 refine go ?_
 refine Sa rfl (wordNext _ i _ (hdT_lt hw)) ?_
 rintro v L' ⟨rfl, rfl⟩
 refine go ?_
 refine Sa rfl (putHead i _ h1 (by omega) (laterT_lt (hdT_lt hw))) ?_
 rintro v L' ⟨rfl, rfl⟩
 rw [show laterT (hdT w) * 4294967296 + (i + 1).toNat = nextW w i from rfl]
 refine go ?_
 refine Xd rfl kr_ (ge ?_)
 refine Ea kr_ rfl rfl (cellsCas (b := mp) (m := m) k.head w (nextW w i) k3 hlt) (Pd kr_) ?_
 rintro v L' ⟨rfl, rfl⟩
 refine ge ?_
 refine go ?_
 exact Ko rfl (Ec (Eo s.back)) ⟨rfl, rfl⟩
end
section
variable {L F G : St}
def popNx (a : OA) (q : PopS) : Value := bif q.done then .nilFunc else .func (.func (match q.at_ with | 0 => 222 | 1 => 250 | _ => 263)) #[.pointer a] #[]
def popL (T : TypeId) (sb : Nat) (k : Sk) (q : PopS) (a : OA) (y : (OA × Nat) × Int) : St :=
 [lift (q.ok k), pt a (Blk T [popNx a q, .nilFunc, .nilFunc, .nilFunc, ii y.2, zp sb, ii q.most, ii q.under, wd q.was, .slice y.1.1 q.got.length y.1.2]), pt y.1.1 (Row 3 1 q.got.length y.1.2 (ints q.got))]
def PopT (T : TypeId) (sb : Nat) (k : Sk) (q : PopS) (a : OA) : As := exs (popL T sb k q a)
abbrev PopO := PopT 278
theorem PopO.close {T : TypeId} {sb : Nat} {k : Sk} {a r : OA} {c n : Nat} {cnt : Int} {v0 v1 v2 v3 : Value} {w : List Value} {F G : St} (q : PopS) (hq : q.ok k)
  [t : Take L a (Blk T [v0, .nilFunc, .nilFunc, .nilFunc, ii cnt, zp sb, v1, v2, v3, .slice r n c]) F] [u : Take F r (Row 3 1 n c w) G]
  (h0 : v0 = popNx a q) (h1 : v1 = ii q.most) (h2 : v2 = ii q.under) (h3 : v3 = wd q.was) (hn : n = q.got.length) (hw : w = ints q.got) : Ent L (pt a (PopT T sb k q) :: G) := by
 subst h0; subst h1; subst h2; subst h3; subst hn; subst hw
 refine Et (Em (t := t) (Eo u.out)) ?_
 refine Et (Ent.lift hq (Er _)) ?_
 exact Ent.close (f := popL T sb k q a) rfl ((r, c), cnt)
theorem stackPop {sb : Nat} {k : Sk} (most : Int) (hn : 1 ≤ k.n) : FX 162 [zp sb, ii most] L (fun v L' => ∃ g, v = zp g ∧ L' = pt (ad g) (PopO sb k (PopS.init most)) :: L) := by
 refine Fm Tryz.func162 k162 ?_
 dsimp only [c162, eL]
 refine go ?_
 refine Sx.bx rfl rfl fun g => (go ?_)
 refine Sa rfl (machGo (b := g)) ?_
 rintro v L' ⟨rfl, rfl⟩
 refine go ?_
 refine Ko rfl ?_ ⟨g, rfl, rfl⟩
 refine Et (Ent.rownil 3 1) ?_
 refine PopO.close (a := ad g) (r := none) (sb := sb) (PopS.init most) (PopS.ok_init hn most) rfl ?_ rfl rfl rfl rfl
 refine congrArg (Value.int .i64) ?_
 show _ = min (max most 1) 8
 simp only [cond_true, cond_false]
 (repeat' split) <;> omega
abbrev popF (b sb mp : Nat) (k : Sk) (m : Mm) (q : PopS) (r : OA) (c : Nat) (cnt : Int) (G : St) : St :=
 pt (ad b) (Blk 278 [.nilFunc, .nilFunc, .nilFunc, .nilFunc, ii cnt, zp sb, ii q.most, ii q.under, wd q.was, .slice r q.got.length c]) ::
 pt r (Row 3 1 q.got.length c (ints q.got)) :: pt (ad mp) (MemO m) :: pt (ad sb) (SkO mp k) :: G
abbrev popR (b sb mp : Nat) (k : Sk) (m : Mm) (q : PopS) (G : St) (v : Value) (L' : St) : Prop :=
 L' = pt (ad b) (PopO sb k (popStep k m q).1) :: pt (ad mp) (MemO (popStep k m q).2) :: pt (ad sb) (SkO mp k) :: G
theorem pop_load_ {b sb mp : Nat} {k : Sk} {m : Mm} {q : PopS} {r : OA} {c : Nat} {cnt : Int} (hm : m.ok) (hk : k.ok m.ws.length) (hq : q.ok k) (ha : q.at_ = 0) (hd : q.done = false) :
  FX 222 [zp b] (popF b sb mp k m q r c cnt G) (popR b sb mp k m q G) := by
 have hok := popStep_ok hk hm hq
 have hlt := Ml hm k.head
 obtain ⟨k1, k2, k3, k4, k5, k6⟩ := hk
 have e : ∀ x, popStep k m q = x → popStep k m q = x := fun _ h => h
 refine Fm Tryz.func222 k222 ?_
 dsimp only [c222, eL]
 refine go ?_
 refine Xd rfl kr_ (ge ?_)
 refine Ea kr_ rfl rfl (cellsLoad (b := mp) (m := m) k.head k3) (Pd kr_) ?_
 rintro v L' ⟨rfl, rfl⟩
 refine ge ?_
 refine Es (b := b) kr_ rfl rfl rfl rfl rfl (by rfl) rfl (Pd kr_) (ge ?_)
 refine go ?_
 refine Xd rfl kr_ (ge ?_)
 refine Eb kr_ rfl rfl (stackTop (sb := sb) (mp := mp) (k := k) (m.at_ k.head) hlt) (ge ?_)
 refine go ?_
 refine Xi rfl (fun h => ?_) (fun h => ?_)
 ·have e : popStep k m q = ({ q with was := m.at_ k.head, got := [k.top (m.at_ k.head)], at_ := 1 }, m.tick) := by
   unfold popStep; rw [hd, ha]; simp only [bf, if_false]; rw [if_pos h]
  rw [e] at hok
  refine go ?_
  refine Sx.bs (sz := 1) rfl rfl fun g => ?_
  refine Sx.apn rfl rfl (Rd.row (b := g) (E := 3) (cap := 1) rfl) rfl (by simp [maxLen]) (by omega) fun ra ca hc => (go ?_)
  refine Sa rfl (machGo (b := b)) ?_
  rintro v L' ⟨rfl, rfl⟩
  refine go ?_
  refine Kr.none (.inl rfl) ?_ rfl
  rw [e]
  refine Et (PopO.close (a := ad b) (r := ra) (sb := sb) (k := k) _ hok ?_ rfl rfl rfl rfl rfl) ?_
  ·simp [popNx, hd]
  ·exact ent
 ·have e : popStep k m q = ({ q with was := m.at_ k.head, got := [], done := true }, m.tick) := by
   unfold popStep; rw [hd, ha]; simp only [bf, if_false]; rw [if_neg h]
  rw [e] at hok
  refine go ?_
  refine Kr.none (.inl rfl) ?_ rfl
  rw [e]
  refine Et (Ent.rownil 3 1) ?_
  refine Et (PopO.close (a := ad b) (r := none) (sb := sb) (k := k) _ hok ?_ rfl rfl rfl rfl rfl) ?_
  ·simp [popNx]
  ·exact ent
theorem lastI_get {l : List Int} (h : l ≠ []) : l[l.length - 1]? = some (lastI l) := by
 unfold lastI
 rw [List.getLastD_eq_getLast?, ← List.getLast?_eq_getElem?, List.getLast?_eq_some_getLast h]; rfl
theorem pop_link_ {b sb mp : Nat} {k : Sk} {m : Mm} {q : PopS} {r : OA} {c : Nat} {cnt : Int} (hm : m.ok) (hk : k.ok m.ws.length) (hq : q.ok k) (ha : q.at_ = 1) (hd : q.done = false) :
  FX 250 [zp b] (popF b sb mp k m q r c cnt G) (popR b sb mp k m q G) := by
 have hok := popStep_ok hk hm hq
 have hne := hq.ne hd (by omega)
 have hlp := List.length_pos_iff.2 hne
 have hrg := hq.g _ (lastI_mem hne)
 have hlen := hq.len
 obtain ⟨k1, k2, k3, k4, k5, k6⟩ := hk
 have hx0 : (ints q.got)[q.got.length - 1]? = some (ii (lastI q.got)) := by simp only [ints, List.getElem?_map, lastI_get hne]; rfl
 obtain ⟨x, hx⟩ : ∃ x : Nat, lastI q.got = x := ⟨(lastI q.got).toNat, by omega⟩
 have hlt := Ml hm (k.links + x)
 have hat : k.links + (lastI q.got).toNat = k.links + x := by omega
 refine Fm Tryz.func250 k250 ?_
 dsimp only [c250, eL]
 refine Cx.rowkey (a := r) fun hxl _ _ hkr => ?_
 obtain ⟨rg, rfl⟩ : ∃ g, r = ad g := by
  rcases hkr with h | h
  ·omega
  ·exact h
 refine go ?_
 refine Xd rfl kr_ (ge ?_)
 rw [w64 (n := (q.got.length : Int) - 1) (by omega) (by omega)]
 refine Ev.pvH kr_ rfl rfl ⟨by omega, by omega⟩ ?_
 refine El (b := rg) kr_ rfl rfl (v := ii (lastI q.got)) (by rw [show 0 + ((q.got.length : Int) - 1).toNat * 1 = q.got.length - 1 by omega]; exact hx0) (ge ?_)
 rw [hx, w64 (n := (k.links : Int) + x) (by omega) (by omega), show (k.links : Int) + x = ((k.links + x : Nat) : Int) by omega]
 refine Ea kr_ rfl rfl (cellsLoad (b := mp) (m := m) (k.links + x) (by omega)) (Pd kr_) ?_
 rintro v L' ⟨rfl, rfl⟩
 refine ge ?_
 refine go ?_
 refine Sa rfl (stackBelow (sb := sb) (mp := mp) (k := k) (m.at_ (k.links + x)) hlt k2) ?_
 rintro v L' ⟨rfl, rfl⟩
 refine go ?_
 refine Xd rfl kr_ (ge ?_)
 have hbl := k.below_lt (m.at_ (k.links + x))
 have no : (popStep k m q = ({ q with under := k.below (m.at_ (k.links + x)), at_ := 2 }, m.tick)) → Ent
   (pt (ad b) (Blk 278 [mth 263 b, .nilFunc, .nilFunc, .nilFunc, ii cnt, zp sb, ii q.most, ii (k.below (m.at_ (k.links + x))), wd q.was, .slice (ad rg) q.got.length c]) ::
    pt (ad mp) (MemO m.tick) :: pt (ad rg) (Row 3 1 q.got.length c (ints q.got)) :: pt (ad sb) (SkO mp k) :: G)
   (pt (ad b) (PopO sb k (popStep k m q).1) :: pt (ad mp) (MemO (popStep k m q).2) :: pt (ad sb) (SkO mp k) :: G) := by
  intro e
  rw [e] at hok ⊢
  refine Et (PopO.close (a := ad b) (r := ad rg) (sb := sb) (k := k) _ hok ?_ rfl rfl rfl rfl rfl) (Er _)
  simp [popNx, hd]
 have eno : (¬ (0 ≤ k.below (m.at_ (k.links + x)) ∧ (q.got.length : Int) < q.most)) → popStep k m q = ({ q with under := k.below (m.at_ (k.links + x)), at_ := 2 }, m.tick) := by
  intro h
  unfold popStep; rw [hd, ha]; simp only [bf, if_false]; rw [hat, if_neg h]
 by_cases h0 : 0 ≤ k.below (m.at_ (k.links + x))
 ·refine Ev.yes 49 rfl (dt h0) (ge ?_)
  refine Xi rfl (fun h1 => ?_) (fun h1 => ?_)
  ·have e : popStep k m q = ({ q with under := k.below (m.at_ (k.links + x)), got := q.got ++ [k.below (m.at_ (k.links + x))] }, m.tick) := by
    unfold popStep; rw [hd, ha]; simp only [bf, if_false]; rw [hat, if_pos ⟨h0, h1⟩]
   rw [e] at hok
   refine go ?_
   refine Xd rfl kr_ (ge ?_)
   refine Ev.bsH (sz := 1) kr_ rfl rfl rfl (.dep rfl (.keep (fun v L' ⟨_, _, e⟩ => by subst e; exact Has.cell rfl) .nil)) fun g => (ge ?_)
   refine Ev.apH (ra := ad rg) kr_ rfl rfl rfl (Rd.row (b := g) (E := 3) (cap := 1) rfl) rfl (by simp [maxLen]; omega) (by omega) (Pd kr_) fun ra ca hc hka => (ge ?_)
   refine Es (b := b) kr_ rfl rfl rfl rfl rfl (by rfl) rfl (Pd kr_) (ge ?_)
   refine go ?_
   refine Sa rfl (machGo (b := b)) ?_
   rintro v L' ⟨rfl, rfl⟩
   refine go ?_
   refine Kr.none (.inl rfl) ?_ rfl
   rw [e]
   refine Et (PopO.close (a := ad b) (r := ra) (sb := sb) (k := k) _ hok ?_ rfl rfl rfl (by simp) (by simp [ints_append]; rfl)) ?_
   ·simp [popNx, hd, ha]
   ·exact ent
  ·refine go ?_
   refine Sa rfl (machGo (b := b)) ?_
   rintro v L' ⟨rfl, rfl⟩
   refine go ?_
   exact Kr.none (.inl rfl) (no (eno fun h => h1 h.2)) rfl
 ·refine Ev.no 49 rfl (dz h0) (ge ?_)
  refine go ?_
  refine Sa rfl (machGo (b := b)) ?_
  rintro v L' ⟨rfl, rfl⟩
  refine go ?_
  exact Kr.none (.inl rfl) (no (eno fun h => h0 h.1)) rfl
theorem pop_cas_ {b sb mp : Nat} {k : Sk} {m : Mm} {q : PopS} {r : OA} {c : Nat} {cnt : Int} (hm : m.ok) (hk : k.ok m.ws.length) (hq : q.ok k) (ha : q.at_ = 2) (hd : q.done = false) :
  FX 263 [zp b] (popF b sb mp k m q r c cnt G) (popR b sb mp k m q G) := by
 have hok := popStep_ok hk hm hq
 have e : popStep k m q = ({ q with at_ := 0, done := decide (m.at_ k.head = q.was) }, m.cas k.head q.was (nextW q.was q.under)) := by
  unfold popStep; rw [hd, ha]; rfl
 rw [e] at hok
 refine Fm Tryz.func263 k263 ?_
 dsimp only [c263, eL]
 refine go ?_
 refine Xd rfl kr_ (ge ?_)
 refine Ea kr_ rfl rfl (stackExchange (sb := sb) (mp := mp) (k := k) (m := m) q.was q.under hk hq.w hq.u1 hq.u2) (Pd kr_) ?_
 rintro v L' ⟨rfl, rfl⟩
 refine ge ?_
 refine Cx.ifn rfl (fun h => ?_) (fun h => ?_)
 ·rw [dz h] at e hok
  refine go ?_
  refine Sa rfl (machGo (b := b)) ?_
  rintro v L' ⟨rfl, rfl⟩
  refine go ?_
  refine Kr.none (.inl rfl) ?_ rfl
  rw [e]
  refine Et (PopO.close (a := ad b) (r := r) (sb := sb) (k := k) _ hok ?_ rfl rfl rfl rfl rfl) ?_
  ·simp [popNx]
  ·exact ent
 ·rw [dt h] at e hok
  refine go ?_
  refine Kr.none (.inl rfl) ?_ rfl
  rw [e]
  refine Et (PopO.close (a := ad b) (r := r) (sb := sb) (k := k) _ hok ?_ rfl rfl rfl rfl rfl) ?_
  ·simp [popNx]
  ·exact ent
theorem memKey {b : Nat} {m : Mm} {F : St} [t : Take L (ad b) (MemO m) F] : ∀ h, holds L h → m.ok ∧ m.ws.length ≤ 8388608 := by
 intro h hh
 have h1 := t.out h hh
 obtain ⟨y, hy⟩ := holds_ex.1 h1
 have := holds_lift.1 hy
 exact ⟨this.1.1, this.1.2.1⟩
theorem popStepC {b sb mp : Nat} {k : Sk} {m : Mm} {q : PopS} {F1 F2 : St} (hk : k.ok m.ws.length) [tp : Take L (ad b) (PopO sb k q) F1] [t : Take F1 (ad mp) (MemO m) F2] [s : Take F2 (ad sb) (SkO mp k) G] :
  FX 163 [zp b] L (fun v L' => v = .bool (!q.done) ∧ L' = pt (ad b) (PopO sb k (popStep k m q).1) :: pt (ad mp) (MemO (popStep k m q).2) :: F2) := by
 refine Fm Tryz.func163 k163 ?_
 dsimp only [c163, eL]
 refine Xe (Et (Eo tp.out) (Ec (Et (Eo t.out) (Ec (Eo s.out))))) ?_
 refine Cx.pure (memKey (b := mp) (m := m)) fun hm => ?_
 refine Xo (a := ad b) rfl ?_
 rintro ⟨⟨r, c⟩, cnt⟩
 simp only [popL, lc, ln]
 refine Cx.liftp fun hq => ?_
 cases hd : q.done with
 | true =>
   have e : popStep k m q = (q, m) := by unfold popStep; rw [hd]; rfl
   rw [e, show popNx (ad b) q = .nilFunc by simp [popNx, hd]]
   refine go ?_
   refine Sa rfl (machStepDone (b := b)) ?_
   rintro v L' ⟨rfl, rfl⟩
   refine go ?_
   refine Ko rfl ?_ ⟨rfl, rfl⟩
   refine Et (PopO.close (a := ad b) (r := r) (sb := sb) (k := k) q hq ?_ rfl rfl rfl rfl rfl) (Ec (Ec (Eo s.back)))
   simp [popNx, hd]
 | false =>
   have hcase := hq.a
   rcases (show q.at_ = 0 ∨ q.at_ = 1 ∨ q.at_ = 2 by omega) with ha | ha | ha
   ·rw [show popNx (ad b) q = .func (.func 222) #[zp b] #[] by simp [popNx, hd, ha]]
    refine go ?_
    refine Sa rfl (machStep (b := b) kr_ (pop_load_ (G := G) hm.1 hk hq ha hd)) ?_
    rintro v L' ⟨rfl, u, rfl⟩
    refine go ?_
    exact Ko rfl (Ec (Ec (Eo s.back))) ⟨rfl, rfl⟩
   ·rw [show popNx (ad b) q = .func (.func 250) #[zp b] #[] by simp [popNx, hd, ha]]
    refine go ?_
    refine Sa rfl (machStep (b := b) kr_ (pop_link_ (G := G) hm.1 hk hq ha hd)) ?_
    rintro v L' ⟨rfl, u, rfl⟩
    refine go ?_
    exact Ko rfl (Ec (Ec (Eo s.back))) ⟨rfl, rfl⟩
   ·rw [show popNx (ad b) q = .func (.func 263) #[zp b] #[] by simp [popNx, hd, ha]]
    refine go ?_
    refine Sa rfl (machStep (b := b) kr_ (pop_cas_ (G := G) hm.1 hk hq ha hd)) ?_
    rintro v L' ⟨rfl, u, rfl⟩
    refine go ?_
    exact Ko rfl (Ec (Ec (Eo s.back))) ⟨rfl, rfl⟩
theorem popDoneC {b sb : Nat} {k : Sk} {q : PopS} {F1 : St} [tp : Take L (ad b) (PopO sb k q) F1] : FX 164 [zp b] L (fun v L' => v = .bool q.done ∧ L = L') := by
 refine Fx.kept (t := tp) ?_
 refine Fm Tryz.func164 k164 ?_
 dsimp only [c164, eL]
 refine Xo (t := tp) rfl ?_
 rintro ⟨⟨r, c⟩, cnt⟩
 simp only [popL, lc, ln]
 refine Cx.liftp fun hq => ?_
 cases hd : q.done with
 | true =>
   have e : popNx (ad b) q = .nilFunc := by simp [popNx, hd]
   rw [e]
   refine go ?_
   refine Sa rfl (machDoneYes (b := b)) ?_
   rintro v L' ⟨rfl, rfl⟩
   refine go ?_
   exact Ko rfl (PopO.close (a := ad b) (r := r) (sb := sb) (k := k) q hq e.symm rfl rfl rfl rfl rfl) ⟨rfl, rfl⟩
 | false =>
   have e : popNx (ad b) q = .func (.func (match q.at_ with | 0 => 222 | 1 => 250 | _ => 263)) #[zp b] #[] := by simp [popNx, hd]
   rw [e]
   refine go ?_
   refine Sa rfl (machDoneNo (b := b)) ?_
   rintro v L' ⟨rfl, rfl⟩
   refine go ?_
   exact Ko rfl (PopO.close (a := ad b) (r := r) (sb := sb) (k := k) q hq e.symm rfl rfl rfl rfl rfl) ⟨rfl, rfl⟩
theorem popGot {b sb : Nat} {k : Sk} {q : PopS} {F1 : St} (hd : q.done = true) [tp : Take L (ad b) (PopO sb k q) F1] : FX 223 [zp b] L
  (fun v L' => ∃ ro co, v = .slice ro q.got.length co ∧ L' = pt ro (Row 3 1 q.got.length co (ints q.got)) :: pt (ad b) (PopO sb k q) :: F1) := by
 refine Fm Tryz.func223 k223 ?_
 dsimp only [c223, eL]
 refine go ?_
 refine Sa rfl (popDoneC (b := b) (sb := sb) (k := k) (q := q)) ?_
 rintro v L' ⟨rfl, rfl⟩
 rw [hd]
 refine go ?_
 refine Sx.openp (t := tp) rfl ?_
 rintro ⟨⟨r, c⟩, cnt⟩
 simp only [popL, lc, ln]
 refine Sx.liftp fun hq => ?_
 have hlen := hq.len
 refine go ?_
 refine Sx.rowkey (a := r) fun hxl _ _ hkr => ?_
 refine Sa rfl (clone (Rd.any (a := r) hxl (hkr.imp (fun h => h.2.1) id)) (ones_ints _) (by omega)) ?_
 rintro v L' ⟨ra, ca, rfl, rfl⟩
 refine go ?_
 refine Ko rfl (Ec (PopO.close (a := ad b) (r := r) (sb := sb) (k := k) q hq rfl rfl rfl rfl rfl rfl)) ⟨ra, ca, rfl, rfl⟩
end
end
structure Lm where
 t0 : Int
 x0 : List Int
 t1 : Int
 x1 : List Int
 t2 : Int
 x2 : List Int
 last : Int
def Lm.tag (m : Lm) (k : Nat) : Int := match k with | 0 => m.t0 | 1 => m.t1 | _ => m.t2
def Lm.items (m : Lm) (k : Nat) : List Int := match k with | 0 => m.x0 | 1 => m.x1 | _ => m.x2
def Lm.put (m : Lm) (k : Nat) (t : Int) (xs : List Int) : Lm := match k with
 | 0 => { m with t0 := t, x0 := xs }
 | 1 => { m with t1 := t, x1 := xs }
 | _ => { m with t2 := t, x2 := xs }
def Lm.nil : Lm := ⟨0, [], 0, [], 0, [], 0⟩
def Lm.size (m : Lm) : Nat := m.x0.length + m.x1.length + m.x2.length
def refused (m : Lm) (tag : Int) (ys : List Int) : Prop := ys = [] ∨ tag < 0 ∨ 4611686018427387903 < tag ∨ tag < m.last
def bucketOf (tag : Int) : Nat := tag.toNat % 3
def outM (m : Lm) (tag : Int) : List Int := if m.tag (bucketOf tag) < tag then m.items (bucketOf tag) else []
def retireM (m : Lm) (tag : Int) (ys : List Int) : Lm := { m.put (bucketOf tag) tag ((if m.tag (bucketOf tag) < tag then [] else m.items (bucketOf tag)) ++ ys) with last := tag }
def openM (now t : Int) (xs : List Int) : Bool := decide (0 < xs.length ∧ t ≤ now - 2)
def Lm.open_ (m : Lm) (now : Int) (k : Nat) : Bool := openM now (m.tag k) (m.items k)
def leastUp (now : Int) (m : Lm) : Nat → Option Nat
 | 0 => none
 | k + 1 => bif m.open_ now k then (match leastUp now m k with | none => some k | some j => if m.tag k < m.tag j then some k else some j) else leastUp now m k
theorem leastUp_lt {now : Int} {m : Lm} : ∀ {k j : Nat}, leastUp now m k = some j → j < k ∧ m.open_ now j = true
 | 0, j, h => by cases h
 | k + 1, j, h => by
   unfold leastUp at h
   cases ho : m.open_ now k with
   | false =>
     rw [ho, cond_false] at h
     have := leastUp_lt h
     exact ⟨by omega, this.2⟩
   | true =>
     rw [ho, cond_true] at h
     split at h
     ·cases h; exact ⟨by omega, ho⟩
     ·rename_i i hi
      have := leastUp_lt hi
      split at h
      ·cases h; exact ⟨by omega, ho⟩
      ·cases h; exact ⟨by omega, this.2⟩
theorem leastUp_no {now : Int} {m : Lm} {k : Nat} (h : m.open_ now k = false) : leastUp now m (k + 1) = leastUp now m k := by simp [leastUp, h]
theorem leastUp_first {now : Int} {m : Lm} {k : Nat} (h : m.open_ now k = true) (h2 : leastUp now m k = none) : leastUp now m (k + 1) = some k := by simp [leastUp, h, h2]
theorem leastUp_less {now : Int} {m : Lm} {k j : Nat} (h : m.open_ now k = true) (h2 : leastUp now m k = some j) (h3 : m.tag k < m.tag j) : leastUp now m (k + 1) = some k := by simp [leastUp, h, h2, h3]
theorem leastUp_keep {now : Int} {m : Lm} {k j : Nat} (h : m.open_ now k = true) (h2 : leastUp now m k = some j) (h3 : ¬ m.tag k < m.tag j) : leastUp now m (k + 1) = some j := by simp [leastUp, h, h2, h3]
def one (xs : List Int) : Nat := if xs = [] then 0 else 1
def Lm.cnt (m : Lm) : Nat := one m.x0 + one m.x1 + one m.x2
def readyM (now : Int) : Nat → Lm → List Int × Lm
 | 0, m => ([], m)
 | f + 1, m => match leastUp now m 3 with
   | none => ([], m)
   | some j => (m.items j ++ (readyM now f (m.put j 0 [])).1, (readyM now f (m.put j 0 [])).2)
def readyAll (now : Int) (m : Lm) : List Int × Lm := if 2 ≤ now then readyM now m.cnt m else ([], m)
theorem cnt_put {m : Lm} {j : Nat} (hj : j < 3) (hx : m.items j ≠ []) : m.cnt = (m.put j 0 []).cnt + 1 := by
 rcases (show j = 0 ∨ j = 1 ∨ j = 2 by omega) with rfl | rfl | rfl <;> simp [Lm.cnt, Lm.put, one, Lm.items] at hx ⊢ <;> simp [hx] <;> omega
theorem open_ne {now : Int} {m : Lm} {j : Nat} (h : m.open_ now j = true) : m.items j ≠ [] := by
 intro e
 simp [Lm.open_, openM, e] at h
theorem size_put {m : Lm} {j : Nat} (hj : j < 3) : m.size = (m.put j 0 []).size + (m.items j).length := by
 rcases (show j = 0 ∨ j = 1 ∨ j = 2 by omega) with rfl | rfl | rfl <;> simp [Lm.size, Lm.put, Lm.items] <;> omega
theorem leastUp_none {now : Int} {m : Lm} : ∀ {k : Nat}, leastUp now m k = none → ∀ j, j < k → m.open_ now j = false
 | 0, _, j, hj => by omega
 | k + 1, h, j, hj => by
   unfold leastUp at h
   cases ho : m.open_ now k with
   | true =>
     rw [ho, cond_true] at h
     split at h
     ·cases h
     ·split at h <;> cases h
   | false =>
     rw [ho, cond_false] at h
     rcases (show j < k ∨ j = k by omega) with h1 | rfl
     ·exact leastUp_none h j h1
     ·exact ho
def closeAll (now : Int) (m : Lm) : Lm :=
 ⟨if m.open_ now 0 then 0 else m.t0, if m.open_ now 0 then [] else m.x0, if m.open_ now 1 then 0 else m.t1, if m.open_ now 1 then [] else m.x1, if m.open_ now 2 then 0 else m.t2, if m.open_ now 2 then [] else m.x2, m.last⟩
def opened (now : Int) (m : Lm) : List Int := (if m.open_ now 0 then m.x0 else []) ++ ((if m.open_ now 1 then m.x1 else []) ++ (if m.open_ now 2 then m.x2 else []))
theorem close_none {now : Int} {m : Lm} (h : ∀ j, j < 3 → m.open_ now j = false) : closeAll now m = m ∧ opened now m = [] := by
 simp [closeAll, opened, h 0 (by omega), h 1 (by omega), h 2 (by omega)]
theorem open_put {now : Int} {m : Lm} {j : Nat} : (m.put j 0 []).open_ now j = false := by
 match j with
 | 0 => simp [Lm.open_, openM, Lm.put, Lm.items]
 | 1 => simp [Lm.open_, openM, Lm.put, Lm.items]
 | n + 2 => simp [Lm.open_, openM, Lm.put, Lm.items]
theorem close_put {now : Int} {m : Lm} {j : Nat} (hj : j < 3) (ho : m.open_ now j = true) : closeAll now (m.put j 0 []) = closeAll now m ∧ (m.items j ++ opened now (m.put j 0 [])).Perm (opened now m) := by
 rcases (show j = 0 ∨ j = 1 ∨ j = 2 by omega) with rfl | rfl | rfl
 ·have h1 : (m.put 0 0 []).open_ now 1 = m.open_ now 1 := rfl
  have h2 : (m.put 0 0 []).open_ now 2 = m.open_ now 2 := rfl
  refine ⟨?_, ?_⟩
  ·unfold closeAll; rw [open_put, h1, h2, ho]; rfl
  ·unfold opened; rw [open_put, h1, h2, ho]; exact List.Perm.refl _
 ·have h1 : (m.put 1 0 []).open_ now 0 = m.open_ now 0 := rfl
  have h2 : (m.put 1 0 []).open_ now 2 = m.open_ now 2 := rfl
  refine ⟨?_, ?_⟩
  ·unfold closeAll; rw [open_put, h1, h2, ho]; rfl
  ·unfold opened; rw [open_put, h1, h2, ho]
   show (m.x1 ++ ((if m.open_ now 0 then m.x0 else []) ++ ([] ++ (if m.open_ now 2 then m.x2 else [])))).Perm ((if m.open_ now 0 then m.x0 else []) ++ (m.x1 ++ (if m.open_ now 2 then m.x2 else [])))
   rw [ln, ← List.append_assoc, ← List.append_assoc]
   exact List.Perm.append_right _ List.perm_append_comm
 ·have h1 : (m.put 2 0 []).open_ now 0 = m.open_ now 0 := rfl
  have h2 : (m.put 2 0 []).open_ now 1 = m.open_ now 1 := rfl
  refine ⟨?_, ?_⟩
  ·unfold closeAll; rw [open_put, h1, h2, ho]; rfl
  ·unfold opened; rw [open_put, h1, h2, ho]
   show (m.x2 ++ ((if m.open_ now 0 then m.x0 else []) ++ ((if m.open_ now 1 then m.x1 else []) ++ []))).Perm ((if m.open_ now 0 then m.x0 else []) ++ ((if m.open_ now 1 then m.x1 else []) ++ m.x2))
   rw [List.append_nil, ← List.append_assoc (if m.open_ now 0 then m.x0 else [])]
   exact List.perm_append_comm
theorem cnt_zero {m : Lm} (h : m.cnt = 0) : ∀ j, m.items j = [] := by
 unfold Lm.cnt one at h
 intro j
 have h0 : m.x0 = [] := by false_or_by_contra; rename_i hh; simp [hh] at h
 have h1 : m.x1 = [] := by false_or_by_contra; rename_i hh; simp [hh] at h
 have h2 : m.x2 = [] := by false_or_by_contra; rename_i hh; simp [hh] at h
 unfold Lm.items
 split
 ·exact h0
 ·exact h1
 ·exact h2
theorem readyM_spec {now : Int} : ∀ (f : Nat) (m : Lm), m.cnt ≤ f → (readyM now f m).2 = closeAll now m ∧ (readyM now f m).1.Perm (opened now m)
 | 0, m, h => by
   have hz := cnt_zero (m := m) (by omega)
   have hn : ∀ j, j < 3 → m.open_ now j = false := fun j _ => by simp [Lm.open_, openM, hz j]
   have := close_none hn
   rw [this.1, this.2]
   exact ⟨rfl, List.Perm.refl _⟩
 | f + 1, m, h => by
   cases hl : leastUp now m 3 with
   | none =>
     have := close_none (leastUp_none hl)
     rw [this.1, this.2]
     simp [readyM, hl]
   | some j =>
     obtain ⟨hj, ho⟩ := leastUp_lt hl
     have hc := cnt_put hj (open_ne ho)
     have ih := readyM_spec (now := now) f (m.put j 0 []) (by omega)
     have hp := close_put hj ho
     simp only [readyM, hl]
     exact ⟨ih.1.trans hp.1, (List.Perm.append_left _ ih.2).trans hp.2⟩
theorem readyAll_spec {now : Int} {m : Lm} (h : 2 ≤ now) : (readyAll now m).2 = closeAll now m ∧ (readyAll now m).1.Perm (opened now m) := by
 unfold readyAll
 rw [if_pos h]
 exact readyM_spec _ _ (Nat.le_refl _)
theorem size_retire (m : Lm) (tag : Int) (ys : List Int) : (retireM m tag ys).size ≤ m.size + ys.length ∧ (outM m tag).length ≤ m.size := by
 have hlt : bucketOf tag < 3 := Nat.mod_lt _ (by omega)
 unfold retireM outM
 generalize bucketOf tag = k at *
 rcases (show k = 0 ∨ k = 1 ∨ k = 2 by omega) with rfl | rfl | rfl <;> constructor <;> split <;> simp [Lm.size, Lm.put, Lm.items] <;> omega
theorem size_ready (now : Int) (m : Lm) : (readyAll now m).1.length + (readyAll now m).2.size = m.size := by
 by_cases h : 2 ≤ now
 ·have := readyAll_spec (m := m) h
  rw [this.1, this.2.length_eq]
  unfold opened closeAll Lm.size
  simp only [List.length_append]
  cases m.open_ now 0 <;> cases m.open_ now 1 <;> cases m.open_ now 2 <;> simp <;> omega
 ·unfold readyAll
  rw [if_neg h]; simp
def cutE (w : Nat) : Int := min (w : Int) 4611686018427387903
structure SupS where
 most : Int
 xs : List Int
 lm : Lm
def SupS.nil (most : Int) : SupS := ⟨min (max most 0) 64, [], Lm.nil⟩
def SupS.give (s : SupS) (l : List Int) : SupS := { s with xs := s.xs ++ l }
def SupS.ready (s : SupS) (now : Int) : SupS := ⟨s.most, s.xs ++ (readyAll now s.lm).1, (readyAll now s.lm).2⟩
def SupS.kept (s : SupS) : SupS := { s with xs := s.xs.dropLast }
structure TakeS where
 at_ : Nat
 chunk : Int
 is_ : Bool
 seen : Int
 q : PopS
 done : Bool
def TakeS.none_ : TakeS := ⟨0, 0, false, -1, PopS.init 1, false⟩
def keepT (s : SupS) (t : TakeS) : Option (SupS × TakeS) := if s.xs = [] then none else some (s.kept, { t with chunk := lastI s.xs, is_ := true, done := true })
def takeInit (batch : Int) (s : SupS) : SupS × TakeS :=
 match keepT s TakeS.none_ with
 | some r => r
 | none => if 0 < s.lm.size then (s, TakeS.none_) else (s, { TakeS.none_ with at_ := 1, q := PopS.init batch })
def popped (s : SupS) (t : TakeS) : SupS × TakeS :=
 match t.q.got with
 | [] => (s, { t with done := true })
 | x :: l => (s.give l, { t with chunk := x, is_ := true, done := true })
def takeStep (k : Sk) (batch : Int) (m : Mm) (s : SupS) (t : TakeS) : Mm × SupS × TakeS :=
 if t.done then (m, s, t) else
 match t.at_ with
 | 0 =>
   let t1 : TakeS := { t with seen := cutE (m.at_ 2) }
   let s1 := s.ready (cutE (m.at_ 2))
   match keepT s1 t1 with
   | some r => (m.tick, r)
   | none => (m.tick, s1, { t1 with at_ := 1, q := PopS.init batch })
 | _ =>
   let r := popStep k m t.q
   let t1 : TakeS := { t with q := r.1 }
   if r.1.done then (r.2, popped s t1) else (r.2, s, t1)
def ChainL (k : Sk) (m : Mm) : Int → List Int → Prop
 | i, [] => i = -1
 | i, x :: l => i = x ∧ 0 ≤ x ∧ x < k.n ∧ ChainL k m (k.below (m.at_ (k.links + x.toNat))) l
structure Pool (k : Sk) (m : Mm) (l : List Int) : Prop where
 c : ChainL k m (k.top (m.at_ k.head)) l
 nd : l.Nodup
theorem ChainL.mem {k : Sk} {m : Mm} : ∀ {l : List Int} {i : Int}, ChainL k m i l → ∀ x ∈ l, 0 ≤ x ∧ x < k.n
 | [], _, _, x, hx => by cases hx
 | y :: l, i, h, x, hx => by
   obtain ⟨_, h1, h2, h3⟩ := h
   rcases List.mem_cons.1 hx with rfl | hx
   ·exact ⟨h1, h2⟩
   ·exact h3.mem x hx
theorem ChainL.congr {k : Sk} {m m' : Mm} : ∀ {l : List Int} {i : Int}, ChainL k m i l → (∀ x ∈ l, m'.at_ (k.links + x.toNat) = m.at_ (k.links + x.toNat)) → ChainL k m' i l
 | [], _, h, _ => h
 | y :: l, i, h, e => by
   obtain ⟨h0, h1, h2, h3⟩ := h
   refine ⟨h0, h1, h2, ?_⟩
   rw [e y (by simp)]
   exact h3.congr fun x hx => e x (by simp [hx])
theorem ChainL.head_ {k : Sk} {m : Mm} {l : List Int} {i : Int} (h : ChainL k m i l) : i = l.headD (-1) := by
 cases l with
 | nil => exact h
 | cons x l => exact h.1
theorem ChainL.drop_ {k : Sk} {m : Mm} : ∀ {l : List Int} {i : Int} {j : Nat}, ChainL k m i l → (hj : j < l.length) → ChainL k m (k.below (m.at_ (k.links + (l[j]).toNat))) (l.drop (j + 1))
 | x :: l, i, 0, h, _ => by simpa using h.2.2.2
 | x :: l, i, j + 1, h, hj => by
   have := h.2.2.2.drop_ (j := j) (by simpa using hj)
   simpa using this
def popIt (k : Sk) : Nat → PopS × Mm → PopS × Mm
 | 0, s => s
 | n + 1, s => popIt k n (popStep k s.2 s.1)
theorem popIt_add (k : Sk) : ∀ (a b : Nat) (s : PopS × Mm), popIt k (a + b) s = popIt k b (popIt k a s)
 | 0, b, s => by simp [popIt]
 | a + 1, b, s => by
   rw [show a + 1 + b = (a + b) + 1 by omega]
   exact popIt_add k a b _
theorem popIt_succ (k : Sk) (a : Nat) (s : PopS × Mm) : popIt k (a + 1) s = popStep k (popIt k a s).2 (popIt k a s).1 := popIt_add k a 1 s
def Mm.add (m : Mm) (j : Nat) : Mm := ⟨m.ws, m.n + j⟩
theorem pop_links {k : Sk} {m : Mm} {l : List Int} (hp : Pool k m l) (most : Int) (h1 : 1 ≤ most) (h8 : most ≤ 8) (hl : l ≠ []) :
  ∀ j : Nat, 1 ≤ j → (j : Int) ≤ most → j ≤ l.length → ∃ u : Int, popIt k j (PopS.init most, m) = (⟨most, 1, u, m.at_ k.head, l.take j, false⟩, m.add j) := by
 intro j
 induction j with
 | zero => intro h; omega
 | succ j ih =>
   intro _ hm hj
   rw [popIt_succ]
   by_cases hj0 : j = 0
   ·subst hj0
    obtain ⟨x, l', rfl⟩ := List.exists_cons_of_ne_nil hl
    have hc := hp.c
    have e1 : k.top (m.at_ k.head) = x := hc.1
    have e2 := hc.2.1
    refine ⟨0, ?_⟩
    simp only [popIt, PopS.init, popStep, bf, if_false, e1, if_pos e2]
    simp [Mm.add, Mm.tick]
    omega
   ·obtain ⟨u, hu⟩ := ih (by omega) (by omega) (by omega)
    rw [hu]
    have hlast : lastI (l.take j) = l[j - 1] := by
     unfold lastI
     rw [List.getLastD_eq_getLast?, List.getLast?_eq_getElem?]
     simp only [List.length_take, Nat.min_eq_left (show j ≤ l.length by omega)]
     rw [List.getElem?_take_of_lt (by omega), List.getElem?_eq_getElem (by omega)]; rfl
    have hd := hp.c.drop_ (j := j - 1) (by omega)
    rw [show j - 1 + 1 = j by omega, List.drop_eq_getElem_cons (by omega)] at hd
    have e1 : k.below (m.at_ (k.links + (l[j - 1]).toNat)) = l[j] := hd.1
    have e2 : 0 ≤ l[j] := hd.2.1
    refine ⟨l[j], ?_⟩
    have hat : ∀ i, (m.add j).at_ i = m.at_ i := fun _ => rfl
    have hlen : ((l.take j).length : Int) < most := by rw [List.length_take]; omega
    simp only [popStep, bf, if_false, hlast, hat, e1]
    rw [if_pos ⟨e2, hlen⟩, List.take_succ_eq_append_getElem (by omega)]
    simp [Mm.add, Mm.tick]; omega
theorem take_last {l : List Int} {j : Nat} (h0 : 0 < j) (hj : j ≤ l.length) : lastI (l.take j) = l[j - 1] := by
 unfold lastI
 rw [List.getLastD_eq_getLast?, List.getLast?_eq_getElem?]
 simp only [List.length_take, Nat.min_eq_left hj]
 rw [List.getElem?_take_of_lt (by omega), List.getElem?_eq_getElem (by omega)]; rfl
theorem pop_cas {k : Sk} {m : Mm} {l : List Int} (hp : Pool k m l) (most : Int) (h1 : 1 ≤ most) (h8 : most ≤ 8) (hl : l ≠ []) (c : Nat) (hc : (c : Int) = min most l.length) :
  popIt k (c + 1) (PopS.init most, m) = (⟨most, 2, (l.drop c).headD (-1), m.at_ k.head, l.take c, false⟩, m.add (c + 1)) := by
 have hlp := List.length_pos_iff.2 hl
 obtain ⟨u, hu⟩ := pop_links hp most h1 h8 hl c (by omega) (by omega) (by omega)
 rw [popIt_succ, hu]
 have hat : ∀ i, (m.add c).at_ i = m.at_ i := fun _ => rfl
 have hd := (hp.c.drop_ (j := c - 1) (by omega)).head_
 rw [show c - 1 + 1 = c by omega] at hd
 simp only [popStep, bf, if_false, take_last (l := l) (j := c) (by omega) (by omega), hat, hd]
 rw [if_neg]
 ·simp [Mm.add, Mm.tick]; omega
 ·rintro ⟨h2, h3⟩
  rw [List.length_take] at h3
  have : c = l.length := by omega
  rw [this, List.drop_length] at h2
  simp at h2
theorem pop_alone {k : Sk} {m : Mm} {l : List Int} {len : Nat} (hk : k.ok len) (hml : m.ws.length = len) (hp : Pool k m l) (most : Int) (h1 : 1 ≤ most) (h8 : most ≤ 8) (hl : l ≠ []) (c : Nat) (hc : (c : Int) = min most l.length) :
  ∃ m', popIt k (c + 2) (PopS.init most, m) = (⟨most, 0, (l.drop c).headD (-1), m.at_ k.head, l.take c, true⟩, m') ∧ m'.n = m.n + (c + 2) ∧ m'.ws.length = len ∧ Pool k m' (l.drop c) ∧ (∀ a, a ≠ k.head → m'.at_ a = m.at_ a) ∧
   (∀ j, j < c + 2 → (popIt k j (PopS.init most, m)).1.done = false) := by
 have hlp := List.length_pos_iff.2 hl
 have hcas := pop_cas hp most h1 h8 hl c hc
 have hat : ∀ i, (m.add (c + 1)).at_ i = m.at_ i := fun _ => rfl
 have hn2 := hk.n2
 have hcd : (l.drop c).headD (-1) = k.below (m.at_ (k.links + (l[c - 1]).toNat)) := by
  have hd := (hp.c.drop_ (j := c - 1) (by omega)).head_
  rw [show c - 1 + 1 = c by omega] at hd
  exact hd.symm
 have hb1 := k.below_ge (m.at_ (k.links + (l[c - 1]).toNat))
 have hb2 := k.below_lt (m.at_ (k.links + (l[c - 1]).toNat))
 have hm1 : (m.add (c + 1)).ws.length = len := hml
 have hhd := hk.h
 have hput : ∀ a v, ((m.add (c + 1)).put k.head v).at_ a = if k.head = a then v else m.at_ a := fun a v => by
  rw [Mp _ (by omega), hat]
 refine ⟨(m.add (c + 1)).put k.head (nextW (m.at_ k.head) ((l.drop c).headD (-1))), ?_, ?_, ?_, ⟨?_, ?_⟩, ?_, ?_⟩
 ·rw [show c + 2 = (c + 1) + 1 by omega, popIt_succ, hcas]
  simp [popStep, hat, Mm.cas]
 ·simp [Mm.put, Mm.add]; omega
 ·rw [Mm.len_put]; exact hml
 ·have e1 : k.top (nextW (m.at_ k.head) ((l.drop c).headD (-1))) = (l.drop c).headD (-1) := by
   unfold Sk.top
   rw [hdI_next (by omega) (by omega), if_pos (by omega)]
  rw [hput, if_pos rfl, e1, hcd]
  have hd := hp.c.drop_ (j := c - 1) (by omega)
  rw [show c - 1 + 1 = c by omega] at hd
  refine hd.congr fun x hx => ?_
  have hx2 := hp.c.mem x (List.mem_of_mem_drop hx)
  rw [hput, if_neg]
  have := hk.a; have := hk.l
  omega
 ·exact hp.nd.sublist (List.drop_sublist _ _)
 ·intro a ha
  rw [hput, if_neg (fun h => ha h.symm)]
 ·intro j hj
  by_cases h0 : j = 0
  ·subst h0; rfl
  ·by_cases hjc : j ≤ c
   ·obtain ⟨u, hu⟩ := pop_links hp most h1 h8 hl j (by omega) (by omega) (by omega)
    rw [hu]
   ·rw [show j = c + 1 by omega, hcas]
def pushIt (k : Sk) : Nat → PushS × Mm → PushS × Mm
 | 0, s => s
 | n + 1, s => pushIt k n (pushStep k s.2 s.1)
theorem pushIt_add (k : Sk) : ∀ (a b : Nat) (s : PushS × Mm), pushIt k (a + b) s = pushIt k b (pushIt k a s)
 | 0, b, s => by simp [pushIt]
 | a + 1, b, s => by
   rw [show a + 1 + b = (a + b) + 1 by omega]
   exact pushIt_add k a b _
theorem pushIt_succ (k : Sk) (a : Nat) (s : PushS × Mm) : pushIt k (a + 1) s = pushStep k (pushIt k a s).2 (pushIt k a s).1 := pushIt_add k a 1 s
theorem nodup_inj {l : List Int} (h : l.Nodup) {i j : Nat} (hi : i < l.length) (hj : j < l.length) (e : l[i] = l[j]) : i = j := by
 have hp := List.pairwise_iff_getElem.1 h
 rcases Nat.lt_trichotomy i j with h1 | h1 | h1
 ·exact absurd e (hp i j hi hj h1)
 ·exact h1
 ·exact absurd e.symm (hp j i hj hi h1)
theorem Sk.below_link (k : Sk) {i : Int} (h1 : -1 ≤ i) (h2 : i < k.n) : k.below (i + 1).toNat = i := by
 unfold Sk.below
 rw [if_neg (by omega)]
 omega
theorem itI_eq {l : List Int} {i : Nat} (h : i < l.length) : itI l i = l[i] := by simp [itI, h]
theorem push_links {k : Sk} {m : Mm} {x : List Int} {len : Nat} (hk : k.ok len) (hml : m.ws.length = len) (hx : x ≠ []) (hnd : x.Nodup) (hr : ∀ i ∈ x, 0 ≤ i ∧ i < k.n) :
  ∀ j : Nat, j + 1 ≤ x.length → ∃ m', pushIt k j (PushS.init x, m) = (⟨x, j, 0, false⟩, m') ∧ m'.n = m.n + j ∧ m'.ws.length = len ∧
   (∀ i, i < j → m'.at_ (k.links + (itI x i).toNat) = (itI x (i + 1) + 1).toNat) ∧ (∀ a, (∀ i, i < j → a ≠ k.links + (itI x i).toNat) → m'.at_ a = m.at_ a) := by
 intro j
 induction j with
 | zero => intro _; exact ⟨m, by simp [pushIt, PushS.init, hx], rfl, hml, by omega, fun _ _ => rfl⟩
 | succ j ih =>
   intro hj
   obtain ⟨m', h1, h2, h3, h4, h5⟩ := ih (by omega)
   have hj1 := hr _ (itI_mem (l := x) (i := j) (by omega))
   have hlt : k.links + (itI x j).toNat < m'.ws.length := by have := hk.l; omega
   have hinj : ∀ a b, a < x.length → b < x.length → a ≠ b → k.links + (itI x a).toNat ≠ k.links + (itI x b).toNat := by
    intro a b ha hb hab e
    have ra := hr _ (itI_mem ha); have rb := hr _ (itI_mem hb)
    have : itI x a = itI x b := by omega
    rw [itI_eq ha, itI_eq hb] at this
    exact hab (nodup_inj hnd ha hb this)
   refine ⟨m'.put (k.links + (itI x j).toNat) (itI x (j + 1) + 1).toNat, ?_, ?_, ?_, ?_, ?_⟩
   ·rw [pushIt_succ, h1]
    simp only [pushStep, bf, if_false]
    rw [if_pos (by omega)]
   ·simp [Mm.put]; omega
   ·rw [Mm.len_put]; exact h3
   ·intro i hi
    rw [Mp _ hlt]
    by_cases hij : i = j
    ·rw [hij, if_pos rfl]
    ·rw [if_neg (hinj j i (by omega) (by omega) (by omega))]
     exact h4 i (by omega)
   ·intro a ha
    rw [Mp _ hlt, if_neg (fun h => ha j (by omega) h.symm)]
    exact h5 a fun i hi => ha i (by omega)
theorem chain_app {k : Sk} {m : Mm} {t : Int} {l : List Int} : ∀ x : List Int, x ≠ [] → (∀ i ∈ x, 0 ≤ i ∧ i < k.n) → (∀ i, i + 1 < x.length → k.below (m.at_ (k.links + (itI x i).toNat)) = itI x (i + 1)) →
  k.below (m.at_ (k.links + (itI x (x.length - 1)).toNat)) = t → ChainL k m t l → ChainL k m (itI x 0) (x ++ l)
 | [], h, _, _, _, _ => absurd rfl h
 | [a], _, hr, _, hl, hc => ⟨rfl, (hr a (by simp)).1, (hr a (by simp)).2, by rw [show a = itI [a] ([a].length - 1) from rfl, hl]; exact hc⟩
 | a :: b :: r, _, hr, h, hl, hc => by
   refine ⟨rfl, (hr a (by simp)).1, (hr a (by simp)).2, ?_⟩
   have h0 := h 0 (by simp)
   rw [show itI (a :: b :: r) 0 = a from rfl, show itI (a :: b :: r) (0 + 1) = b from rfl] at h0
   rw [h0]
   exact chain_app (b :: r) (by simp) (fun i hi => hr i (by simp only [List.mem_cons] at hi ⊢; exact .inr hi)) (fun i hi => h (i + 1) (by simpa using hi)) hl hc
theorem Sk.ok.head_ne {k : Sk} {len : Nat} (hk : k.ok len) {x : Int} (h : 0 ≤ x ∧ x < k.n) : k.head ≠ k.links + x.toNat := by
 have := hk.a; have := hk.l
 omega
theorem toNat_ne {a : Nat} {x y : Int} (hx : 0 ≤ x) (hy : 0 ≤ y) (h : x ≠ y) : a + x.toNat ≠ a + y.toNat := by omega
theorem push_alone {k : Sk} {m : Mm} {l x : List Int} {len : Nat} (hk : k.ok len) (hml : m.ws.length = len) (hp : Pool k m l) (hx : x ≠ []) (hnd : x.Nodup) (hr : ∀ i ∈ x, 0 ≤ i ∧ i < k.n) (hdj : ∀ i ∈ x, i ∉ l) :
  ∃ m', pushIt k (x.length + 2) (PushS.init x, m) = (⟨x, x.length - 1, m.at_ k.head, true⟩, m') ∧ m'.n = m.n + (x.length + 2) ∧ m'.ws.length = len ∧ Pool k m' (x ++ l) ∧
   (∀ a, a ≠ k.head → (∀ i ∈ x, a ≠ k.links + i.toNat) → m'.at_ a = m.at_ a) ∧ (∀ j, j < x.length + 2 → (pushIt k j (PushS.init x, m)).1.done = false) := by
 have hlp := List.length_pos_iff.2 hx
 obtain ⟨n, hn⟩ : ∃ n, x.length = n + 1 := ⟨x.length - 1, by omega⟩
 obtain ⟨m1, h1, h2, h3, h4, h5⟩ := push_links hk hml hx hnd hr n (by omega)
 have hrn := hr _ (itI_mem (l := x) (i := n) (by omega))
 have hr0 := hr _ (itI_mem (l := x) (i := 0) (by omega))
 have hkl := hk.l; have hka := hk.a; have hkh := hk.h; have hkn := hk.n2
 have hlink : ∀ i ∈ x, k.head ≠ k.links + i.toNat := fun i hi => by have := hr i hi; omega
 have hh1 : m1.at_ k.head = m.at_ k.head := h5 _ fun i hi => hlink _ (itI_mem (by omega))
 have s1 : pushIt k (n + 1) (PushS.init x, m) = (⟨x, n + 1, m.at_ k.head, false⟩, m1.tick) := by
  rw [pushIt_succ, h1]
  simp only [pushStep, bf, if_false]
  rw [if_neg (by omega), if_pos hn.symm, hh1]
 have s2 : pushIt k (n + 2) (PushS.init x, m) = (⟨x, n + 2, m.at_ k.head, false⟩, m1.tick.put (k.links + (itI x n).toNat) (k.top (m.at_ k.head) + 1).toNat) := by
  rw [pushIt_succ, s1]
  simp only [pushStep, bf, if_false]
  rw [if_neg (by omega), if_neg (by omega), if_pos hn.symm, hn]
  rfl
 have hlt : k.links + (itI x n).toNat < m1.tick.ws.length := by show _ < m1.ws.length; omega
 have hm2 : ∀ a, (m1.tick.put (k.links + (itI x n).toNat) (k.top (m.at_ k.head) + 1).toNat).at_ a = if k.links + (itI x n).toNat = a then (k.top (m.at_ k.head) + 1).toNat else m1.at_ a := fun a => by rw [Mp _ hlt]; rfl
 generalize hM2 : m1.tick.put (k.links + (itI x n).toNat) (k.top (m.at_ k.head) + 1).toNat = m2 at s2 hm2
 have hl2 : m2.ws.length = len := by rw [← hM2, Mm.len_put]; exact h3
 have hn2 : m2.n = m.n + (n + 2) := by rw [← hM2]; simp [Mm.put, Mm.tick]; omega
 have hh2 : m2.at_ k.head = m.at_ k.head := by rw [hm2, if_neg (fun e => hlink _ (itI_mem (by omega)) e.symm), hh1]
 have hm3 : ∀ a, (m2.put k.head (nextW (m.at_ k.head) (itI x 0))).at_ a = if k.head = a then nextW (m.at_ k.head) (itI x 0) else m2.at_ a := fun a => Mp _ (by omega)
 refine ⟨m2.put k.head (nextW (m.at_ k.head) (itI x 0)), ?_, ?_, ?_, ⟨?_, ?_⟩, ?_, ?_⟩
 ·rw [show x.length + 2 = (n + 2) + 1 by omega, pushIt_succ, s2]
  simp only [pushStep, bf, if_false]
  rw [if_neg (by omega), if_neg (by omega), if_neg (by omega), hh2]
  simp [Mm.cas, hh2]
 ·simp [Mm.put]; omega
 ·rw [Mm.len_put]; exact hl2
 ·rw [hm3, if_pos rfl]
  have e1 : k.top (nextW (m.at_ k.head) (itI x 0)) = itI x 0 := by
   unfold Sk.top
   rw [hdI_next (by omega) (by omega), if_pos (by omega)]
  rw [e1]
  -- from the i-th item on
  have hchain : ChainL k (m2.put k.head (nextW (m.at_ k.head) (itI x 0))) (k.top (m.at_ k.head)) l := by
   refine hp.c.congr fun y hy => ?_
   have hy2 := hp.c.mem y hy
   have hyx : ∀ i, i < x.length → itI x i ≠ y := fun i hi e => hdj _ (itI_mem hi) (by rw [e]; exact hy)
   rw [hm3, if_neg (hk.head_ne hy2), hm2, if_neg (toNat_ne hrn.1 hy2.1 (hyx n (by omega))), h5]
   intro i hi
   exact (toNat_ne (hr _ (itI_mem (by omega))).1 hy2.1 (hyx i (by omega))).symm
  refine chain_app x hx hr (fun i hi => ?_) ?_ hchain
  ·have hri := hr _ (itI_mem (l := x) (i := i) (by omega))
   have hri1 := hr _ (itI_mem (l := x) (i := i + 1) (by omega))
   have hne : k.links + (itI x n).toNat ≠ k.links + (itI x i).toNat := by
    intro e
    have e' : itI x n = itI x i := by omega
    rw [itI_eq (by omega), itI_eq (by omega)] at e'
    have := nodup_inj hnd _ _ e'
    omega
   rw [hm3, if_neg (hlink _ (itI_mem (by omega))), hm2, if_neg hne, h4 i (by omega)]
   exact k.below_link (by omega) (by omega)
  ·rw [hn, Nat.add_sub_cancel, hm3, if_neg (hlink _ (itI_mem (by omega))), hm2, if_pos rfl]
   exact k.below_link (k.top_ge _) (k.top_lt _)
 ·rw [List.nodup_append]
  exact ⟨hnd, hp.nd, fun a ha b hb e => hdj a ha (by rw [e]; exact hb)⟩
 ·intro a ha hax
  rw [hm3, if_neg (fun h => ha h.symm), hm2, if_neg (fun e => hax _ (itI_mem (l := x) (i := n) (by omega)) e.symm), h5]
  exact fun i hi => hax _ (itI_mem (by omega))
 ·intro j hj
  by_cases hj1 : j ≤ n
  ·obtain ⟨m', e, _⟩ := push_links hk hml hx hnd hr j (by omega)
   rw [e]
  ·by_cases hj2 : j = n + 1
   ·rw [hj2, s1]
   ·rw [show j = n + 2 by omega, s2]
theorem length_nodup : ∀ (n : Nat) (l : List Int), l.Nodup → (∀ x ∈ l, 0 ≤ x ∧ x < (n : Int)) → l.length ≤ n
 | 0, l, _, h => by
   cases l with
   | nil => simp
   | cons x l => have := h x (by simp); omega
 | n + 1, l, hd, h => by
   have h1 := length_nodup n (l.erase (n : Int)) (hd.erase _) fun x hx => by
    have h2 := h x (List.mem_of_mem_erase hx)
    have h3 : x ≠ n := fun e => by subst e; exact (List.Nodup.not_mem_erase hd) hx
    omega
   rw [List.length_erase] at h1
   split at h1 <;> omega
def walkL (k : Sk) (m : Mm) : Nat → Int → List Int
 | 0, _ => []
 | f + 1, i => if 0 ≤ i then i :: walkL k m f (k.below (m.at_ (k.links + i.toNat))) else []
theorem walk_chain {k : Sk} {m : Mm} : ∀ {f : Nat} {l : List Int} {i : Int}, ChainL k m i l → l.length ≤ f → walkL k m f i = l
 | 0, [], _, _, _ => rfl
 | 0, _ :: _, _, _, h => by simp at h
 | f + 1, [], i, h, _ => by
   have e : i = -1 := h
   subst e; rfl
 | f + 1, x :: l, i, h, hl => by
   obtain ⟨rfl, h1, h2, h3⟩ := h
   simp only [walkL, if_pos h1]
   rw [walk_chain h3 (by simpa using hl)]
def listK (k : Sk) (m : Mm) : List Int := walkL k m k.n (k.top (m.at_ k.head))
theorem list_pool {k : Sk} {m : Mm} {l : List Int} (h : Pool k m l) : listK k m = l := walk_chain h.c (length_nodup k.n l h.nd (h.c.mem))
def fillUp (k : Sk) (m : Mm) : Nat → Mm
 | 0 => m
 | i + 1 => (fillUp k m i).lay (k.links + i) (i + 2)
def fillM (k : Sk) (m : Mm) : Mm := ((fillUp k m k.n).lay (k.links + k.n - 1) 0).lay k.head 1
def iotaI (n : Nat) : List Int := (List.range n).map fun (i : Nat) => (i : Int)
theorem fillUp_len (k : Sk) (m : Mm) : ∀ i, (fillUp k m i).ws.length = m.ws.length
 | 0 => rfl
 | i + 1 => by simp only [fillUp, Mm.len_lay]; exact fillUp_len k m i
theorem fillUp_n (k : Sk) (m : Mm) : ∀ i, (fillUp k m i).n = m.n
 | 0 => rfl
 | i + 1 => fillUp_n k m i
theorem fillUp_ok {k : Sk} {m : Mm} (h : m.ok) : ∀ i, i ≤ 100000 → (fillUp k m i).ok
 | 0, _ => h
 | i + 1, hi => Mm.ok_lay (fillUp_ok h i (by omega)) (by omega)
theorem fillUp_at {k : Sk} {m : Mm} : ∀ {i : Nat}, k.links + i ≤ m.ws.length → (∀ j, j < i → (fillUp k m i).at_ (k.links + j) = j + 2) ∧ (∀ a, (∀ j, j < i → a ≠ k.links + j) → (fillUp k m i).at_ a = m.at_ a)
 | 0, _ => ⟨fun j hj => by omega, fun _ _ => rfl⟩
 | i + 1, h => by
   have ih := fillUp_at (k := k) (m := m) (i := i) (by omega)
   have hl := fillUp_len k m i
   refine ⟨fun j hj => ?_, fun a ha => ?_⟩
   ·simp only [fillUp]
    rw [Mm.at_lay _ (by omega)]
    split
    ·omega
    ·exact ih.1 j (by omega)
   ·simp only [fillUp]
    rw [Mm.at_lay _ (by omega), if_neg (fun e => ha i (by omega) e.symm)]
    exact ih.2 a fun j hj => ha j (by omega)
theorem fillM_len (k : Sk) (m : Mm) : (fillM k m).ws.length = m.ws.length := by unfold fillM; rw [Mm.len_lay, Mm.len_lay, fillUp_len]
theorem fillM_n (k : Sk) (m : Mm) : (fillM k m).n = m.n := fillUp_n k m k.n
theorem iota_nodup (n : Nat) : (iotaI n).Nodup := by
 unfold iotaI
 refine List.Pairwise.map _ (fun (a b : Nat) (h : a ≠ b) => ?_) List.nodup_range
 omega
theorem iota_get {n i : Nat} (h : i < n) : itI (iotaI n) i = i := by
 rw [itI_eq (by simpa [iotaI] using h)]
 simp [iotaI]
theorem fill_pool {k : Sk} {m : Mm} {len : Nat} (hk : k.ok len) (hl : m.ws.length = len) : Pool k (fillM k m) (iotaI k.n) ∧ (∀ a, a ≠ k.head → (∀ j, j < k.n → a ≠ k.links + j) → (fillM k m).at_ a = m.at_ a) := by
 have k1 := hk.n1; have k2 := hk.n2; have k3 := hk.h; have k4 := hk.l; have k5 := hk.a
 have hu := fillUp_at (k := k) (m := m) (i := k.n) (by omega)
 have hul := fillUp_len k m k.n
 have hat : ∀ a, (fillM k m).at_ a = if k.head = a then 1 else if k.links + k.n - 1 = a then 0 else (fillUp k m k.n).at_ a := fun a => by
  unfold fillM
  rw [Mm.at_lay _ (by rw [Mm.len_lay]; omega), Mm.at_lay _ (by omega)]
 have hlen : (iotaI k.n).length = k.n := by simp [iotaI]
 refine ⟨⟨?_, iota_nodup _⟩, fun a h1 h2 => ?_⟩
 ·have h0 : k.top ((fillM k m).at_ k.head) = 0 := by
   rw [hat, if_pos rfl]
   unfold Sk.top hdI
   rw [if_pos (by omega)]; rfl
  rw [h0]
  have := chain_app (k := k) (m := fillM k m) (t := -1) (l := []) (iotaI k.n) (fun e => by rw [e] at hlen; simp at hlen; omega) (fun x hx => by
   simp only [iotaI, List.mem_map, List.mem_range] at hx
   obtain ⟨j, hj, rfl⟩ := hx
   omega) (fun i hi => ?_) ?_ rfl
  ·rw [iota_get (by omega), List.append_nil] at this
   exact this
  ·rw [iota_get (by omega), iota_get (by omega), tn, hat, if_neg (by omega), if_neg (by omega), hu.1 i (by omega)]
   have := k.below_link (i := ((i + 1 : Nat) : Int)) (by omega) (by omega)
   rw [show (((i + 1 : Nat) : Int) + 1).toNat = i + 2 by omega] at this
   exact this
  ·rw [hlen, iota_get (by omega), tn, hat, if_neg (by omega), if_pos (by omega)]
   unfold Sk.below
   rw [if_neg (by omega)]; rfl
 ·rw [hat, if_neg (fun e => h1 e.symm), if_neg (fun e => h2 (k.n - 1) (by omega) (by omega))]
  exact hu.2 a h2
section
open Go
attribute [local irreducible] Sx Cx Rx Fx Krg Ksq Kbl Klp Kr
section
variable {L F : St}
abbrev cfg (w c wd sl ca ba : Int) : Value := .agg #[ii w, ii c, ii wd, ii sl, ii ca, ii ba]
def MayC (w c wd sl ca ba : Int) : Prop := (1 ≤ w ∧ w ≤ 64) ∧ (1 ≤ c ∧ c ≤ 4096) ∧ (8 ≤ wd ∧ wd ≤ 1024) ∧ wd.tmod 8 = 0 ∧ (1 ≤ sl ∧ sl ≤ 4096) ∧ (0 ≤ ca ∧ ca ≤ 64) ∧ (1 ≤ ba ∧ ba ≤ 8)
instance (w c wd sl ca ba : Int) : Decidable (MayC w c wd sl ca ba) := by unfold MayC; infer_instance
theorem within_ (n lo hi : Int) : FX 82 [ii n, ii lo, ii hi] L (fun v L' => v = .bool (decide (lo ≤ n ∧ n ≤ hi)) ∧ L = L') := by
 refine Fm Tryz.func82 k82 ?_
 dsimp only [c82, eL]
 refine go ?_
 refine Sx.ifp rfl (fun h => ?_) (fun h => ?_)
 ·refine go ?_
  exact Ko rfl (Er _) ⟨by simp [pick, h], rfl⟩
 ·refine go ?_
  exact Ko rfl (Er _) ⟨by simp [pick, h], rfl⟩
theorem may_ (w c wd sl ca ba : Int) : FX 77 [cfg w c wd sl ca ba] L (fun v L' => v = .bool (decide (MayC w c wd sl ca ba)) ∧ L = L') := by
 refine Fm Tryz.func77 k77 ?_
 dsimp only [c77, eL]
 refine go ?_
 refine Sx.bx rfl rfl fun g => (go ?_)
 refine Sa rfl (within_ w 1 64) ?_
 rintro v L' ⟨rfl, rfl⟩
 refine go ?_
 refine Sx.ifp rfl (fun h1 => ?_) (fun h1 => ?_)
 rotate_left
 ·refine go ?_
  exact Ko rfl Ed ⟨by rw [dz (fun h : MayC w c wd sl ca ba => h1 h.1)], rfl⟩
 refine go ?_
 refine Sa rfl (within_ c 1 4096) ?_
 rintro v L' ⟨rfl, rfl⟩
 refine go ?_
 refine Sx.ifp rfl (fun h2 => ?_) (fun h2 => ?_)
 rotate_left
 ·refine go ?_
  exact Ko rfl Ed ⟨by rw [dz (fun h : MayC w c wd sl ca ba => h2 h.2.1)], rfl⟩
 refine go ?_
 refine Sa rfl (within_ wd 8 1024) ?_
 rintro v L' ⟨rfl, rfl⟩
 refine go ?_
 refine Sx.ifp rfl (fun h3 => ?_) (fun h3 => ?_)
 rotate_left
 ·refine go ?_
  exact Ko rfl Ed ⟨by rw [dz (fun h : MayC w c wd sl ca ba => h3 h.2.2.1)], rfl⟩
 refine go ?_
 refine Sv rfl (by decide) (go ?_)
 refine Sx.ifp rfl (fun h4 => ?_) (fun h4 => ?_)
 rotate_left
 ·refine go ?_
  exact Ko rfl Ed ⟨by rw [dz (fun h : MayC w c wd sl ca ba => h4 h.2.2.2.1)], rfl⟩
 refine go ?_
 refine Sa rfl (within_ sl 1 4096) ?_
 rintro v L' ⟨rfl, rfl⟩
 refine go ?_
 refine Sx.ifp rfl (fun h5 => ?_) (fun h5 => ?_)
 rotate_left
 ·refine go ?_
  exact Ko rfl Ed ⟨by rw [dz (fun h : MayC w c wd sl ca ba => h5 h.2.2.2.2.1)], rfl⟩
 refine go ?_
 refine Sa rfl (within_ ca 0 64) ?_
 rintro v L' ⟨rfl, rfl⟩
 refine go ?_
 refine Sx.ifp rfl (fun h6 => ?_) (fun h6 => ?_)
 rotate_left
 ·refine go ?_
  exact Ko rfl Ed ⟨by rw [dz (fun h : MayC w c wd sl ca ba => h6 h.2.2.2.2.2.1)], rfl⟩
 refine go ?_
 refine Sa rfl (within_ ba 1 8) ?_
 rintro v L' ⟨rfl, rfl⟩
 refine go ?_
 refine Ko rfl Ed ⟨?_, rfl⟩
 simp only [pick, cond_true, Value.bool.injEq, decide_eq_decide]
 exact ⟨fun h => ⟨h1, h2, h3, h4, h5, h6, h⟩, fun h => h.2.2.2.2.2.2⟩
theorem in_ (n lo hi : Int) : FX 173 [ii n, ii lo, ii hi] L (fun v L' => v = .bool (decide (lo ≤ n ∧ n ≤ hi)) ∧ L = L') := by
 refine Fm Tryz.func173 k173 ?_
 dsimp only [c173, eL]
 refine go ?_
 refine Sx.ifp rfl (fun h => ?_) (fun h => ?_)
 ·refine go ?_
  exact Ko rfl (Er _) ⟨by simp [pick, h], rfl⟩
 ·refine go ?_
  exact Ko rfl (Er _) ⟨by simp [pick, h], rfl⟩
theorem refMay_ (w c wd sl ca ba : Int) : FX 185 [cfg w c wd sl ca ba] L (fun v L' => v = .bool (decide (MayC w c wd sl ca ba)) ∧ L = L') := by
 refine Fm Tryz.func185 k185 ?_
 dsimp only [c185, eL]
 refine go ?_
 refine Sx.bx rfl rfl fun g => (go ?_)
 refine Sa rfl (in_ w 1 64) ?_
 rintro v L' ⟨rfl, rfl⟩
 refine go ?_
 refine Sx.ifp rfl (fun h1 => ?_) (fun h1 => ?_)
 rotate_left
 ·refine go ?_
  exact Ko rfl Ed ⟨by rw [dz (fun h : MayC w c wd sl ca ba => h1 h.1)], rfl⟩
 refine go ?_
 refine Sa rfl (in_ c 1 4096) ?_
 rintro v L' ⟨rfl, rfl⟩
 refine go ?_
 refine Sx.ifp rfl (fun h2 => ?_) (fun h2 => ?_)
 rotate_left
 ·refine go ?_
  exact Ko rfl Ed ⟨by rw [dz (fun h : MayC w c wd sl ca ba => h2 h.2.1)], rfl⟩
 refine go ?_
 refine Sa rfl (in_ wd 8 1024) ?_
 rintro v L' ⟨rfl, rfl⟩
 refine go ?_
 refine Sx.ifp rfl (fun h3 => ?_) (fun h3 => ?_)
 rotate_left
 ·refine go ?_
  exact Ko rfl Ed ⟨by rw [dz (fun h : MayC w c wd sl ca ba => h3 h.2.2.1)], rfl⟩
 refine go ?_
 refine Sv rfl (by decide) (go ?_)
 refine Sx.ifp rfl (fun h4 => ?_) (fun h4 => ?_)
 rotate_left
 ·refine go ?_
  exact Ko rfl Ed ⟨by rw [dz (fun h : MayC w c wd sl ca ba => h4 h.2.2.2.1)], rfl⟩
 refine go ?_
 refine Sa rfl (in_ sl 1 4096) ?_
 rintro v L' ⟨rfl, rfl⟩
 refine go ?_
 refine Sx.ifp rfl (fun h5 => ?_) (fun h5 => ?_)
 rotate_left
 ·refine go ?_
  exact Ko rfl Ed ⟨by rw [dz (fun h : MayC w c wd sl ca ba => h5 h.2.2.2.2.1)], rfl⟩
 refine go ?_
 refine Sa rfl (in_ ca 0 64) ?_
 rintro v L' ⟨rfl, rfl⟩
 refine go ?_
 refine Sx.ifp rfl (fun h6 => ?_) (fun h6 => ?_)
 rotate_left
 ·refine go ?_
  exact Ko rfl Ed ⟨by rw [dz (fun h : MayC w c wd sl ca ba => h6 h.2.2.2.2.2.1)], rfl⟩
 refine go ?_
 refine Sa rfl (in_ ba 1 8) ?_
 rintro v L' ⟨rfl, rfl⟩
 refine go ?_
 refine Ko rfl Ed ⟨?_, rfl⟩
 simp only [pick, cond_true, Value.bool.injEq, decide_eq_decide]
 exact ⟨fun h => ⟨h1, h2, h3, h4, h5, h6, h⟩, fun h => h.2.2.2.2.2.2⟩
end
def startC (w c wd sl : Int) (i : Nat) : Int := match i with
 | 0 => 3
 | 1 => 3 + w
 | 2 => 3 + w + sl
 | 3 => 3 + w + sl + sl
 | 4 => 3 + w + sl + sl + c
 | _ => 3 + w + sl + sl + c + c * wd
def manyC (w c wd sl : Int) (i : Nat) : Int := match i with
 | 0 => w
 | 1 => sl
 | 2 => sl
 | 3 => c
 | _ => c * wd
def lenC (w c wd sl : Int) : Int := 3 + w + sl + sl + c + c * wd
def frC (w c wd sl : Int) (i j : Nat) : Value := ii (bif Nat.blt j i then startC w c wd sl j else 0)
def partsL (w c wd sl : Int) (i : Nat) : List Value :=
 [ii 3, frC w c wd sl i 0, ii w, ii 4, frC w c wd sl i 1, ii sl, ii 5, frC w c wd sl i 2, ii sl, ii 6, frC w c wd sl i 3, ii c, ii 7, frC w c wd sl i 4, ii (c * wd)]
theorem MayC.mul {w c wd sl ca ba : Int} (h : MayC w c wd sl ca ba) : 8 ≤ c * wd ∧ c * wd ≤ 4194304 := by
 obtain ⟨_, h2, h3, _⟩ := h
 constructor
 ·have := Int.mul_le_mul h2.1 h3.1 (by omega) (by omega); omega
 ·have := Int.mul_le_mul h2.2 h3.2 (by omega) (by omega); omega
section
variable {L F : St}
set_option maxHeartbeats 2000000 in
theorem layParts (w c wd sl ca ba : Int) (h : MayC w c wd sl ca ba) : FX 78 [cfg w c wd sl ca ba] L (fun v L' => v = .agg (partsL w c wd sl 5).toArray ∧ L = L') := by
 have hm := h.mul
 obtain ⟨h1, h2, h3, h4, h5, h6, h7⟩ := h
 refine Fm Tryz.func78 k78 ?_
 dsimp only [c78, eL]
 refine Cx.sq ?_
 refine Cx.rg ?_
 refine Sx.bx rfl rfl fun g => ?_
 refine Sx.al fun r => (go ?_)
 rw [w64 (n := c * wd) (by omega) (by omega)]
 refine Sx.al fun q => ?_
 refine Sx.st (b := q) rfl rfl rfl rfl rfl rfl (go ?_)
 refine Cx.lp (α := {i : Nat // i ≤ 5}) (fun i => [(2, zp r), (3, zp q), (4, ii (startC w c wd sl i.1)), (25, ii i.1)])
  (fun i => pt (ad q) (Blk 143 (partsL w c wd sl i.1)) :: pt (ad r) (Blk 143 (List.replicate 15 (ii 0))) :: L) (fun i => 5 - i.1) ⟨0, by omega⟩ sb4 (Ec (Ec Ed)) ?_
 rintro ⟨i, hi⟩
 dsimp only
 rcases (show i = 0 ∨ i = 1 ∨ i = 2 ∨ i = 3 ∨ i = 4 ∨ i = 5 by omega) with rfl | rfl | rfl | rfl | rfl | rfl
 ·refine gg ?_
  simp only [startC]
  rw [w64 (n := (3 : Int) + w) (by omega) (by omega)]
  exact Kn ⟨0 + 1, by omega⟩ sb4 (Er _) (by simp)
 ·refine gg ?_
  simp only [startC]
  rw [w64 (n := 3 + w + sl) (by omega) (by omega)]
  exact Kn ⟨1 + 1, by omega⟩ sb4 (Er _) (by simp)
 ·refine gg ?_
  simp only [startC]
  rw [w64 (n := 3 + w + sl + sl) (by omega) (by omega)]
  exact Kn ⟨2 + 1, by omega⟩ sb4 (Er _) (by simp)
 ·refine gg ?_
  simp only [startC]
  rw [w64 (n := 3 + w + sl + sl + c) (by omega) (by omega)]
  exact Kn ⟨3 + 1, by omega⟩ sb4 (Er _) (by simp)
 ·refine gg ?_
  simp only [startC]
  rw [w64 (n := 3 + w + sl + sl + c + c * wd) (by omega) (by omega)]
  exact Kn ⟨4 + 1, by omega⟩ sb4 (Er _) (by simp)
 ·refine go ?_
  refine Sx.st (b := r) rfl rfl rfl rfl rfl rfl (go ?_)
  exact Kr_cell (b := r) (.inr rfl) rfl rfl (L' := L) (Et Ed Ed) ⟨rfl, rfl⟩
theorem layLen (w c wd sl ca ba : Int) (h : MayC w c wd sl ca ba) : FX 17 [cfg w c wd sl ca ba] L (fun v L' => v = ii (lenC w c wd sl) ∧ L = L') := by
 have hm := h.mul
 refine Fm Tryz.func17 k17 ?_
 dsimp only [c17, eL]
 refine Cx.sq ?_
 refine Cx.rg ?_
 refine Sx.bx rfl rfl fun g => (go ?_)
 refine Sa rfl (may_ w c wd sl ca ba) ?_
 rintro v L' ⟨rfl, rfl⟩
 rw [dt h]
 refine go ?_
 refine Sa rfl (layParts w c wd sl ca ba h) ?_
 rintro v L' ⟨rfl, rfl⟩
 obtain ⟨h1, h2, h3, h4, h5, h6, h7⟩ := h
 refine Sx.al fun q => ?_
 refine Sx.st (b := q) rfl rfl rfl rfl rfl rfl ?_
 refine gg ?_
 refine Sx.al fun r => ?_
 refine Sx.st (b := r) rfl rfl rfl rfl rfl rfl (go ?_)
 exact Ko rfl (Et Ed (Et Ed Ed)) ⟨congrArg (Value.int .i64) (w64 (n := 3 + w + sl + sl + c + c * wd) (by omega) (by omega)), rfl⟩
def cellC (w c wd sl : Int) (q : Nat) (n : Int) : Int := if 0 ≤ n ∧ n < manyC w c wd sl q then startC w c wd sl q + n else -1
set_option maxHeartbeats 8000000 in
theorem layCell (w c wd sl ca ba : Int) (h : MayC w c wd sl ca ba) (q : Nat) (hq : q < 5) (n : Int) (kd : Int) (hk : kd = 3 + q) : FX 83 [cfg w c wd sl ca ba, ii kd, ii n] L (fun v L' => v = ii (cellC w c wd sl q n) ∧ L = L') := by
 have hm := h.mul
 refine Fm Tryz.func83 k83 ?_
 dsimp only [c83, eL]
 refine Cx.sq ?_
 refine Cx.rg ?_
 refine Sx.bx rfl rfl fun g => (go ?_)
 refine Sa rfl (may_ w c wd sl ca ba) ?_
 rintro v L' ⟨rfl, rfl⟩
 rw [dt h]
 refine go ?_
 refine Sa rfl (layParts w c wd sl ca ba h) ?_
 rintro v L' ⟨rfl, rfl⟩
 obtain ⟨h1, h2, h3, h4, h5, h6, h7⟩ := h
 refine go ?_
 refine Cx.lp (α := {i : Nat // i ≤ 5 ∧ (q < i → ¬ (0 ≤ n ∧ n < manyC w c wd sl q))}) (fun i => [(1, ii kd), (2, ii n), (13, .agg (partsL w c wd sl 5).toArray), (14, ii i.1)])
  (fun _ => L) (fun i => 5 - i.1) ⟨0, by omega, by omega⟩ sb4 Ed ?_
 rintro ⟨i, hi, hno⟩
 dsimp only at hno ⊢
 rcases (show i = 0 ∨ i = 1 ∨ i = 2 ∨ i = 3 ∨ i = 4 ∨ i = 5 by omega) with rfl | rfl | rfl | rfl | rfl | rfl
 ·refine gg ?_
  refine Sx.al fun p => ?_
  refine Sx.st (b := p) rfl rfl rfl rfl rfl rfl (go ?_)
  by_cases hqi : q = 0
  ·subst hqi
   refine Sx.gyes rfl (dt (by omega)) (go ?_)
   rw [w64 (n := w - 1) (by omega) (by omega)]
   refine Sa rfl (within_ n 0 (w - 1)) ?_
   rintro v L' ⟨rfl, rfl⟩
   refine go ?_
   refine Xi rfl (fun hr => ?_) (fun hr => ?_)
   ·refine go ?_
    refine Ko rfl Ed ⟨congrArg (Value.int .i64) ?_, rfl⟩
    unfold cellC
    rw [if_pos ⟨hr.1, by simp only [manyC]; omega⟩]
    exact w64 (n := startC w c wd sl 0 + n) (by simp only [startC]; omega) (by simp only [startC]; omega)
   ·refine go ?_
    exact Kn ⟨0 + 1, by omega, fun _ hh => hr ⟨hh.1, by have := hh.2; simp only [manyC] at this; omega⟩⟩ sb4 Ed (by simp)
  ·refine Sx.gno rfl (dz (by omega)) (go ?_)
   exact Kn ⟨0 + 1, by omega, fun hh => hno (by omega)⟩ sb4 Ed (by simp)
 ·refine gg ?_
  refine Sx.al fun p => ?_
  refine Sx.st (b := p) rfl rfl rfl rfl rfl rfl (go ?_)
  by_cases hqi : q = 1
  ·subst hqi
   refine Sx.gyes rfl (dt (by omega)) (go ?_)
   rw [w64 (n := sl - 1) (by omega) (by omega)]
   refine Sa rfl (within_ n 0 (sl - 1)) ?_
   rintro v L' ⟨rfl, rfl⟩
   refine go ?_
   refine Xi rfl (fun hr => ?_) (fun hr => ?_)
   ·refine go ?_
    refine Ko rfl Ed ⟨congrArg (Value.int .i64) ?_, rfl⟩
    unfold cellC
    rw [if_pos ⟨hr.1, by simp only [manyC]; omega⟩]
    exact w64 (n := startC w c wd sl 1 + n) (by simp only [startC]; omega) (by simp only [startC]; omega)
   ·refine go ?_
    exact Kn ⟨1 + 1, by omega, fun _ hh => hr ⟨hh.1, by have := hh.2; simp only [manyC] at this; omega⟩⟩ sb4 Ed (by simp)
  ·refine Sx.gno rfl (dz (by omega)) (go ?_)
   exact Kn ⟨1 + 1, by omega, fun hh => hno (by omega)⟩ sb4 Ed (by simp)
 ·refine gg ?_
  refine Sx.al fun p => ?_
  refine Sx.st (b := p) rfl rfl rfl rfl rfl rfl (go ?_)
  by_cases hqi : q = 2
  ·subst hqi
   refine Sx.gyes rfl (dt (by omega)) (go ?_)
   rw [w64 (n := sl - 1) (by omega) (by omega)]
   refine Sa rfl (within_ n 0 (sl - 1)) ?_
   rintro v L' ⟨rfl, rfl⟩
   refine go ?_
   refine Xi rfl (fun hr => ?_) (fun hr => ?_)
   ·refine go ?_
    refine Ko rfl Ed ⟨congrArg (Value.int .i64) ?_, rfl⟩
    unfold cellC
    rw [if_pos ⟨hr.1, by simp only [manyC]; omega⟩]
    exact w64 (n := startC w c wd sl 2 + n) (by simp only [startC]; omega) (by simp only [startC]; omega)
   ·refine go ?_
    exact Kn ⟨2 + 1, by omega, fun _ hh => hr ⟨hh.1, by have := hh.2; simp only [manyC] at this; omega⟩⟩ sb4 Ed (by simp)
  ·refine Sx.gno rfl (dz (by omega)) (go ?_)
   exact Kn ⟨2 + 1, by omega, fun hh => hno (by omega)⟩ sb4 Ed (by simp)
 ·refine gg ?_
  refine Sx.al fun p => ?_
  refine Sx.st (b := p) rfl rfl rfl rfl rfl rfl (go ?_)
  by_cases hqi : q = 3
  ·subst hqi
   refine Sx.gyes rfl (dt (by omega)) (go ?_)
   rw [w64 (n := c - 1) (by omega) (by omega)]
   refine Sa rfl (within_ n 0 (c - 1)) ?_
   rintro v L' ⟨rfl, rfl⟩
   refine go ?_
   refine Xi rfl (fun hr => ?_) (fun hr => ?_)
   ·refine go ?_
    refine Ko rfl Ed ⟨congrArg (Value.int .i64) ?_, rfl⟩
    unfold cellC
    rw [if_pos ⟨hr.1, by simp only [manyC]; omega⟩]
    exact w64 (n := startC w c wd sl 3 + n) (by simp only [startC]; omega) (by simp only [startC]; omega)
   ·refine go ?_
    exact Kn ⟨3 + 1, by omega, fun _ hh => hr ⟨hh.1, by have := hh.2; simp only [manyC] at this; omega⟩⟩ sb4 Ed (by simp)
  ·refine Sx.gno rfl (dz (by omega)) (go ?_)
   exact Kn ⟨3 + 1, by omega, fun hh => hno (by omega)⟩ sb4 Ed (by simp)
 ·refine gg ?_
  refine Sx.al fun p => ?_
  refine Sx.st (b := p) rfl rfl rfl rfl rfl rfl (go ?_)
  by_cases hqi : q = 4
  ·subst hqi
   refine Sx.gyes rfl (dt (by omega)) (go ?_)
   rw [w64 (n := c * wd - 1) (by omega) (by omega)]
   refine Sa rfl (within_ n 0 (c * wd - 1)) ?_
   rintro v L' ⟨rfl, rfl⟩
   refine go ?_
   refine Xi rfl (fun hr => ?_) (fun hr => ?_)
   ·refine go ?_
    refine Ko rfl Ed ⟨congrArg (Value.int .i64) ?_, rfl⟩
    unfold cellC
    rw [if_pos ⟨hr.1, by simp only [manyC]; omega⟩]
    exact w64 (n := startC w c wd sl 4 + n) (by simp only [startC]; omega) (by simp only [startC]; omega)
   ·refine go ?_
    exact Kn ⟨4 + 1, by omega, fun _ hh => hr ⟨hh.1, by have := hh.2; simp only [manyC] at this; omega⟩⟩ sb4 Ed (by simp)
  ·refine Sx.gno rfl (dz (by omega)) (go ?_)
   exact Kn ⟨4 + 1, by omega, fun hh => hno (by omega)⟩ sb4 Ed (by simp)
 ·refine go ?_
  refine Ko rfl (Er _) ⟨?_, rfl⟩
  unfold cellC
  rw [if_neg (hno hq)]
theorem layRoot (w c wd sl ca ba : Int) (h : MayC w c wd sl ca ba) (n : Int) : FX 94 [cfg w c wd sl ca ba, ii n] L (fun v L' => v = ii (cellC w c wd sl 1 n) ∧ L = L') := by
 refine Fm Tryz.func94 k94 ?_
 dsimp only [c94, eL]
 refine Cx.sq ?_
 refine Cx.rg ?_
 refine Sx.bx rfl rfl fun g => (go ?_)
 refine Sa rfl (layCell w c wd sl ca ba h 1 (by omega) n _ (by omega)) ?_
 rintro v L' ⟨rfl, rfl⟩
 refine go ?_
 exact Ko rfl Ed ⟨rfl, rfl⟩
theorem laySlot (w c wd sl ca ba : Int) (h : MayC w c wd sl ca ba) (n : Int) : FX 140 [cfg w c wd sl ca ba, ii n] L (fun v L' => v = ii (cellC w c wd sl 2 n) ∧ L = L') := by
 refine Fm Tryz.func140 k140 ?_
 dsimp only [c140, eL]
 refine Cx.sq ?_
 refine Cx.rg ?_
 refine Sx.bx rfl rfl fun g => (go ?_)
 refine Sa rfl (layCell w c wd sl ca ba h 2 (by omega) n _ (by omega)) ?_
 rintro v L' ⟨rfl, rfl⟩
 refine go ?_
 exact Ko rfl Ed ⟨rfl, rfl⟩
theorem layLink (w c wd sl ca ba : Int) (h : MayC w c wd sl ca ba) (n : Int) : FX 139 [cfg w c wd sl ca ba, ii n] L (fun v L' => v = ii (cellC w c wd sl 3 n) ∧ L = L') := by
 refine Fm Tryz.func139 k139 ?_
 dsimp only [c139, eL]
 refine Cx.sq ?_
 refine Cx.rg ?_
 refine Sx.bx rfl rfl fun g => (go ?_)
 refine Sa rfl (layCell w c wd sl ca ba h 3 (by omega) n _ (by omega)) ?_
 rintro v L' ⟨rfl, rfl⟩
 refine go ?_
 exact Ko rfl Ed ⟨rfl, rfl⟩
end
section
variable {L F G : St}
theorem fillM_ok {k : Sk} {m : Mm} (h : m.ok) (hn : k.n ≤ 4096) : (fillM k m).ok := Mm.ok_lay (Mm.ok_lay (fillUp_ok h _ (by omega)) (by omega)) (by omega)
set_option maxHeartbeats 1000000 in
theorem stackFill {sb mp : Nat} {k : Sk} {m : Mm} (hk : k.ok m.ws.length) [t : Take L (ad mp) (MemO m) F] [s : Take F (ad sb) (SkO mp k) G] :
  FX 141 [zp sb] L (fun v L' => L' = pt (ad mp) (MemO (fillM k m)) :: F) := by
 obtain ⟨k1, k2, k3, k4, k5, k6⟩ := hk
 have hul := fillUp_len k m k.n
 refine Fm Tryz.func141 k141 ?_
 dsimp only [c141, eL]
 refine Xe (Et (Eo t.out) (Ec (Eo s.out))) (go ?_)
 refine Cx.lp (α := {i : Nat // i ≤ k.n}) (fun i => [(0, zp sb), (8, ii k.n), (9, ii i.1)]) (fun i => pt (ad mp) (MemO (fillUp k m i.1)) :: pt (ad sb) (SkO mp k) :: G)
  (fun i => k.n - i.1) ⟨0, by omega⟩ sb3 (Er _) ?_
 rintro ⟨i, hi⟩
 dsimp only
 refine go ?_
 refine Xi rfl (fun h => ?_) (fun h => ?_)
 ·have hil := fillUp_len k m i
  refine go ?_
  refine Cx.orde rfl kr_ (ge ?_)
  rw [w64 (n := (k.links : Int) + i) (by omega) (by omega), w64 (n := (i : Int) + 2) (by omega) (by omega), wu64 (n := (i : Int) + 2) (by omega) (by omega), show (k.links : Int) + i = ((k.links + i : Nat) : Int) by omega, show (i : Int) + 2 = ((i + 2 : Nat) : Int) by omega]
  refine Ea kr_ rfl rfl (cellsLay (b := mp) (m := fillUp k m i) (k.links + i) (i + 2) (by omega) (by omega)) (Pd kr_) ?_
  rintro v L' ⟨rfl, rfl⟩
  refine ge ?_
  refine go ?_
  rw [w64 (n := (i : Int) + 1) (by omega) (by omega)]
  exact Kn ⟨i + 1, by omega⟩ sb3 (Er _) (by dsimp only; omega)
 ·have hin : i = k.n := by omega
  subst hin
  refine go ?_
  refine Xd rfl kr_ (ge ?_)
  rw [w64 (n := (k.links : Int) + k.n) (by omega) (by omega), w64 (n := (k.links : Int) + k.n - 1) (by omega) (by omega), show (k.links : Int) + k.n - 1 = ((k.links + k.n - 1 : Nat) : Int) by omega]
  refine Ea kr_ rfl rfl (cellsLay (b := mp) (m := fillUp k m k.n) (k.links + k.n - 1) 0 (by omega) (by omega)) (Pd kr_) ?_
  rintro v L' ⟨rfl, rfl⟩
  refine ge ?_
  refine go ?_
  refine Sa rfl (putHead 0 0 (by omega) (by omega) (by omega)) ?_
  rintro v L' ⟨rfl, rfl⟩
  refine go ?_
  refine Cx.orde rfl kr_ (ge ?_)
  refine Ea kr_ rfl rfl (cellsLay (b := mp) (m := (fillUp k m k.n).lay (k.links + k.n - 1) 0) k.head 1 (by rw [Mm.len_lay]; omega) (by omega)) (Pd kr_) ?_
  rintro v L' ⟨rfl, rfl⟩
  refine ge ?_
  exact Kr.none (.inl rfl) (Ec (Eo s.back)) rfl
theorem stackList {sb mp : Nat} {k : Sk} {m : Mm} (hk : k.ok m.ws.length) [t : Take L (ad mp) (MemO m) F] [s : Take F (ad sb) (SkO mp k) G] :
  FX 31 [zp sb] L (fun v L' => ∃ ro co, v = .slice ro (listK k m).length co ∧ L' = pt ro (Row 3 1 (listK k m).length co (ints (listK k m))) :: L) := by
 obtain ⟨k1, k2, k3, k4, k5, k6⟩ := hk
 refine Fm Tryz.func31 k31 ?_
 dsimp only [c31, eL]
 refine Cx.pure (memKey (b := mp) (m := m)) fun hm => ?_
 have hlt := Ml hm.1 k.head
 refine Xe (Et (Eo t.out) (Ec (Eo s.out))) (go ?_)
 refine Xd rfl kr_ (ge ?_)
 refine Eb kr_ rfl rfl (cellsPeek (b := mp) (m := m) k.head k3) (ge ?_)
 refine Eb kr_ rfl rfl (stackTop (sb := sb) (mp := mp) (k := k) (m.at_ k.head) hlt) (ge ?_)
 refine go ?_
 refine Cx.lp (α := {p : (List Int × Int) × (OA × Nat) // p.1.1.length ≤ k.n ∧ -1 ≤ p.1.2 ∧ p.1.2 < k.n ∧ p.1.1 ++ walkL k m (k.n - p.1.1.length) p.1.2 = listK k m})
  (fun p => [(0, zp sb), (3, .slice p.1.2.1 p.1.1.1.length p.1.2.2), (4, ii p.1.1.2)])
  (fun p => pt p.1.2.1 (Row 3 1 p.1.1.1.length p.1.2.2 (ints p.1.1.1)) :: pt (ad mp) (MemO m) :: pt (ad sb) (SkO mp k) :: G)
  (fun p => k.n - p.1.1.1.length) ⟨(([], k.top (m.at_ k.head)), (none, 0)), by simp, k.top_ge _, k.top_lt _, by simp [listK]⟩ sb3 (Ent.rownil 3 1) ?_
 rintro ⟨⟨⟨out, i⟩, ⟨r, c⟩⟩, hol, hi1, hi2, he⟩
 dsimp only at hol hi1 hi2 he ⊢
 have fin : (i < 0 ∨ k.n ≤ out.length) → out = listK k m := by
  intro h
  rw [← he]
  rcases h with h | h
  ·cases hf : k.n - out.length with
   | zero => simp [walkL]
   | succ f => simp [walkL, show ¬ 0 ≤ i by omega]
  ·rw [show k.n - out.length = 0 by omega]; simp [walkL]
 refine go ?_
 refine Sx.ifp rfl (fun h => ?_) (fun h => ?_)
 ·refine go ?_
  refine Xi rfl (fun h2 => ?_) (fun h2 => ?_)
  ·obtain ⟨x, rfl⟩ : ∃ x : Nat, i = x := ⟨i.toNat, by omega⟩
   have hlx := Ml hm.1 (k.links + x)
   have hbl := k.below_lt (m.at_ (k.links + x))
   have hbg := k.below_ge (m.at_ (k.links + x))
   refine go ?_
   refine Sx.bs (sz := 1) rfl rfl fun g => ?_
   refine Sx.ap (ra := r) rfl rfl (Rd.row (b := g) (E := 3) (cap := 1) rfl) rfl (by simp [maxLen]; omega) (by omega) fun ra ca hc => (go ?_)
   refine Cx.ordu rfl rfl kr_ kr_ (ge ?_)
   rw [w64 (n := (k.links : Int) + x) (by omega) (by omega), show (k.links : Int) + x = ((k.links + x : Nat) : Int) by omega]
   refine Eb kr_ rfl rfl (cellsPeek (b := mp) (m := m) (k.links + x) (by omega)) (ge ?_)
   refine Eb kr_ rfl rfl (stackBelow (sb := sb) (mp := mp) (k := k) (m.at_ (k.links + x)) hlx k2) (ge ?_)
   refine go ?_
   refine Kn ⟨((out ++ [(x : Int)], k.below (m.at_ (k.links + x))), (ra, ca)), by simp; omega, hbg, hbl, ?_⟩ (sub.cons rfl (sub.cons (by simp; rfl) sb1)) ?_ (by simp; omega)
   ·dsimp only
    rw [← he, show k.n - out.length = (k.n - (out ++ [(x : Int)]).length) + 1 by simp; omega]
    simp only [walkL, if_pos h, List.append_assoc, lc, ln, tn]
   ·simp only [List.length_append, List.length_singleton, ints_append]
    exact ent
  ·refine go ?_
   have hf := fin (.inr (by omega))
   subst hf
   exact Ko rfl (Ec (Et (Ec (Eo s.back)) (Eo t.back))) ⟨r, c, rfl, rfl⟩
 ·refine go ?_
  have hf := fin (.inl (by omega))
  subst hf
  exact Ko rfl (Ec (Et (Ec (Eo s.back)) (Eo t.back))) ⟨r, c, rfl, rfl⟩
end
structure Cn where
 w : Nat
 c : Nat
 wd : Nat
 sl : Nat
 ca : Nat
 ba : Nat
abbrev Cn.v (x : Cn) : Value := cfg x.w x.c x.wd x.sl x.ca x.ba
abbrev Cn.l (x : Cn) : List Value := [ii x.w, ii x.c, ii x.wd, ii x.sl, ii x.ca, ii x.ba]
def Cn.ok (x : Cn) : Prop := MayC x.w x.c x.wd x.sl x.ca x.ba
def Cn.len (x : Cn) : Nat := 3 + x.w + x.sl + x.sl + x.c + x.c * x.wd
def Cn.link (x : Cn) : Nat := 3 + x.w + x.sl + x.sl
def Cn.slot (x : Cn) : Nat := 3 + x.w + x.sl
def Cn.pool (x : Cn) : Sk := ⟨0, x.link, x.c⟩
def Cn.spare (x : Cn) : Sk := ⟨1, x.slot, x.sl⟩
theorem Cn.lenC (x : Cn) : Proofs.YtflalhdofhobmaaGreat.lenC x.w x.c x.wd x.sl = (x.len : Int) := by unfold Proofs.YtflalhdofhobmaaGreat.lenC Cn.len; push_cast; rfl
theorem Cn.ok.len_le {x : Cn} (h : x.ok) : x.len ≤ 8388608 := by
 have hm := MayC.mul h
 obtain ⟨h1, h2, h3, h4, h5, h6, h7⟩ := h
 have : ((x.c * x.wd : Nat) : Int) ≤ 4194304 := by push_cast; exact hm.2
 unfold Cn.len; omega
theorem Cn.ok.pool {x : Cn} (h : x.ok) {n : Nat} (hn : x.len ≤ n) (hn2 : n ≤ 8388608) : x.pool.ok n := by
 obtain ⟨h1, h2, h3, h4, h5, h6, h7⟩ := h
 unfold Cn.len at hn
 refine ⟨?_, ?_, ?_, ?_, ?_, hn2⟩ <;> simp only [Cn.pool, Cn.link] <;> omega
theorem Cn.ok.spare {x : Cn} (h : x.ok) {n : Nat} (hn : x.len ≤ n) (hn2 : n ≤ 8388608) : x.spare.ok n := by
 obtain ⟨h1, h2, h3, h4, h5, h6, h7⟩ := h
 unfold Cn.len at hn
 refine ⟨?_, ?_, ?_, ?_, ?_, hn2⟩ <;> simp only [Cn.spare, Cn.slot] <;> omega
section
variable {L F G : St}
theorem layLinkN {x : Cn} (h : x.ok) (n : Nat) (hn : n < x.c) : FX 139 [x.v, ii n] L (fun v L' => v = ii ((x.link + n : Nat) : Int) ∧ L = L') := by
 refine (layLink _ _ _ _ _ _ h (n : Int)).mono ?_
 rintro v L' ⟨rfl, rfl⟩
 refine ⟨congrArg (Value.int .i64) ?_, rfl⟩
 unfold cellC
 rw [if_pos ⟨by omega, by simp only [manyC]; omega⟩]
 simp only [startC, Cn.link]
 push_cast; rfl
abbrev ChO (mp sb : Nat) (x : Cn) : OA → As := Blk 215 (zp mp :: x.l ++ [zp sb])
set_option maxHeartbeats 1000000 in
theorem chainNew {mp : Nat} {m : Mm} {x : Cn} (hx : x.ok) (hl : x.len ≤ m.ws.length) [t : Take L (ad mp) (MemO m) F] :
  FX 69 [zp mp, x.v] L (fun v L' => ∃ g sb, v = .tuple #[zp g, ii 0] ∧ L' = pt (ad g) (ChO mp sb x) :: pt (ad sb) (SkO mp x.pool) :: L) := by
 refine Fm Tryz.func69 k69 ?_
 dsimp only [c69, eL]
 refine Cx.pure (memKey (b := mp) (m := m)) fun hm => ?_
 refine Cx.sq ?_
 refine Cx.rg ?_
 refine Sx.bx rfl rfl fun g => (go ?_)
 refine Xd rfl kr_ (ge ?_)
 refine Eb kr_ rfl rfl (may_ (x.w : Int) x.c x.wd x.sl x.ca x.ba) ?_
 rw [dt (show MayC (x.w : Int) x.c x.wd x.sl x.ca x.ba from hx)]
 refine ge ?_
 refine Eb kr_ rfl rfl (cellsLen (b := mp) (m := m)) (ge ?_)
 refine Eb kr_ rfl rfl (layLen (x.w : Int) x.c x.wd x.sl x.ca x.ba hx) ?_
 rw [x.lenC]
 refine ge ?_
 refine Xn rfl (dz (by omega)) (go ?_)
 refine Xd rfl kr_ (ge ?_)
 refine Eb kr_ rfl rfl (layLinkN hx 0 (by have := hx.2.1; omega)) (ge ?_)
 refine Ea kr_ rfl rfl (stackNew (mp := mp) (m := m) (k := x.pool) (hx.pool hl hm.2)) (Pd kr_) ?_
 rintro v L' ⟨sb, rfl, rfl⟩
 refine ge ?_
 refine go ?_
 refine Sx.bx rfl rfl fun q => (go ?_)
 exact Kr.two (.inr rfl) rfl rfl (Ec (Ec Ed)) ⟨q, sb, rfl, rfl⟩
theorem chainPool {g mp sb : Nat} {x : Cn} [t : Take L (ad g) (ChO mp sb x) F] : FX 71 [zp g] L (fun v L' => v = zp sb ∧ L = L') := by
 refine Fm Tryz.func71 k71 ?_
 dsimp only [c71, eL]
 refine go ?_
 exact Ko rfl (Er _) ⟨rfl, rfl⟩
theorem chainFill {g mp sb : Nat} {x : Cn} {m : Mm} {F G H : St} (hk : x.pool.ok m.ws.length) [t : Take L (ad mp) (MemO m) F] [s : Take F (ad sb) (SkO mp x.pool) G] [c : Take L (ad g) (ChO mp sb x) H] :
  FX 72 [zp g] L (fun v L' => L' = pt (ad mp) (MemO (fillM x.pool m)) :: F) := by
 refine Fm Tryz.func72 k72 ?_
 dsimp only [c72, eL]
 refine go ?_
 refine Sa rfl (stackFill (sb := sb) (mp := mp) (k := x.pool) (m := m) hk) ?_
 rintro v L' rfl
 refine go ?_
 exact Kr.none (.inl rfl) (Er _) rfl
end
section
variable {L F : St}
def LimboT (T : TypeId) (m : Lm) (a : OA) : As :=
 exs fun (y : (OA × Nat) × (OA × Nat) × (OA × Nat)) =>
  [pt a (Blk T [ii m.t0, .slice y.1.1 m.x0.length y.1.2, ii m.t1, .slice y.2.1.1 m.x1.length y.2.1.2, ii m.t2, .slice y.2.2.1 m.x2.length y.2.2.2, ii m.last]),
   pt y.1.1 (Row 3 1 m.x0.length y.1.2 (ints m.x0)), pt y.2.1.1 (Row 3 1 m.x1.length y.2.1.2 (ints m.x1)), pt y.2.2.1 (Row 3 1 m.x2.length y.2.2.2 (ints m.x2))]
abbrev LimboO := LimboT 255
theorem LimboO.close {T : TypeId} {a r0 r1 r2 : OA} {c0 c1 c2 n0 n1 n2 : Nat} {v0 v1 v2 v3 : Value} {w0 w1 w2 : List Value} {F F0 F1 G : St} (m : Lm)
  [t : Take L a (Blk T [v0, .slice r0 n0 c0, v1, .slice r1 n1 c1, v2, .slice r2 n2 c2, v3]) F] [u0 : Take F r0 (Row 3 1 n0 c0 w0) F0] [u1 : Take F0 r1 (Row 3 1 n1 c1 w1) F1] [u2 : Take F1 r2 (Row 3 1 n2 c2 w2) G]
  (h0 : v0 = ii m.t0) (h1 : v1 = ii m.t1) (h2 : v2 = ii m.t2) (h3 : v3 = ii m.last) (e0 : n0 = m.x0.length) (e1 : n1 = m.x1.length) (e2 : n2 = m.x2.length)
  (g0 : w0 = ints m.x0) (g1 : w1 = ints m.x1) (g2 : w2 = ints m.x2) : Ent L (pt a (LimboT T m) :: G) := by
 subst h0; subst h1; subst h2; subst h3; subst e0; subst e1; subst e2; subst g0; subst g1; subst g2
 refine Et (Em (t := t) (Et (Eo u0.out) (Ec (Et (Eo u1.out) (Ec (Eo u2.out)))))) ?_
 exact Ent.close (f := fun (y : (OA × Nat) × (OA × Nat) × (OA × Nat)) =>
  [pt a (Blk T [ii m.t0, .slice y.1.1 m.x0.length y.1.2, ii m.t1, .slice y.2.1.1 m.x1.length y.2.1.2, ii m.t2, .slice y.2.2.1 m.x2.length y.2.2.2, ii m.last]),
   pt y.1.1 (Row 3 1 m.x0.length y.1.2 (ints m.x0)), pt y.2.1.1 (Row 3 1 m.x1.length y.2.1.2 (ints m.x1)), pt y.2.2.1 (Row 3 1 m.x2.length y.2.2.2 (ints m.x2))]) rfl ((r0, c0), (r1, c1), (r2, c2))
theorem limboNew : FX 148 [] L (fun v L' => ∃ g, v = zp g ∧ L' = pt (ad g) (LimboO Lm.nil) :: L) := by
 refine Fm Tryz.func148 k148 ?_
 dsimp only [c148, eL]
 refine go ?_
 refine Sx.bx rfl rfl fun g => (go ?_)
 refine Ko rfl ?_ ⟨g, rfl, rfl⟩
 refine Et (Ent.rownil 3 1) (Et (Ent.rownil 3 1) (Et (Ent.rownil 3 1) ?_))
 exact LimboO.close (a := ad g) (r0 := none) (r1 := none) (r2 := none) Lm.nil rfl rfl rfl rfl rfl rfl rfl rfl rfl rfl
theorem limboRetire {b : Nat} {m : Lm} {tag : Int} {ys : List Int} {ya : OA} {n c : Nat} {F : St} [t : Take L (ad b) (LimboO m) F] (hr : Rd F 1 ya n (ints ys)) (hb : m.size + n ≤ 1000000000) :
  FX 264 [zp b, ii tag, .slice ya n c] L (fun v L' =>
   (refused m tag ys ∧ v = .tuple #[.slice none 0 0, ii 1] ∧ L' = pt (ad b) (LimboO m) :: F) ∨
   (¬ refused m tag ys ∧ ∃ ro co, v = .tuple #[.slice ro (outM m tag).length co, ii 0] ∧ L' = pt ro (Row 3 1 (outM m tag).length co (ints (outM m tag))) :: pt (ad b) (LimboO (retireM m tag ys)) :: F)) := by
 have hn : n = ys.length := by have := hr.1; simp [ints] at this; omega
 have hy0 : (n : Int) = 0 ↔ ys = [] := by rw [← List.length_eq_zero_iff]; omega
 unfold Lm.size at hb
 refine Fm Tryz.func264 k264 ?_
 dsimp only [c264, eL]
 refine Xo (t := t) rfl ?_
 rintro ⟨⟨r0, c0⟩, ⟨r1, c1⟩, ⟨r2, c2⟩⟩
 simp only [lc, ln]
 refine go ?_
 refine Sx.ifp rfl (fun h1 => ?_) (fun h1 => ?_)
 ·refine go ?_
  exact Kr.two (.inr rfl) rfl rfl (LimboO.close (a := ad b) (r0 := r0) (r1 := r1) (r2 := r2) m rfl rfl rfl rfl rfl rfl rfl rfl rfl rfl) (.inl ⟨.inl (hy0.1 h1), rfl, rfl⟩)
 refine go ?_
 refine Sx.ifp rfl (fun h2 => ?_) (fun h2 => ?_)
 ·refine go ?_
  exact Kr.two (.inr rfl) rfl rfl (LimboO.close (a := ad b) (r0 := r0) (r1 := r1) (r2 := r2) m rfl rfl rfl rfl rfl rfl rfl rfl rfl rfl) (.inl ⟨.inr (.inl h2), rfl, rfl⟩)
 refine go ?_
 refine Sx.ifp rfl (fun h3 => ?_) (fun h3 => ?_)
 ·refine go ?_
  exact Kr.two (.inr rfl) rfl rfl (LimboO.close (a := ad b) (r0 := r0) (r1 := r1) (r2 := r2) m rfl rfl rfl rfl rfl rfl rfl rfl rfl rfl) (.inl ⟨.inr (.inr (.inl h3)), rfl, rfl⟩)
 refine go ?_
 refine Cx.cd rfl (fun h4 => ?_) (fun h4 => ?_)
 ·refine go ?_
  exact Kr.two (.inr rfl) rfl rfl (LimboO.close (a := ad b) (r0 := r0) (r1 := r1) (r2 := r2) m rfl rfl rfl rfl rfl rfl rfl rfl rfl rfl) (.inl ⟨.inr (.inr (.inr (by simpa [pick] using h4))), rfl, rfl⟩)
 have h4' : ¬ tag < m.last := by simpa [pick] using h4
 have hnr : ¬ refused m tag ys := by
  rintro (h | h | h | h)
  ·exact h1 (hy0.2 h)
  ·exact h2 h
  ·exact h3 h
  ·exact h4' h
 refine go ?_
 refine Sv rfl (by decide) ?_
 have hmod : tag.tmod 3 = (bucketOf tag : Int) := by
  unfold bucketOf
  rw [Int.tmod_eq_emod]
  split <;> omega
 rw [hmod]
 have hlt : bucketOf tag < 3 := Nat.mod_lt _ (by omega)
 have hout : outM m tag = if m.tag (bucketOf tag) < tag then m.items (bucketOf tag) else [] := rfl
 have hret : retireM m tag ys = { m.put (bucketOf tag) tag ((if m.tag (bucketOf tag) < tag then [] else m.items (bucketOf tag)) ++ ys) with last := tag } := rfl
 rw [hout, hret]
 generalize bucketOf tag = k at hlt ⊢
 rcases (show k = 0 ∨ k = 1 ∨ k = 2 by omega) with rfl | rfl | rfl
 ·refine go ?_
  refine Sv rfl ⟨by omega, by omega⟩ (go ?_)
  refine Xi rfl (fun h5 => ?_) (fun h5 => ?_)
  ·refine go ?_
   refine Sx.apn rfl rfl (hr.ent (by repeat (first | exact Er _ | (refine Et Ed ?_)))) (ones_ints ys) (by simp [maxLen]; omega) (by omega) fun ra ca hc => (go ?_)
   have h5' : m.tag 0 < tag := h5
   rw [if_pos h5', if_pos h5']
   refine Kr.two (.inr rfl) rfl rfl ?_ (.inr ⟨hnr, r0, c0, rfl, rfl⟩)
   refine Et (LimboO.close (a := ad b) (r0 := ra) (r1 := r1) (r2 := r2) { m.put 0 tag ([] ++ ys) with last := tag } rfl rfl rfl rfl (by simp [hn, Lm.put]) rfl rfl (by simp [Lm.put]) rfl rfl) ?_
   exact Ent.swap
  ·refine go ?_
   refine Sx.ap (ra := r0) rfl rfl (hr.ent (by repeat (first | exact Er _ | (refine Et Ed ?_)))) (ones_ints ys) (by simp [maxLen]; omega) (by omega) fun ra ca hc => (go ?_)
   have h5' : ¬ m.tag 0 < tag := h5
   rw [if_neg h5', if_neg h5']
   refine Kr.two (.inr rfl) rfl rfl ?_ (.inr ⟨hnr, none, 0, rfl, rfl⟩)
   refine Et (LimboO.close (a := ad b) (r0 := ra) (r1 := r1) (r2 := r2) { m.put 0 tag (m.items 0 ++ ys) with last := tag } rfl rfl rfl rfl (by simp [hn, Lm.put, Lm.items]) rfl rfl (by simp [Lm.put, Lm.items, ints_append]) rfl rfl) ?_
   exact Ent.rownil 3 1
 ·refine go ?_
  refine Sv rfl ⟨by omega, by omega⟩ (go ?_)
  refine Xi rfl (fun h5 => ?_) (fun h5 => ?_)
  ·refine go ?_
   refine Sx.apn rfl rfl (hr.ent (by repeat (first | exact Er _ | (refine Et Ed ?_)))) (ones_ints ys) (by simp [maxLen]; omega) (by omega) fun ra ca hc => (go ?_)
   have h5' : m.tag 1 < tag := h5
   rw [if_pos h5', if_pos h5']
   refine Kr.two (.inr rfl) rfl rfl ?_ (.inr ⟨hnr, r1, c1, rfl, rfl⟩)
   refine Et (LimboO.close (a := ad b) (r0 := r0) (r1 := ra) (r2 := r2) { m.put 1 tag ([] ++ ys) with last := tag } rfl rfl rfl rfl rfl (by simp [hn, Lm.put]) rfl rfl (by simp [Lm.put]) rfl) ?_
   exact Ent.swap
  ·refine go ?_
   refine Sx.ap (ra := r1) rfl rfl (hr.ent (by repeat (first | exact Er _ | (refine Et Ed ?_)))) (ones_ints ys) (by simp [maxLen]; omega) (by omega) fun ra ca hc => (go ?_)
   have h5' : ¬ m.tag 1 < tag := h5
   rw [if_neg h5', if_neg h5']
   refine Kr.two (.inr rfl) rfl rfl ?_ (.inr ⟨hnr, none, 0, rfl, rfl⟩)
   refine Et (LimboO.close (a := ad b) (r0 := r0) (r1 := ra) (r2 := r2) { m.put 1 tag (m.items 1 ++ ys) with last := tag } rfl rfl rfl rfl rfl (by simp [hn, Lm.put, Lm.items]) rfl rfl (by simp [Lm.put, Lm.items, ints_append]) rfl) ?_
   exact Ent.rownil 3 1
 ·refine go ?_
  refine Sv rfl ⟨by omega, by omega⟩ (go ?_)
  refine Xi rfl (fun h5 => ?_) (fun h5 => ?_)
  ·refine go ?_
   refine Sx.apn rfl rfl (hr.ent (by repeat (first | exact Er _ | (refine Et Ed ?_)))) (ones_ints ys) (by simp [maxLen]; omega) (by omega) fun ra ca hc => (go ?_)
   have h5' : m.tag 2 < tag := h5
   rw [if_pos h5', if_pos h5']
   refine Kr.two (.inr rfl) rfl rfl ?_ (.inr ⟨hnr, r2, c2, rfl, rfl⟩)
   refine Et (LimboO.close (a := ad b) (r0 := r0) (r1 := r1) (r2 := ra) { m.put 2 tag ([] ++ ys) with last := tag } rfl rfl rfl rfl rfl rfl (by simp [hn, Lm.put]) rfl rfl (by simp [Lm.put])) ?_
   exact Ent.swap
  ·refine go ?_
   refine Sx.ap (ra := r2) rfl rfl (hr.ent (by repeat (first | exact Er _ | (refine Et Ed ?_)))) (ones_ints ys) (by simp [maxLen]; omega) (by omega) fun ra ca hc => (go ?_)
   have h5' : ¬ m.tag 2 < tag := h5
   rw [if_neg h5', if_neg h5']
   refine Kr.two (.inr rfl) rfl rfl ?_ (.inr ⟨hnr, none, 0, rfl, rfl⟩)
   refine Et (LimboO.close (a := ad b) (r0 := r0) (r1 := r1) (r2 := ra) { m.put 2 tag (m.items 2 ++ ys) with last := tag } rfl rfl rfl rfl rfl rfl (by simp [hn, Lm.put, Lm.items]) rfl rfl (by simp [Lm.put, Lm.items, ints_append])) ?_
   exact Ent.rownil 3 1
end
section
variable {L F : St}
theorem limboLen {b : Nat} {m : Lm} {F : St} [t : Take L (ad b) (LimboO m) F] (hb : m.size ≤ 1000000000) :
  FX 217 [zp b] L (fun v L' => v = ii m.size ∧ L' = pt (ad b) (LimboO m) :: F) := by
 have hs : m.size = m.x0.length + m.x1.length + m.x2.length := rfl
 refine Fm Tryz.func217 k217 ?_
 dsimp only [c217, eL]
 refine Xo (t := t) rfl ?_
 rintro ⟨⟨r0, c0⟩, ⟨r1, c1⟩, ⟨r2, c2⟩⟩
 simp only [lc, ln]
 refine go ?_
 generalize hM : (pt (ad b) (Blk 255 [ii m.t0, .slice r0 m.x0.length c0, ii m.t1, .slice r1 m.x1.length c1, ii m.t2, .slice r2 m.x2.length c2, ii m.last]) ::
  pt r0 (Row 3 1 m.x0.length c0 (ints m.x0)) :: pt r1 (Row 3 1 m.x1.length c1 (ints m.x1)) :: pt r2 (Row 3 1 m.x2.length c2 (ints m.x2)) :: F) = M
 refine Cx.lp (α := {i : Nat // i ≤ 3}) (fun i => [(3, ii (((List.range i.1).map fun k => (m.items k).length).sum : Nat)), (9, .agg #[ii m.t0, .slice r0 m.x0.length c0, ii m.t1, .slice r1 m.x1.length c1, ii m.t2, .slice r2 m.x2.length c2]), (10, ii i.1)])
  (fun _ => M) (fun i => 3 - i.1) ⟨0, by omega⟩ sb3 (Er _) ?_
 rintro ⟨i, hi⟩
 dsimp only
 rcases (show i = 0 ∨ i = 1 ∨ i = 2 ∨ i = 3 by omega) with rfl | rfl | rfl | rfl
 ·refine go ?_
  refine Sv rfl ⟨by omega, by omega⟩ ?_
  refine Sx.al fun g => ?_
  refine Sx.st (b := g) rfl rfl rfl rfl rfl rfl ?_
  dsimp only [lay]
  refine go ?_
  refine Kn ⟨1, by omega⟩ (sub.cons ?_ sb2) (Ed) (by simp)
  simp only [List.range_succ, List.range_zero, ln, List.map_append, List.map_cons, List.map_nil, List.sum_append, List.sum_cons, List.sum_nil, Nat.zero_add, Nat.add_zero]
  refine congrArg (fun z => some (Value.int .i64 z)) ?_
  refine Eq.trans (w64 (by simp [Lm.items]) (by simp [Lm.items]; omega)) ?_
  simp [Lm.items]
 ·refine go ?_
  refine Sv rfl ⟨by omega, by omega⟩ ?_
  refine Sx.al fun g => ?_
  refine Sx.st (b := g) rfl rfl rfl rfl rfl rfl ?_
  dsimp only [lay]
  refine go ?_
  refine Kn ⟨2, by omega⟩ (sub.cons ?_ sb2) (Ed) (by simp)
  simp only [List.range_succ, List.range_zero, ln, List.map_append, List.map_cons, List.map_nil, List.sum_append, List.sum_cons, List.sum_nil, Nat.zero_add, Nat.add_zero]
  refine congrArg (fun z => some (Value.int .i64 z)) ?_
  refine Eq.trans (w64 (by simp [Lm.items]; omega) (by simp [Lm.items]; omega)) ?_
  simp [Lm.items]
 ·refine go ?_
  refine Sv rfl ⟨by omega, by omega⟩ ?_
  refine Sx.al fun g => ?_
  refine Sx.st (b := g) rfl rfl rfl rfl rfl rfl ?_
  dsimp only [lay]
  refine go ?_
  refine Kn ⟨3, by omega⟩ (sub.cons ?_ sb2) (Ed) (by simp)
  simp only [List.range_succ, List.range_zero, ln, List.map_append, List.map_cons, List.map_nil, List.sum_append, List.sum_cons, List.sum_nil, Nat.zero_add, Nat.add_zero]
  refine congrArg (fun z => some (Value.int .i64 z)) ?_
  refine Eq.trans (w64 (by simp [Lm.items]; omega) (by simp [Lm.items]; omega)) ?_
  simp [Lm.items]
 ·refine go ?_
  subst hM
  refine Ko rfl (LimboO.close (a := ad b) (r0 := r0) (r1 := r1) (r2 := r2) m rfl rfl rfl rfl rfl rfl rfl rfl rfl rfl) ⟨?_, rfl⟩
  simp [List.range_succ, Lm.items, hs]
  omega
theorem limboBucket {b : Nat} {m : Lm} {k : Int} {F : St} [t : Take L (ad b) (LimboO m) F] (hb : m.size ≤ 1000000000) :
  FX 121 [zp b, ii k] L (fun v L' =>
   ((k < 0 ∨ 3 ≤ k ∨ m.items k.toNat = []) ∧ v = .tuple #[ii 0, .slice none 0 0] ∧ L' = pt (ad b) (LimboO m) :: F) ∨
   (¬ (k < 0 ∨ 3 ≤ k ∨ m.items k.toNat = []) ∧ ∃ ro co, v = .tuple #[ii (m.tag k.toNat), .slice ro (m.items k.toNat).length co] ∧ L' = pt ro (Row 3 1 (m.items k.toNat).length co (ints (m.items k.toNat))) :: pt (ad b) (LimboO m) :: F)) := by
 have hs : m.size = m.x0.length + m.x1.length + m.x2.length := rfl
 refine Fm Tryz.func121 k121 ?_
 dsimp only [c121, eL]
 refine Xo (t := t) rfl ?_
 rintro ⟨⟨r0, c0⟩, ⟨r1, c1⟩, ⟨r2, c2⟩⟩
 simp only [lc, ln]
 refine Cx.rowkey (a := r0) fun hx0 hn0 _ hk0 => ?_
 refine Cx.rowkey (a := r1) fun hx1 hn1 _ hk1 => ?_
 refine Cx.rowkey (a := r2) fun hx2 hn2 _ hk2 => (go ?_)
 refine Sx.ifp rfl (fun h1 => ?_) (fun h1 => ?_)
 ·refine go ?_
  exact Kr.two (.inr rfl) rfl rfl (LimboO.close (a := ad b) (r0 := r0) (r1 := r1) (r2 := r2) m rfl rfl rfl rfl rfl rfl rfl rfl rfl rfl) (.inl ⟨.inl h1, rfl, rfl⟩)
 refine go ?_
 refine Sx.ifp rfl (fun h2 => ?_) (fun h2 => ?_)
 ·refine go ?_
  exact Kr.two (.inr rfl) rfl rfl (LimboO.close (a := ad b) (r0 := r0) (r1 := r1) (r2 := r2) m rfl rfl rfl rfl rfl rfl rfl rfl rfl rfl) (.inl ⟨.inr (.inl h2), rfl, rfl⟩)
 rcases (show k = 0 ∨ k = 1 ∨ k = 2 by omega) with rfl | rfl | rfl
 ·refine go ?_
  refine Sv rfl ⟨by omega, by omega⟩ (go ?_)
  refine Xi rfl (fun h3 => ?_) (fun h3 => ?_)
  ·refine go ?_
   exact Kr.two (.inr rfl) rfl rfl (LimboO.close (a := ad b) (r0 := r0) (r1 := r1) (r2 := r2) m rfl rfl rfl rfl rfl rfl rfl rfl rfl rfl) (.inl ⟨.inr (.inr (nz_ (by simpa [Lm.items] using h3))), rfl, rfl⟩)
  refine go ?_
  refine Cx.rd ?_
  refine Rx.pvs rfl ?_
  refine Rx.pv 0 rfl rfl rfl ⟨by omega, by omega⟩ rfl rfl ?_
  refine Rx.pvs rfl ?_
  refine Rx.ldbK 0 rfl rfl rfl (by rfl) rfl rfl ?_
  refine Rx.pv 0 rfl rfl rfl ⟨by omega, by omega⟩ rfl rfl ?_
  refine Rx.pvs rfl ?_
  refine Rx.ldbK 0 rfl rfl rfl (by rfl) rfl rfl ?_
  refine Rx.pvs rfl ?_
  refine Rx.one rfl rfl rfl ?_
  refine Sa rfl (clone (Rd.any (a := r0) hx0 (hk0.imp (fun h => h.2.1) id)) (ones_ints _) (by omega)) ?_
  rintro v L' ⟨ra, ca, rfl, rfl⟩
  refine Sx.nil ⟨⟨⟨trivial, Has.cell rfl⟩, Has.cell rfl⟩, ?_⟩
  refine Rx.pvs rfl ?_
  refine Rx.nil (go ?_)
  refine Kr.two (.inr rfl) rfl rfl ?_ (.inr ⟨?_, ra, ca, rfl, rfl⟩)
  ·exact Ec (LimboO.close (a := ad b) (r0 := r0) (r1 := r1) (r2 := r2) m rfl rfl rfl rfl rfl rfl rfl rfl rfl rfl)
  ·rintro (h | h | h)
   ·omega
   ·omega
   ·exact h3 (by have := congrArg List.length h; simp [Lm.items] at this; simp [this])
 ·refine go ?_
  refine Sv rfl ⟨by omega, by omega⟩ (go ?_)
  refine Xi rfl (fun h3 => ?_) (fun h3 => ?_)
  ·refine go ?_
   exact Kr.two (.inr rfl) rfl rfl (LimboO.close (a := ad b) (r0 := r0) (r1 := r1) (r2 := r2) m rfl rfl rfl rfl rfl rfl rfl rfl rfl rfl) (.inl ⟨.inr (.inr (nz_ (by simpa [Lm.items] using h3))), rfl, rfl⟩)
  refine go ?_
  refine Cx.rd ?_
  refine Rx.pvs rfl ?_
  refine Rx.pv 0 rfl rfl rfl ⟨by omega, by omega⟩ rfl rfl ?_
  refine Rx.pvs rfl ?_
  refine Rx.ldbK 0 rfl rfl rfl (by rfl) rfl rfl ?_
  refine Rx.pv 0 rfl rfl rfl ⟨by omega, by omega⟩ rfl rfl ?_
  refine Rx.pvs rfl ?_
  refine Rx.ldbK 0 rfl rfl rfl (by rfl) rfl rfl ?_
  refine Rx.pvs rfl ?_
  refine Rx.one rfl rfl rfl ?_
  refine Sa rfl (clone (Rd.any (a := r1) hx1 (hk1.imp (fun h => h.2.1) id)) (ones_ints _) (by omega)) ?_
  rintro v L' ⟨ra, ca, rfl, rfl⟩
  refine Sx.nil ⟨⟨⟨trivial, Has.cell rfl⟩, Has.cell rfl⟩, ?_⟩
  refine Rx.pvs rfl ?_
  refine Rx.nil (go ?_)
  refine Kr.two (.inr rfl) rfl rfl ?_ (.inr ⟨?_, ra, ca, rfl, rfl⟩)
  ·exact Ec (LimboO.close (a := ad b) (r0 := r0) (r1 := r1) (r2 := r2) m rfl rfl rfl rfl rfl rfl rfl rfl rfl rfl)
  ·rintro (h | h | h)
   ·omega
   ·omega
   ·exact h3 (by have := congrArg List.length h; simp [Lm.items] at this; simp [this])
 ·refine go ?_
  refine Sv rfl ⟨by omega, by omega⟩ (go ?_)
  refine Xi rfl (fun h3 => ?_) (fun h3 => ?_)
  ·refine go ?_
   exact Kr.two (.inr rfl) rfl rfl (LimboO.close (a := ad b) (r0 := r0) (r1 := r1) (r2 := r2) m rfl rfl rfl rfl rfl rfl rfl rfl rfl rfl) (.inl ⟨.inr (.inr (nz_ (by simpa [Lm.items] using h3))), rfl, rfl⟩)
  refine go ?_
  refine Cx.rd ?_
  refine Rx.pvs rfl ?_
  refine Rx.pv 0 rfl rfl rfl ⟨by omega, by omega⟩ rfl rfl ?_
  refine Rx.pvs rfl ?_
  refine Rx.ldbK 0 rfl rfl rfl (by rfl) rfl rfl ?_
  refine Rx.pv 0 rfl rfl rfl ⟨by omega, by omega⟩ rfl rfl ?_
  refine Rx.pvs rfl ?_
  refine Rx.ldbK 0 rfl rfl rfl (by rfl) rfl rfl ?_
  refine Rx.pvs rfl ?_
  refine Rx.one rfl rfl rfl ?_
  refine Sa rfl (clone (Rd.any (a := r2) hx2 (hk2.imp (fun h => h.2.1) id)) (ones_ints _) (by omega)) ?_
  rintro v L' ⟨ra, ca, rfl, rfl⟩
  refine Sx.nil ⟨⟨⟨trivial, Has.cell rfl⟩, Has.cell rfl⟩, ?_⟩
  refine Rx.pvs rfl ?_
  refine Rx.nil (go ?_)
  refine Kr.two (.inr rfl) rfl rfl ?_ (.inr ⟨?_, ra, ca, rfl, rfl⟩)
  ·exact Ec (LimboO.close (a := ad b) (r0 := r0) (r1 := r1) (r2 := r2) m rfl rfl rfl rfl rfl rfl rfl rfl rfl rfl)
  ·rintro (h | h | h)
   ·omega
   ·omega
   ·exact h3 (by have := congrArg List.length h; simp [Lm.items] at this; simp [this])
end
section
variable {L F : St}
theorem bucketOpen {b o n c : Nat} {now tag : Int} {r : OA} {xs : List Int} (h0 : Has L b o [ii tag]) (h1 : Has L b (o + 1) [.slice r n c]) (hn : n = xs.length) (h2 : 2 ≤ now) (h3 : now ≤ 9223372036854775807) :
  FX 201 [.pointer (some ⟨b, o, none⟩), ii now] L (fun v L' => v = .bool (openM now tag xs) ∧ L = L') := by
 subst hn
 refine Fm Tryz.func201 k201 ?_
 dsimp only [c201, eL]
 refine go ?_
 refine Sx.ld rfl h1 rfl (go ?_)
 refine Sx.ifp rfl (fun h => ?_) (fun h => ?_)
 ·refine go ?_
  refine Sx.ld rfl (by simpa using h0) rfl (go ?_)
  rw [w64 (n := now - 2) (by omega) (by omega)]
  refine Ko rfl (Er _) ⟨?_, rfl⟩
  have h' : 0 < xs.length := by omega
  simp [pick, openM, h']
 ·refine go ?_
  refine Ko rfl (Er _) ⟨?_, rfl⟩
  have h' : ¬ 0 < xs.length := by omega
  simp [pick, openM, h']
abbrev lptr (b : Nat) (o : Option Nat) : Value := .pointer (o.map fun j => ⟨b, 0 + j * 2, none⟩)
set_option maxHeartbeats 4000000 in
theorem limboReady {b : Nat} {m : Lm} {now : Int} {F : St} [t : Take L (ad b) (LimboO m) F] (hb : m.size ≤ 100000000) (hnow : now ≤ 9223372036854775807) :
  FX 135 [zp b, ii now] L (fun v L' => ∃ ro co, v = .slice ro (readyAll now m).1.length co ∧
   L' = pt ro (Row 3 1 (readyAll now m).1.length co (ints (readyAll now m).1)) :: pt (ad b) (LimboO (readyAll now m).2) :: F) := by
 refine Fm Tryz.func135 k135 ?_
 dsimp only [c135, eL]
 refine Xe (Et (Eo t.out) (Ent.rownil 3 1)) (go ?_)
 refine Cx.lp (α := {p : (List Int × Lm) × (OA × Nat) // p.1.1.length + p.1.2.size = m.size ∧ p.1.1 ++ (readyAll now p.1.2).1 = (readyAll now m).1 ∧ (readyAll now p.1.2).2 = (readyAll now m).2})
  (fun p => [(0, zp b), (1, ii now), (5, .slice p.1.2.1 p.1.1.1.length p.1.2.2)])
  (fun p => pt p.1.2.1 (Row 3 1 p.1.1.1.length p.1.2.2 (ints p.1.1.1)) :: pt (ad b) (LimboO p.1.1.2) :: F) (fun p => p.1.1.2.cnt) ⟨(([], m), (none, 0)), by simp, by simp, rfl⟩ sb3 (Er _) ?_
 rintro ⟨⟨⟨out, m'⟩, ⟨ro, co⟩⟩, hsz, he1, he2⟩
 dsimp only at hsz he1 he2 ⊢
 refine go ?_
 refine Xi rfl (fun h2 => ?_) (fun h2 => ?_)
 rotate_left
 ·refine go ?_
  have hra : readyAll now m' = ([], m') := by unfold readyAll; rw [if_neg (by omega)]
  rw [hra] at he1 he2
  simp only [List.append_nil] at he1
  subst he1; subst he2
  exact Ko rfl (Er _) ⟨ro, co, rfl, rfl⟩
 refine Xo (a := ad b) rfl ?_
 rintro ⟨⟨r0, c0⟩, ⟨r1, c1⟩, ⟨r2, c2⟩⟩
 simp only [lc, ln]
 refine go ?_
 refine Cx.lp (α := {k : Nat // k ≤ 3}) (fun k => [(0, zp b), (1, ii now), (5, .slice ro out.length co), (6, lptr b (leastUp now m' k.1)), (11, ii k.1)]) (fun _ => _) (fun k => 3 - k.1) ⟨0, by omega⟩
  sb5 (Er _) ?_
 rintro ⟨k, hk⟩
 dsimp only
 rcases (show k = 0 ∨ k = 1 ∨ k = 2 ∨ k = 3 by omega) with rfl | rfl | rfl | rfl
 ·refine go ?_
  refine Sv rfl ⟨by omega, by omega⟩ ?_
  rcases hlu : leastUp now m' 0 with _ | j
  ·refine go ?_
   refine Cx.calm kr_ ?_
   repeat' (first | (refine Cm.pvs rfl ?_) | (refine Cm.step rfl ?_) | (refine Cm.done ?_) | (refine Cm.ldb rfl rfl (by rfl) ?_) | (refine Cm.ldbs rfl rfl rfl ?_))
   refine Cm.ca rfl rfl (bucketOpen (tag := m'.t0) (xs := m'.x0) (Has.cell rfl) (Has.cell rfl) rfl h2 hnow) ?_
   cases hop : openM now m'.t0 m'.x0
   ·repeat' (first | (refine Cm.pvs rfl ?_) | (refine Cm.step rfl ?_) | (refine Cm.done ?_) | (refine Cm.ldb rfl rfl (by rfl) ?_) | (refine Cm.ldbs rfl rfl rfl ?_))
    refine go ?_
    refine Kn ⟨1, by omega⟩ (sub.cons rfl (sub.cons rfl (sub.cons rfl (sub.cons (Eq.trans ?_ (congrArg (fun o => some (lptr b o)) ((leastUp_no (k := 0) hop).trans hlu : leastUp now m' 1 = _).symm)) sb1)))) (Er _) (by simp)
    rfl
   ·repeat' (first | (refine Cm.pvs rfl ?_) | (refine Cm.step rfl ?_) | (refine Cm.done ?_) | (refine Cm.ldb rfl rfl (by rfl) ?_) | (refine Cm.ldbs rfl rfl rfl ?_))
    refine go ?_
    refine Kn ⟨1, by omega⟩ (sub.cons rfl (sub.cons rfl (sub.cons rfl (sub.cons (Eq.trans ?_ (congrArg (fun o => some (lptr b o)) (leastUp_first (k := 0) hop hlu : leastUp now m' 1 = _).symm)) sb1)))) (Er _) (by simp)
    rfl
  ·exact absurd (leastUp_lt hlu).1 (by omega)
 ·refine go ?_
  refine Sv rfl ⟨by omega, by omega⟩ ?_
  rcases hlu : leastUp now m' 1 with _ | j
  ·refine go ?_
   refine Cx.calm kr_ ?_
   repeat' (first | (refine Cm.pvs rfl ?_) | (refine Cm.step rfl ?_) | (refine Cm.done ?_) | (refine Cm.ldb rfl rfl (by rfl) ?_) | (refine Cm.ldbs rfl rfl rfl ?_))
   refine Cm.ca rfl rfl (bucketOpen (tag := m'.t1) (xs := m'.x1) (Has.cell rfl) (Has.cell rfl) rfl h2 hnow) ?_
   cases hop : openM now m'.t1 m'.x1
   ·repeat' (first | (refine Cm.pvs rfl ?_) | (refine Cm.step rfl ?_) | (refine Cm.done ?_) | (refine Cm.ldb rfl rfl (by rfl) ?_) | (refine Cm.ldbs rfl rfl rfl ?_))
    refine go ?_
    refine Kn ⟨2, by omega⟩ (sub.cons rfl (sub.cons rfl (sub.cons rfl (sub.cons (Eq.trans ?_ (congrArg (fun o => some (lptr b o)) ((leastUp_no (k := 1) hop).trans hlu : leastUp now m' 2 = _).symm)) sb1)))) (Er _) (by simp)
    rfl
   ·repeat' (first | (refine Cm.pvs rfl ?_) | (refine Cm.step rfl ?_) | (refine Cm.done ?_) | (refine Cm.ldb rfl rfl (by rfl) ?_) | (refine Cm.ldbs rfl rfl rfl ?_))
    refine go ?_
    refine Kn ⟨2, by omega⟩ (sub.cons rfl (sub.cons rfl (sub.cons rfl (sub.cons (Eq.trans ?_ (congrArg (fun o => some (lptr b o)) (leastUp_first (k := 1) hop hlu : leastUp now m' 2 = _).symm)) sb1)))) (Er _) (by simp)
    rfl
  ·have hj := (leastUp_lt hlu).1
   rcases (show j = 0 by omega) with rfl
   ·refine go ?_
    refine Cx.calm kr_ ?_
    repeat' (first | (refine Cm.pvs rfl ?_) | (refine Cm.step rfl ?_) | (refine Cm.done ?_) | (refine Cm.ldb rfl rfl (by rfl) ?_) | (refine Cm.ldbs rfl rfl rfl ?_))
    refine Cm.ca rfl rfl (bucketOpen (tag := m'.t1) (xs := m'.x1) (Has.cell rfl) (Has.cell rfl) rfl h2 hnow) ?_
    cases hop : openM now m'.t1 m'.x1
    ·repeat' (first | (refine Cm.pvs rfl ?_) | (refine Cm.step rfl ?_) | (refine Cm.done ?_) | (refine Cm.ldb rfl rfl (by rfl) ?_) | (refine Cm.ldbs rfl rfl rfl ?_))
     refine go ?_
     refine Kn ⟨2, by omega⟩ (sub.cons rfl (sub.cons rfl (sub.cons rfl (sub.cons (Eq.trans ?_ (congrArg (fun o => some (lptr b o)) ((leastUp_no (k := 1) hop).trans hlu : leastUp now m' 2 = _).symm)) sb1)))) (Er _) (by simp)
     rfl
    ·repeat' (first | (refine Cm.pvs rfl ?_) | (refine Cm.step rfl ?_) | (refine Cm.done ?_) | (refine Cm.ldb rfl rfl (by rfl) ?_) | (refine Cm.ldbs rfl rfl rfl ?_))
     refine Xi rfl (fun h3 => ?_) (fun h3 => ?_)
     ·refine go ?_
      refine Kn ⟨2, by omega⟩ (sub.cons rfl (sub.cons rfl (sub.cons rfl (sub.cons (Eq.trans ?_ (congrArg (fun o => some (lptr b o)) (leastUp_less (k := 1) hop hlu h3 : leastUp now m' 2 = _).symm)) sb1)))) (Er _) (by simp)
      rfl
     ·refine go ?_
      refine Kn ⟨2, by omega⟩ (sub.cons rfl (sub.cons rfl (sub.cons rfl (sub.cons (Eq.trans ?_ (congrArg (fun o => some (lptr b o)) (leastUp_keep (k := 1) hop hlu h3 : leastUp now m' 2 = _).symm)) sb1)))) (Er _) (by simp)
      rfl
 ·refine go ?_
  refine Sv rfl ⟨by omega, by omega⟩ ?_
  rcases hlu : leastUp now m' 2 with _ | j
  ·refine go ?_
   refine Cx.calm kr_ ?_
   repeat' (first | (refine Cm.pvs rfl ?_) | (refine Cm.step rfl ?_) | (refine Cm.done ?_) | (refine Cm.ldb rfl rfl (by rfl) ?_) | (refine Cm.ldbs rfl rfl rfl ?_))
   refine Cm.ca rfl rfl (bucketOpen (tag := m'.t2) (xs := m'.x2) (Has.cell rfl) (Has.cell rfl) rfl h2 hnow) ?_
   cases hop : openM now m'.t2 m'.x2
   ·repeat' (first | (refine Cm.pvs rfl ?_) | (refine Cm.step rfl ?_) | (refine Cm.done ?_) | (refine Cm.ldb rfl rfl (by rfl) ?_) | (refine Cm.ldbs rfl rfl rfl ?_))
    refine go ?_
    refine Kn ⟨3, by omega⟩ (sub.cons rfl (sub.cons rfl (sub.cons rfl (sub.cons (Eq.trans ?_ (congrArg (fun o => some (lptr b o)) ((leastUp_no (k := 2) hop).trans hlu : leastUp now m' 3 = _).symm)) sb1)))) (Er _) (by simp)
    rfl
   ·repeat' (first | (refine Cm.pvs rfl ?_) | (refine Cm.step rfl ?_) | (refine Cm.done ?_) | (refine Cm.ldb rfl rfl (by rfl) ?_) | (refine Cm.ldbs rfl rfl rfl ?_))
    refine go ?_
    refine Kn ⟨3, by omega⟩ (sub.cons rfl (sub.cons rfl (sub.cons rfl (sub.cons (Eq.trans ?_ (congrArg (fun o => some (lptr b o)) (leastUp_first (k := 2) hop hlu : leastUp now m' 3 = _).symm)) sb1)))) (Er _) (by simp)
    rfl
  ·have hj := (leastUp_lt hlu).1
   rcases (show j = 0 ∨ j = 1 by omega) with rfl | rfl
   ·refine go ?_
    refine Cx.calm kr_ ?_
    repeat' (first | (refine Cm.pvs rfl ?_) | (refine Cm.step rfl ?_) | (refine Cm.done ?_) | (refine Cm.ldb rfl rfl (by rfl) ?_) | (refine Cm.ldbs rfl rfl rfl ?_))
    refine Cm.ca rfl rfl (bucketOpen (tag := m'.t2) (xs := m'.x2) (Has.cell rfl) (Has.cell rfl) rfl h2 hnow) ?_
    cases hop : openM now m'.t2 m'.x2
    ·repeat' (first | (refine Cm.pvs rfl ?_) | (refine Cm.step rfl ?_) | (refine Cm.done ?_) | (refine Cm.ldb rfl rfl (by rfl) ?_) | (refine Cm.ldbs rfl rfl rfl ?_))
     refine go ?_
     refine Kn ⟨3, by omega⟩ (sub.cons rfl (sub.cons rfl (sub.cons rfl (sub.cons (Eq.trans ?_ (congrArg (fun o => some (lptr b o)) ((leastUp_no (k := 2) hop).trans hlu : leastUp now m' 3 = _).symm)) sb1)))) (Er _) (by simp)
     rfl
    ·repeat' (first | (refine Cm.pvs rfl ?_) | (refine Cm.step rfl ?_) | (refine Cm.done ?_) | (refine Cm.ldb rfl rfl (by rfl) ?_) | (refine Cm.ldbs rfl rfl rfl ?_))
     refine Xi rfl (fun h3 => ?_) (fun h3 => ?_)
     ·refine go ?_
      refine Kn ⟨3, by omega⟩ (sub.cons rfl (sub.cons rfl (sub.cons rfl (sub.cons (Eq.trans ?_ (congrArg (fun o => some (lptr b o)) (leastUp_less (k := 2) hop hlu h3 : leastUp now m' 3 = _).symm)) sb1)))) (Er _) (by simp)
      rfl
     ·refine go ?_
      refine Kn ⟨3, by omega⟩ (sub.cons rfl (sub.cons rfl (sub.cons rfl (sub.cons (Eq.trans ?_ (congrArg (fun o => some (lptr b o)) (leastUp_keep (k := 2) hop hlu h3 : leastUp now m' 3 = _).symm)) sb1)))) (Er _) (by simp)
      rfl
   ·refine go ?_
    refine Cx.calm kr_ ?_
    repeat' (first | (refine Cm.pvs rfl ?_) | (refine Cm.step rfl ?_) | (refine Cm.done ?_) | (refine Cm.ldb rfl rfl (by rfl) ?_) | (refine Cm.ldbs rfl rfl rfl ?_))
    refine Cm.ca rfl rfl (bucketOpen (tag := m'.t2) (xs := m'.x2) (Has.cell rfl) (Has.cell rfl) rfl h2 hnow) ?_
    cases hop : openM now m'.t2 m'.x2
    ·repeat' (first | (refine Cm.pvs rfl ?_) | (refine Cm.step rfl ?_) | (refine Cm.done ?_) | (refine Cm.ldb rfl rfl (by rfl) ?_) | (refine Cm.ldbs rfl rfl rfl ?_))
     refine go ?_
     refine Kn ⟨3, by omega⟩ (sub.cons rfl (sub.cons rfl (sub.cons rfl (sub.cons (Eq.trans ?_ (congrArg (fun o => some (lptr b o)) ((leastUp_no (k := 2) hop).trans hlu : leastUp now m' 3 = _).symm)) sb1)))) (Er _) (by simp)
     rfl
    ·repeat' (first | (refine Cm.pvs rfl ?_) | (refine Cm.step rfl ?_) | (refine Cm.done ?_) | (refine Cm.ldb rfl rfl (by rfl) ?_) | (refine Cm.ldbs rfl rfl rfl ?_))
     refine Xi rfl (fun h3 => ?_) (fun h3 => ?_)
     ·refine go ?_
      refine Kn ⟨3, by omega⟩ (sub.cons rfl (sub.cons rfl (sub.cons rfl (sub.cons (Eq.trans ?_ (congrArg (fun o => some (lptr b o)) (leastUp_less (k := 2) hop hlu h3 : leastUp now m' 3 = _).symm)) sb1)))) (Er _) (by simp)
      rfl
     ·refine go ?_
      refine Kn ⟨3, by omega⟩ (sub.cons rfl (sub.cons rfl (sub.cons rfl (sub.cons (Eq.trans ?_ (congrArg (fun o => some (lptr b o)) (leastUp_keep (k := 2) hop hlu h3 : leastUp now m' 3 = _).symm)) sb1)))) (Er _) (by simp)
      rfl
 ·refine go ?_
  have hall : ∀ o, leastUp now m' 3 = o → readyAll now m' = match o with
    | none => ([], m')
    | some j => (m'.items j ++ (readyAll now (m'.put j 0 [])).1, (readyAll now (m'.put j 0 [])).2) := by
   intro o ho
   unfold readyAll
   simp only [if_pos h2]
   cases o with
   | none =>
     cases hc : m'.cnt with
     | zero => rfl
     | succ c => simp [readyM, ho]
   | some j =>
     rw [cnt_put (leastUp_lt ho).1 (open_ne (leastUp_lt ho).2)]
     simp [readyM, ho]
  rcases hlu : leastUp now m' 3 with _ | j
  ·have hra := hall _ hlu
   dsimp only at hra
   rw [hra] at he1 he2
   simp only [List.append_nil] at he1
   subst he1; subst he2
   refine go ?_
   refine Ko rfl ?_ ⟨ro, co, rfl, rfl⟩
   refine Et (LimboO.close (a := ad b) (r0 := r0) (r1 := r1) (r2 := r2) _ rfl rfl rfl rfl rfl rfl rfl rfl rfl rfl) ?_
   exact ent
  ·have hra := hall _ hlu
   have hj := (leastUp_lt hlu).1
   have hne := open_ne (leastUp_lt hlu).2
   have hsp := size_put (m := m') hj
   have hcp := cnt_put hj hne
   dsimp only at hra
   rw [hra, ← List.append_assoc] at he1
   rw [hra] at he2
   have hm1 : out.length + (m'.x0.length + m'.x1.length + m'.x2.length) = m.size := hsz
   rcases (show j = 0 ∨ j = 1 ∨ j = 2 by omega) with rfl | rfl | rfl
   ·refine go ?_
    refine Sx.rowkey (a := r0) fun hxj hnj _ hkj => ?_
    refine Sx.ap (ra := ro) rfl rfl (Rd.any (a := r0) hxj (hkj.imp (fun h => h.2.1) id)) (ones_ints _) (by simp [maxLen]; omega) (by omega) fun ra ca hc => (go ?_)
    refine Sx.st (b := b) rfl rfl rfl rfl rfl rfl ?_
    dsimp only [lay]
    refine go ?_
    refine Kn ⟨((out ++ m'.items 0, m'.put 0 0 []), (ra, ca)), by dsimp only; rw [List.length_append]; omega, he1, he2⟩ (sub.cons rfl (sub.cons rfl (sub.cons ?_ sub.nil))) ?_ (by dsimp only; omega)
    ·show _ = some (Value.slice ra (out ++ m'.items 0).length ca)
     rw [show (out ++ m'.items 0).length = out.length + m'.x0.length by simp [Lm.items]]
     rfl
    ·dsimp only
     refine Et (Ent.rownil 3 1) ?_
     refine Et (LimboO.close (a := ad b) (r0 := none) (r1 := r1) (r2 := r2) (m'.put 0 0 []) rfl rfl rfl rfl rfl rfl rfl rfl rfl rfl) ?_
     rw [show (out ++ m'.items 0).length = out.length + m'.x0.length by simp [Lm.items], show ints (out ++ m'.items 0) = ints out ++ ints m'.x0 by rw [ints_append]; rfl]
     exact ent
   ·refine go ?_
    refine Sx.rowkey (a := r1) fun hxj hnj _ hkj => ?_
    refine Sx.ap (ra := ro) rfl rfl (Rd.any (a := r1) hxj (hkj.imp (fun h => h.2.1) id)) (ones_ints _) (by simp [maxLen]; omega) (by omega) fun ra ca hc => (go ?_)
    refine Sx.st (b := b) rfl rfl rfl rfl rfl rfl ?_
    dsimp only [lay]
    refine go ?_
    refine Kn ⟨((out ++ m'.items 1, m'.put 1 0 []), (ra, ca)), by dsimp only; rw [List.length_append]; omega, he1, he2⟩ (sub.cons rfl (sub.cons rfl (sub.cons ?_ sub.nil))) ?_ (by dsimp only; omega)
    ·show _ = some (Value.slice ra (out ++ m'.items 1).length ca)
     rw [show (out ++ m'.items 1).length = out.length + m'.x1.length by simp [Lm.items]]
     rfl
    ·dsimp only
     refine Et (Ent.rownil 3 1) ?_
     refine Et (LimboO.close (a := ad b) (r0 := r0) (r1 := none) (r2 := r2) (m'.put 1 0 []) rfl rfl rfl rfl rfl rfl rfl rfl rfl rfl) ?_
     rw [show (out ++ m'.items 1).length = out.length + m'.x1.length by simp [Lm.items], show ints (out ++ m'.items 1) = ints out ++ ints m'.x1 by rw [ints_append]; rfl]
     exact ent
   ·refine go ?_
    refine Sx.rowkey (a := r2) fun hxj hnj _ hkj => ?_
    refine Sx.ap (ra := ro) rfl rfl (Rd.any (a := r2) hxj (hkj.imp (fun h => h.2.1) id)) (ones_ints _) (by simp [maxLen]; omega) (by omega) fun ra ca hc => (go ?_)
    refine Sx.st (b := b) rfl rfl rfl rfl rfl rfl ?_
    dsimp only [lay]
    refine go ?_
    refine Kn ⟨((out ++ m'.items 2, m'.put 2 0 []), (ra, ca)), by dsimp only; rw [List.length_append]; omega, he1, he2⟩ (sub.cons rfl (sub.cons rfl (sub.cons ?_ sub.nil))) ?_ (by dsimp only; omega)
    ·show _ = some (Value.slice ra (out ++ m'.items 2).length ca)
     rw [show (out ++ m'.items 2).length = out.length + m'.x2.length by simp [Lm.items]]
     rfl
    ·dsimp only
     refine Et (Ent.rownil 3 1) ?_
     refine Et (LimboO.close (a := ad b) (r0 := r0) (r1 := r1) (r2 := none) (m'.put 2 0 []) rfl rfl rfl rfl rfl rfl rfl rfl rfl rfl) ?_
     rw [show (out ++ m'.items 2).length = out.length + m'.x2.length by simp [Lm.items], show ints (out ++ m'.items 2) = ints out ++ ints m'.x2 by rw [ints_append]; rfl]
     exact ent
end
section
variable {L F : St}
def anyOpen (now : Int) (m : Lm) : Bool := decide (2 ≤ now ∧ (m.open_ now 0 = true ∨ m.open_ now 1 = true ∨ m.open_ now 2 = true))
end
end
section
open Go

end
section
open Go
attribute [local irreducible] Sx Cx Rx Fx Krg Ksq Kbl Klp Kr
structure RTag (m : Lm) (u0 u1 u2 l : Int) : Prop where
 h0 : m.x0 ≠ [] → u0 = m.t0
 h1 : m.x1 ≠ [] → u1 = m.t1
 h2 : m.x2 ≠ [] → u2 = m.t2
 hl : l = m.last ∨ (l = -1 ∧ m.last = 0)
section
variable {L F : St}
def refL (T : TypeId) (m : Lm) (a : OA) (y : ((OA × Nat) × (OA × Nat) × (OA × Nat)) × (Int × Int × Int × Int)) : St :=
  [lift (RTag m y.2.1 y.2.2.1 y.2.2.2.1 y.2.2.2.2), pt a (Blk T [ii y.2.1, ii y.2.2.1, ii y.2.2.2.1, .slice y.1.1.1 m.x0.length y.1.1.2, .slice y.1.2.1.1 m.x1.length y.1.2.1.2, .slice y.1.2.2.1 m.x2.length y.1.2.2.2, ii y.2.2.2.2]),
   pt y.1.1.1 (Row 3 1 m.x0.length y.1.1.2 (ints m.x0)), pt y.1.2.1.1 (Row 3 1 m.x1.length y.1.2.1.2 (ints m.x1)), pt y.1.2.2.1 (Row 3 1 m.x2.length y.1.2.2.2 (ints m.x2))]
def RLimboT (T : TypeId) (m : Lm) (a : OA) : As := exs (refL T m a)
abbrev RLimboO := RLimboT 263
theorem RLimboO.close {T : TypeId} {a r0 r1 r2 : OA} {c0 c1 c2 n0 n1 n2 : Nat} {u0 u1 u2 l : Int} {v0 v1 v2 v3 : Value} {w0 w1 w2 : List Value} {F F0 F1 G : St} (m : Lm) (hT : RTag m u0 u1 u2 l)
  [t : Take L a (Blk T [v0, v1, v2, .slice r0 n0 c0, .slice r1 n1 c1, .slice r2 n2 c2, v3]) F] [q0 : Take F r0 (Row 3 1 n0 c0 w0) F0] [q1 : Take F0 r1 (Row 3 1 n1 c1 w1) F1] [q2 : Take F1 r2 (Row 3 1 n2 c2 w2) G]
  (h0 : v0 = ii u0) (h1 : v1 = ii u1) (h2 : v2 = ii u2) (h3 : v3 = ii l) (e0 : n0 = m.x0.length) (e1 : n1 = m.x1.length) (e2 : n2 = m.x2.length)
  (g0 : w0 = ints m.x0) (g1 : w1 = ints m.x1) (g2 : w2 = ints m.x2) : Ent L (pt a (RLimboT T m) :: G) := by
 subst h0; subst h1; subst h2; subst h3; subst e0; subst e1; subst e2; subst g0; subst g1; subst g2
 refine Et (Em (t := t) (Et (Eo q0.out) (Ec (Et (Eo q1.out) (Ec (Eo q2.out)))))) ?_
 refine Et (Ent.lift hT (Er _)) ?_
 exact Ent.close (f := refL T m a) rfl (((r0, c0), (r1, c1), (r2, c2)), (u0, u1, u2, l))
theorem RTag.nil : RTag Lm.nil 0 0 0 (-1) := ⟨fun h => absurd rfl h, fun h => absurd rfl h, fun h => absurd rfl h, .inr ⟨rfl, rfl⟩⟩
theorem refLimboNew : FX 150 [] L (fun v L' => ∃ g, v = zp g ∧ L' = pt (ad g) (RLimboO Lm.nil) :: L) := by
 refine Fm Tryz.func150 k150 ?_
 dsimp only [c150, eL]
 refine go ?_
 refine Sx.bx rfl rfl fun g => (go ?_)
 refine Ko rfl ?_ ⟨g, rfl, rfl⟩
 refine Et (Ent.rownil 3 1) (Et (Ent.rownil 3 1) (Et (Ent.rownil 3 1) ?_))
 exact RLimboO.close (a := ad g) (r0 := none) (r1 := none) (r2 := none) Lm.nil RTag.nil rfl rfl rfl rfl rfl rfl rfl rfl rfl rfl
def leastI (o : Option Nat) : Int := match o with | none => -1 | some j => j
set_option maxHeartbeats 4000000 in
theorem refLeast {b : Nat} {m : Lm} {now : Int} {F : St} [t : Take L (ad b) (RLimboO m) F] (h2 : 2 ≤ now) (h3 : now ≤ 9223372036854775807) :
  FX 254 [zp b, ii now] L (fun v L' => v = ii (leastI (leastUp now m 3)) ∧ L = L') := by
 refine Fx.kept (t := t) ?_
 refine Fm Tryz.func254 k254 ?_
 dsimp only [c254, eL]
 refine Xo (t := t) rfl ?_
 rintro ⟨⟨⟨r0, c0⟩, ⟨r1, c1⟩, ⟨r2, c2⟩⟩, ⟨u0, u1, u2, l⟩⟩
 simp only [refL, lc, ln]
 refine Cx.liftp fun hT => (go ?_)
 refine Cx.lp (α := {k : Nat // k ≤ 3}) (fun k => [(0, zp b), (1, ii now), (5, ii (leastI (leastUp now m k.1))), (6, ii k.1)]) (fun _ => _) (fun k => 3 - k.1) ⟨0, by omega⟩
  sb4 (Er _) ?_
 rintro ⟨k, hk⟩
 dsimp only
 have hst : ∀ {k : Nat} {v : Int}, leastI (leastUp now m (k + 1)) = v → some (Value.int .i64 v) = some (Value.int .i64 (leastI (leastUp now m (k + 1)))) := fun h => by rw [h]
 rcases (show k = 0 ∨ k = 1 ∨ k = 2 ∨ k = 3 by omega) with rfl | rfl | rfl | rfl
 ·refine go ?_
  refine Xd rfl kr_ (ge ?_)
  by_cases hx : m.x0 = []
  ·have ho : m.open_ now 0 = false := by simp [Lm.open_, openM, Lm.items, hx]
   refine Ev.no 19 rfl (dz (by rw [hx]; decide)) (ge ?_)
   refine go ?_
   exact Kn ⟨0 + 1, by omega⟩ (sub.cons rfl (sub.cons rfl (sub.cons (Eq.trans rfl (hst (congrArg leastI (leastUp_no ho)))) sb1))) (Er _) (by simp)
  ·have hu := hT.h0 hx
   have hp := List.length_pos_iff.2 hx
   refine Ev.yes 19 rfl (dt (by omega)) (ge ?_)
   rw [w64 (n := now - 2) (by omega) (by omega)]
   by_cases h4 : m.t0 ≤ now - 2
   ·have ho : m.open_ now 0 = true := by simp [Lm.open_, openM, Lm.items, Lm.tag]; exact ⟨hp, h4⟩
    refine Ev.yes 30 rfl (dt (by omega)) (ge ?_)
    refine go ?_
    exact Kn ⟨0 + 1, by omega⟩ (sub.cons rfl (sub.cons rfl (sub.cons (Eq.trans rfl (hst (congrArg leastI (leastUp_first ho rfl)))) sb1))) (Er _) (by simp)
   ·have ho : m.open_ now 0 = false := by simp [Lm.open_, openM, Lm.items, Lm.tag]; intro _; omega
    refine Ev.no 30 rfl (dz (by omega)) (ge ?_)
    refine go ?_
    exact Kn ⟨0 + 1, by omega⟩ (sub.cons rfl (sub.cons rfl (sub.cons (Eq.trans rfl (hst (congrArg leastI (leastUp_no ho)))) sb1))) (Er _) (by simp)
 ·refine go ?_
  refine Xd rfl kr_ (ge ?_)
  by_cases hx : m.x1 = []
  ·have ho : m.open_ now 1 = false := by simp [Lm.open_, openM, Lm.items, hx]
   refine Ev.no 19 rfl (dz (by rw [hx]; decide)) (ge ?_)
   refine go ?_
   exact Kn ⟨1 + 1, by omega⟩ (sub.cons rfl (sub.cons rfl (sub.cons (Eq.trans rfl (hst (congrArg leastI (leastUp_no ho)))) sb1))) (Er _) (by simp)
  ·have hu := hT.h1 hx
   have hp := List.length_pos_iff.2 hx
   refine Ev.yes 19 rfl (dt (by omega)) (ge ?_)
   rw [w64 (n := now - 2) (by omega) (by omega)]
   by_cases h4 : m.t1 ≤ now - 2
   ·have ho : m.open_ now 1 = true := by simp [Lm.open_, openM, Lm.items, Lm.tag]; exact ⟨hp, h4⟩
    refine Ev.yes 30 rfl (dt (by omega)) (ge ?_)
    rcases hlu : leastUp now m 1 with _ | j
    ·refine Ev.yes 33 rfl (dt (by simp [leastI])) (ge ?_)
     refine go ?_
     exact Kn ⟨1 + 1, by omega⟩ (sub.cons rfl (sub.cons rfl (sub.cons (Eq.trans rfl (hst (congrArg leastI (leastUp_first ho hlu)))) sb1))) (Er _) (by simp)
    ·refine Ev.no 33 rfl (dz (by simp [leastI])) ?_
     have hj := leastUp_lt hlu
     rcases (show j = 0 by omega) with rfl
     ·have hv := hT.h0 (open_ne hj.2)
      refine ge ?_
      by_cases h5 : m.t1 < m.t0
      ·refine Xy rfl (dt (by omega)) (go ?_)
       exact Kn ⟨1 + 1, by omega⟩ (sub.cons rfl (sub.cons rfl (sub.cons (Eq.trans rfl (hst (congrArg leastI (leastUp_less ho hlu h5)))) sb1))) (Er _) (by simp)
      ·refine Xn rfl (dz (by omega)) (go ?_)
       exact Kn ⟨1 + 1, by omega⟩ (sub.cons rfl (sub.cons rfl (sub.cons (Eq.trans rfl (hst (congrArg leastI (leastUp_keep ho hlu h5)))) sb1))) (Er _) (by simp)
   ·have ho : m.open_ now 1 = false := by simp [Lm.open_, openM, Lm.items, Lm.tag]; intro _; omega
    refine Ev.no 30 rfl (dz (by omega)) (ge ?_)
    refine go ?_
    exact Kn ⟨1 + 1, by omega⟩ (sub.cons rfl (sub.cons rfl (sub.cons (Eq.trans rfl (hst (congrArg leastI (leastUp_no ho)))) sb1))) (Er _) (by simp)
 ·refine go ?_
  refine Xd rfl kr_ (ge ?_)
  by_cases hx : m.x2 = []
  ·have ho : m.open_ now 2 = false := by simp [Lm.open_, openM, Lm.items, hx]
   refine Ev.no 19 rfl (dz (by rw [hx]; decide)) (ge ?_)
   refine go ?_
   exact Kn ⟨2 + 1, by omega⟩ (sub.cons rfl (sub.cons rfl (sub.cons (Eq.trans rfl (hst (congrArg leastI (leastUp_no ho)))) sb1))) (Er _) (by simp)
  ·have hu := hT.h2 hx
   have hp := List.length_pos_iff.2 hx
   refine Ev.yes 19 rfl (dt (by omega)) (ge ?_)
   rw [w64 (n := now - 2) (by omega) (by omega)]
   by_cases h4 : m.t2 ≤ now - 2
   ·have ho : m.open_ now 2 = true := by simp [Lm.open_, openM, Lm.items, Lm.tag]; exact ⟨hp, h4⟩
    refine Ev.yes 30 rfl (dt (by omega)) (ge ?_)
    rcases hlu : leastUp now m 2 with _ | j
    ·refine Ev.yes 33 rfl (dt (by simp [leastI])) (ge ?_)
     refine go ?_
     exact Kn ⟨2 + 1, by omega⟩ (sub.cons rfl (sub.cons rfl (sub.cons (Eq.trans rfl (hst (congrArg leastI (leastUp_first ho hlu)))) sb1))) (Er _) (by simp)
    ·refine Ev.no 33 rfl (dz (by simp [leastI])) ?_
     have hj := leastUp_lt hlu
     rcases (show j = 0 ∨ j = 1 by omega) with rfl | rfl
     ·have hv := hT.h0 (open_ne hj.2)
      refine ge ?_
      by_cases h5 : m.t2 < m.t0
      ·refine Xy rfl (dt (by omega)) (go ?_)
       exact Kn ⟨2 + 1, by omega⟩ (sub.cons rfl (sub.cons rfl (sub.cons (Eq.trans rfl (hst (congrArg leastI (leastUp_less ho hlu h5)))) sb1))) (Er _) (by simp)
      ·refine Xn rfl (dz (by omega)) (go ?_)
       exact Kn ⟨2 + 1, by omega⟩ (sub.cons rfl (sub.cons rfl (sub.cons (Eq.trans rfl (hst (congrArg leastI (leastUp_keep ho hlu h5)))) sb1))) (Er _) (by simp)
     ·have hv := hT.h1 (open_ne hj.2)
      refine ge ?_
      by_cases h5 : m.t2 < m.t1
      ·refine Xy rfl (dt (by omega)) (go ?_)
       exact Kn ⟨2 + 1, by omega⟩ (sub.cons rfl (sub.cons rfl (sub.cons (Eq.trans rfl (hst (congrArg leastI (leastUp_less ho hlu h5)))) sb1))) (Er _) (by simp)
      ·refine Xn rfl (dz (by omega)) (go ?_)
       exact Kn ⟨2 + 1, by omega⟩ (sub.cons rfl (sub.cons rfl (sub.cons (Eq.trans rfl (hst (congrArg leastI (leastUp_keep ho hlu h5)))) sb1))) (Er _) (by simp)
   ·have ho : m.open_ now 2 = false := by simp [Lm.open_, openM, Lm.items, Lm.tag]; intro _; omega
    refine Ev.no 30 rfl (dz (by omega)) (ge ?_)
    refine go ?_
    exact Kn ⟨2 + 1, by omega⟩ (sub.cons rfl (sub.cons rfl (sub.cons (Eq.trans rfl (hst (congrArg leastI (leastUp_no ho)))) sb1))) (Er _) (by simp)
 ·refine go ?_
  refine Ko rfl ?_ ⟨rfl, rfl⟩
  exact RLimboO.close (a := ad b) (r0 := r0) (r1 := r1) (r2 := r2) m hT rfl rfl rfl rfl rfl rfl rfl rfl rfl rfl
end
theorem mm_ext {a b : Mm} (hl : a.ws.length = b.ws.length) (hn : a.n = b.n) (h : ∀ i, a.at_ i = b.at_ i) : a = b := by
 obtain ⟨aw, an⟩ := a
 obtain ⟨bw, bn⟩ := b
 simp only at hl hn
 subst hn
 congr 1
 refine List.ext_getElem hl fun i h1 h2 => ?_
 have := h i
 simp only [Mm.at_, List.getD_eq_getElem?_getD, List.getElem?_eq_getElem h1, List.getElem?_eq_getElem h2, Option.getD_some] at this
 exact this
def rUp (k : Sk) (m : Mm) : Nat → Mm
 | 0 => m.lay k.head 1
 | i + 1 => if i + 1 = k.n then ((rUp k m i).lay (k.links + i) ((i + 2) % (k.n + 1))).lay (k.links + i) 0 else (rUp k m i).lay (k.links + i) ((i + 2) % (k.n + 1))
theorem rUp_len (k : Sk) (m : Mm) : ∀ i, (rUp k m i).ws.length = m.ws.length
 | 0 => Mm.len_lay
 | i + 1 => by
   unfold rUp
   split <;> simp only [Mm.len_lay] <;> exact rUp_len k m i
theorem rUp_n (k : Sk) (m : Mm) : ∀ i, (rUp k m i).n = m.n
 | 0 => rfl
 | i + 1 => by
   unfold rUp
   split <;> exact rUp_n k m i
theorem rUp_at {k : Sk} {m : Mm} {len : Nat} (hk : k.ok len) (hl : m.ws.length = len) : ∀ i, i ≤ k.n → ∀ a, (rUp k m i).at_ a = if k.head = a then 1 else if k.links ≤ a ∧ a < k.links + i then (if a - k.links + 1 = k.n then 0 else a - k.links + 2) else m.at_ a
 | 0, _, a => by
   have := hk.h
   unfold rUp
   rw [Mm.at_lay _ (by omega)]
   split
   ·rfl
   ·rw [if_neg (by omega)]
 | i + 1, hi, a => by
   have ih := rUp_at hk hl i (by omega)
   have hll := rUp_len k m i
   have h1 := hk.l; have h2 := hk.a
   unfold rUp
   split
   ·rename_i he
    rw [Mm.at_lay _ (by rw [Mm.len_lay]; omega), Mm.at_lay _ (by omega), ih]
    by_cases e : k.links + i = a
    ·rw [if_pos e, if_neg (by omega), if_pos (by omega), if_pos (by omega)]
    ·rw [if_neg e, if_neg e]
     by_cases hh : k.head = a
     ·rw [if_pos hh, if_pos hh]
     ·rw [if_neg hh, if_neg hh]
      by_cases hr : k.links ≤ a ∧ a < k.links + i
      ·rw [if_pos hr, if_pos (show k.links ≤ a ∧ a < k.links + (i + 1) by omega)]
      ·rw [if_neg hr, if_neg (show ¬ (k.links ≤ a ∧ a < k.links + (i + 1)) by omega)]
   ·rename_i he
    rw [Mm.at_lay _ (by omega), ih]
    by_cases e : k.links + i = a
    ·rw [if_pos e, if_neg (by omega), if_pos (by omega), if_neg (by omega), Nat.mod_eq_of_lt (by omega)]; omega
    ·rw [if_neg e]
     by_cases hh : k.head = a
     ·rw [if_pos hh, if_pos hh]
     ·rw [if_neg hh, if_neg hh]
      by_cases hr : k.links ≤ a ∧ a < k.links + i
      ·rw [if_pos hr, if_pos (show k.links ≤ a ∧ a < k.links + (i + 1) by omega)]
      ·rw [if_neg hr, if_neg (show ¬ (k.links ≤ a ∧ a < k.links + (i + 1)) by omega)]
theorem rUp_fill {k : Sk} {m : Mm} {len : Nat} (hk : k.ok len) (hl : m.ws.length = len) : rUp k m k.n = fillM k m := by
 have k1 := hk.n1; have k3 := hk.h; have k4 := hk.l; have k5 := hk.a
 have hu := fillUp_at (k := k) (m := m) (i := k.n) (by omega)
 have hul := fillUp_len k m k.n
 refine mm_ext ?_ ?_ fun a => ?_
 ·rw [rUp_len, fillM_len]
 ·rw [rUp_n, fillM_n]
 ·rw [rUp_at hk hl k.n (Nat.le_refl _)]
  unfold fillM
  rw [Mm.at_lay _ (by rw [Mm.len_lay]; omega), Mm.at_lay _ (by omega)]
  by_cases hh : k.head = a
  ·rw [if_pos hh, if_pos hh]
  ·rw [if_neg hh, if_neg hh]
   by_cases hr : k.links ≤ a ∧ a < k.links + k.n
   ·rw [if_pos hr]
    by_cases e : k.links + k.n - 1 = a
    ·rw [if_pos e, if_pos (by omega)]
    ·rw [if_neg e, if_neg (by omega)]
     have := hu.1 (a - k.links) (by omega)
     rw [show k.links + (a - k.links) = a by omega] at this
     exact this.symm
   ·rw [if_neg hr, if_neg (by omega)]
    exact (hu.2 a (fun j hj => by omega)).symm
section
variable {L F G : St}
def rmemL (T : TypeId) (m : Mm) (a : OA) (y : OA × Nat) : St :=
 [lift (m.ok ∧ m.ws.length ≤ 8388608), pt a (Blk T [.slice y.1 m.ws.length y.2, ii (IntKind.i64.wrap (m.n : Int))]), pt y.1 (Row 56 1 m.ws.length y.2 (us m.ws))]
def RMemT (T : TypeId) (m : Mm) (a : OA) : As := exs (rmemL T m a)
abbrev RMemO := RMemT 110
theorem RMemO.close {T : TypeId} {a r : OA} {c n : Nat} {v : Value} {w : List Value} {F G : St} (m : Mm) (hm : m.ok ∧ m.ws.length ≤ 8388608) [t : Take L a (Blk T [.slice r n c, v]) F] [u : Take F r (Row 56 1 n c w) G]
  (hv : v = ii (IntKind.i64.wrap (m.n : Int))) (hn : n = m.ws.length) (hw : w = us m.ws) : Ent L (pt a (RMemT T m) :: G) := by
 subst hv; subst hn; subst hw
 refine Et (Em (t := t) (Eo u.out)) ?_
 refine Et (Ent.lift hm (Er _)) ?_
 exact Ent.close (f := rmemL T m a) rfl (r, c)
theorem rmemNew (n : Nat) (h2 : n ≤ 8388608) : FX 142 [ii n] L (fun v L' => ∃ g, v = zp g ∧ L' = pt (ad g) (RMemO ⟨List.replicate n 0, 0⟩) :: L) := by
 refine Fm Tryz.func142 k142 ?_
 dsimp only [c142, eL]
 refine go ?_
 refine Sx.mk rfl rfl (by omega) (by omega) (by omega) (by omega) fun g => (go ?_)
 refine Sx.bx rfl rfl fun q => (go ?_)
 refine Ko rfl ?_ ⟨q, rfl, rfl⟩
 have hu : us (List.replicate n 0) = List.replicate n (.int .u64 0) := by simp [us, wd]
 refine RMemO.close (a := ad q) (r := ad g) ⟨List.replicate n 0, 0⟩ ⟨fun w hw => ?_, ?_⟩ rfl (by simp) ?_
 ·rw [List.eq_of_mem_replicate hw]; omega
 ·simpa using h2
 ·rw [hu, made_one]; simp
theorem refAt {x : Cn} (hx : x.ok) (fr : Int) (many i : Nat) (hi : i < many) (hf : 0 ≤ fr ∧ fr + i ≤ 1000000000) (hm : many ≤ 1000000000) : FX 172 [x.v, ii fr, ii many, ii i] L (fun v L' => v = ii (fr + i) ∧ L = L') := by
 refine Fm Tryz.func172 k172 ?_
 dsimp only [c172, eL]
 refine Cx.sq ?_
 refine Cx.rg ?_
 refine Sx.bx rfl rfl fun g => (go ?_)
 refine Sa rfl (refMay_ (x.w : Int) x.c x.wd x.sl x.ca x.ba) ?_
 rintro v L' ⟨rfl, rfl⟩
 rw [dt (show MayC (x.w : Int) x.c x.wd x.sl x.ca x.ba from hx)]
 refine go ?_
 iterate 2 (try (refine Sx.gyes rfl (dz (by omega)) ?_; refine go ?_))
 refine Xn rfl (dz (by omega)) (go ?_)
 rw [w64 (n := fr + i) (by omega) (by omega)]
 exact Ko rfl Ed ⟨rfl, rfl⟩
end
end
section
open Go
theorem lay1 {cs : List Value} {off : Nat} {u : Value} (h : off < cs.length) : lay cs off [u] = cs.set off u := by
 have := lay_cons cs off u [] (by simp; omega)
 rw [← this, lay_nil]
section
variable {P : Program} {N : Nat} {L F : St} {Kf : En → St → Prop} {e : En} {r : List It} {ms : List (Nat × (St → Prop))} {i ds sz : Nat} {rs : List Nat} {d : Option Nat} {g : Option (Nat × Bool)}
theorem Ev.strH {x v : X} {b off E n cap : Nat} {xs ys : List Value} {u : Value} [t : Take L (ad b) (Row E sz n cap xs) F] (hd : lastly i r = true) (hg : gon (e.only rs) g = true)
  (hx : x.get (e.only rs) = some (.pointer (some ⟨b, off, none⟩))) (hv : v.get (e.only rs) = some u) (hu : cellsOf u = some [u]) (h1 : u.oneCell' = true) (hl : off < xs.length) (hy : xs.set off u = ys)
  (hp : Pres ds (fun v L' => v = undef ∧ L' = pt (ad b) (Row E sz n cap ys) :: F) ms)
  (k : Ev P N Kf r ms (e.put d undef) (pt (ad b) (Row E sz n cap ys) :: F)) : Ev P N Kf (⟨i, ds, rs, ⟨d, g, .st x v 1⟩⟩ :: r) ms e L :=
 .genH hd hp hg (fun e' hs K kk => Sx.str (t := t) (X.get_sub hx hs) (X.get_sub hv hs) hu rfl (by simp [ones, h1]) hl (by rw [lay1 hl, hy]) (Sx.nil (kk _ _ ⟨rfl, rfl⟩)))
  (fun v L' ⟨e1, e2⟩ => by subst e1; subst e2; exact k)
theorem Sx.str1 {l : List G} {K : En → St → Prop} {x v : X} {b off E n cap : Nat} {xs ys : List Value} {u : Value} [t : Take L (ad b) (Row E sz n cap xs) F] (hx : x.get e = some (.pointer (some ⟨b, off, none⟩))) (hv : v.get e = some u)
  (hu : cellsOf u = some [u]) (h1 : u.oneCell' = true) (hl : off < xs.length) (hy : xs.set off u = ys) (k : Sx P N l (e.put d undef) K (pt (ad b) (Row E sz n cap ys) :: F)) :
  Sx P N (⟨d, none, .st x v 1⟩ :: l) e K L := Sx.str hx hv hu rfl (by simp [ones, h1]) hl (by rw [lay1 hl, hy]) k
end
end
section
open Go
attribute [local irreducible] Sx Cx Rx Fx Krg Ksq Kbl Klp Kr
theorem natTmod (a b : Nat) : ((a : Int)).tmod (b : Int) = ((a % b : Nat) : Int) := by
 rw [Int.tmod_eq_emod_of_nonneg (Int.natCast_nonneg a)]
 exact (Int.natCast_emod a b).symm
section
variable {L F G : St}
abbrev RSkO (mp : Nat) (k : Sk) : OA → As := Blk 210 (skV mp k)
theorem refPutHead (i : Int) (t : Nat) (h1 : -1 ≤ i) (h2 : i < 4294967295) (ht : t < 4294967296) : FX 204 [hdV i t] L (fun v L' => v = .tuple #[wd (t * 4294967296 + (i + 1).toNat), .bool true] ∧ L = L') := by
 refine Fm Tryz.func204 k204 ?_
 dsimp only [c204, eL]
 refine Cx.sq ?_
 refine Cx.rg ?_
 refine Sx.bx rfl rfl fun g => (go ?_)
 iterate 3 (try (refine Sx.gyes rfl (dz (by omega)) ?_; refine go ?_))
 refine Xn rfl (dz (by omega)) (go ?_)
 rw [wrap64 (n := t) (by omega), w64 (n := i + 1) (by omega) (by omega), show i + 1 = (((i + 1).toNat : Nat) : Int) by omega, wrap64 (n := (i + 1).toNat) (by omega), show (t : Int) * 4294967296 = ((t * 4294967296 : Nat) : Int) by omega, wrap64 (n := t * 4294967296) (by omega),
  show ((t * 4294967296 : Nat) : Int) + ((i + 1).toNat : Nat) = ((t * 4294967296 + (i + 1).toNat : Nat) : Int) by omega, wrap64 (n := t * 4294967296 + (i + 1).toNat) (by omega)]
 exact Kr.two (.inr rfl) rfl rfl Ed ⟨rfl, rfl⟩
theorem Cn.ok.b {x : Cn} (hx : x.ok) : x.w ≤ 64 ∧ x.c ≤ 4096 ∧ x.wd ≤ 1024 ∧ x.sl ≤ 4096 ∧ x.ca ≤ 64 ∧ x.ba ≤ 8 ∧ 1 ≤ x.w ∧ 1 ≤ x.c ∧ 8 ≤ x.wd ∧ 1 ≤ x.sl ∧ 1 ≤ x.ba := by
 obtain ⟨h1, h2, h3, h4, h5, h6, h7⟩ := hx
 omega
theorem refLen {x : Cn} (hx : x.ok) : FX 143 [x.v] L (fun v L' => v = ii (x.len : Int) ∧ L = L') := by
 obtain ⟨b1, b2, b3, b4, b5, b6, b7⟩ := hx.b
 have hmul : x.c * x.wd ≤ 4194304 := by have := Nat.mul_le_mul b2 b3; omega
 refine Fm Tryz.func143 k143 ?_
 dsimp only [c143, eL]
 refine Cx.sq ?_
 refine Cx.rg ?_
 refine Sx.bx rfl rfl fun g => (go ?_)
 refine Sa rfl (refMay_ (x.w : Int) x.c x.wd x.sl x.ca x.ba) ?_
 rintro v L' ⟨rfl, rfl⟩
 rw [dt (show MayC (x.w : Int) x.c x.wd x.sl x.ca x.ba from hx)]
 refine go ?_
 rw [show (x.c : Int) * x.wd = ((x.c * x.wd : Nat) : Int) by push_cast; rfl, w64 (n := (3 : Int) + x.w) (by omega) (by omega), w64 (n := (2 : Int) * x.sl) (by omega) (by omega), w64 (n := (3 : Int) + x.w + 2 * x.sl) (by omega) (by omega), w64 (n := (3 : Int) + x.w + 2 * x.sl + x.c) (by omega) (by omega),
  w64 (n := ((x.c * x.wd : Nat) : Int)) (by omega) (by omega), w64 (n := (3 : Int) + x.w + 2 * x.sl + x.c + ((x.c * x.wd : Nat) : Int)) (by omega) (by omega)]
 refine Ko rfl Ed ⟨congrArg (Value.int .i64) ?_, rfl⟩
 unfold Cn.len; omega
theorem refLink {x : Cn} (hx : x.ok) (i : Nat) (hi : i < x.c) : FX 112 [x.v, ii i] L (fun v L' => v = ii ((x.link + i : Nat) : Int) ∧ L = L') := by
 obtain ⟨b1, b2, b3, b4, b5, b6, b7⟩ := hx.b
 refine Fm Tryz.func112 k112 ?_
 dsimp only [c112, eL]
 refine Cx.sq ?_
 refine Cx.rg ?_
 refine Sx.bx rfl rfl fun g => (go ?_)
 rw [w64 (n := (3 : Int) + x.w) (by omega) (by omega), w64 (n := (2 : Int) * x.sl) (by omega) (by omega), w64 (n := (3 : Int) + x.w + 2 * x.sl) (by omega) (by omega)]
 refine Sa rfl (refAt hx ((3 : Int) + x.w + 2 * x.sl) x.c i hi (by omega) (by omega)) ?_
 rintro v L' ⟨rfl, rfl⟩
 refine go ?_
 refine Ko rfl Ed ⟨congrArg (Value.int .i64) ?_, rfl⟩
 unfold Cn.link; omega
theorem refSlot {x : Cn} (hx : x.ok) (i : Nat) (hi : i < x.sl) : FX 144 [x.v, ii i] L (fun v L' => v = ii ((x.slot + i : Nat) : Int) ∧ L = L') := by
 obtain ⟨b1, b2, b3, b4, b5, b6, b7⟩ := hx.b
 refine Fm Tryz.func144 k144 ?_
 dsimp only [c144, eL]
 refine Cx.sq ?_
 refine Cx.rg ?_
 refine Sx.bx rfl rfl fun g => (go ?_)
 rw [w64 (n := (3 : Int) + x.w) (by omega) (by omega), w64 (n := (3 : Int) + x.w + x.sl) (by omega) (by omega)]
 refine Sa rfl (refAt hx ((3 : Int) + x.w + x.sl) x.sl i hi (by omega) (by omega)) ?_
 rintro v L' ⟨rfl, rfl⟩
 refine go ?_
 refine Ko rfl Ed ⟨congrArg (Value.int .i64) ?_, rfl⟩
 unfold Cn.slot; omega
theorem refPin {x : Cn} (hx : x.ok) (i : Nat) (hi : i < x.w) : FX 145 [x.v, ii i] L (fun v L' => v = ii ((3 + i : Nat) : Int) ∧ L = L') := by
 obtain ⟨b1, b2, b3, b4, b5, b6, b7⟩ := hx.b
 refine Fm Tryz.func145 k145 ?_
 dsimp only [c145, eL]
 refine Cx.sq ?_
 refine Cx.rg ?_
 refine Sx.bx rfl rfl fun g => (go ?_)
 refine Sa rfl (refAt hx (3 : Int) x.w i hi (by omega) (by omega)) ?_
 rintro v L' ⟨rfl, rfl⟩
 refine go ?_
 refine Ko rfl Ed ⟨congrArg (Value.int .i64) ?_, rfl⟩
 omega
set_option maxHeartbeats 2000000 in
theorem refFill {sb mp : Nat} {k : Sk} {m : Mm} (hk : k.ok m.ws.length) [t : Take L (ad mp) (RMemO m) F] [s : Take F (ad sb) (RSkO mp k) G] :
  FX 146 [zp sb] L (fun v L' => L' = pt (ad mp) (RMemO (fillM k m)) :: F) := by
 have hfill := rUp_fill hk rfl
 have hk0 := hk
 obtain ⟨k1, k2, k3, k4, k5, k6⟩ := hk
 refine Fm Tryz.func146 k146 ?_
 dsimp only [c146, eL]
 refine Xe (Et (Eo t.out) (Ec (Eo s.out))) ?_
 refine Xo (a := ad mp) rfl ?_
 rintro ⟨r, c⟩
 simp only [rmemL, lc, ln]
 refine Cx.liftp fun hm => ?_
 refine Cx.rowkey (a := r) fun hx0 hn0 _ hk1 => ?_
 obtain ⟨rg, rfl⟩ : ∃ g, r = ad g := by
  rcases hk1 with h | h
  ·omega
  ·exact h
 refine go ?_
 refine Sa rfl (refPutHead 0 0 (by omega) (by omega) (by omega)) ?_
 rintro v L' ⟨rfl, rfl⟩
 refine go ?_
 refine Xd rfl kr_ (ge ?_)
 refine Ev.strH (b := rg) kr_ rfl rfl rfl rfl rfl (by rw [length_us]; simp; omega) rfl (Pd kr_) (ge ?_)
 refine go ?_
 have hset : (us m.ws).set (0 + (k.head : Int).toNat * 1) (wd (0 * 4294967296 + (0 + 1 : Int).toNat)) = us (rUp k m 0).ws := by
  rw [show 0 + (k.head : Int).toNat * 1 = k.head by simp]
  exact us_set m.ws k.head 1
 refine Cx.lp (α := {i : Nat // i ≤ k.n}) (fun i => [(0, zp sb), (4, ii i.1)])
  (fun i => pt (ad rg) (Row 56 1 m.ws.length c (us (rUp k m i.1).ws)) :: pt (ad mp) (Blk 110 [.slice (ad rg) m.ws.length c, ii (IntKind.i64.wrap (m.n : Int))]) :: pt (ad sb) (RSkO mp k) :: G)
  (fun i => k.n - i.1) ⟨0, by omega⟩ sb2 (by rw [← hset]; exact Er _) ?_
 rintro ⟨i, hi⟩
 dsimp only
 have hil := rUp_len k m i
 have hul : (us (rUp k m i).ws).length = m.ws.length := by rw [length_us, hil]
 refine go ?_
 refine Xi rfl (fun h => ?_) (fun h => ?_)
 ·refine go ?_
  refine Xd rfl kr_ (ge ?_)
  rw [w64 (n := (k.links : Int) + i) (by omega) (by omega), w64 (n := (i : Int) + 2) (by omega) (by omega), w64 (n := (k.n : Int) + 1) (by omega) (by omega)]
  refine Ev.pvH kr_ rfl rfl (by omega) ?_
  have hmlt : (i + 2) % (k.n + 1) < k.n + 1 := Nat.mod_lt _ (by omega)
  rw [show (i : Int) + 2 = ((i + 2 : Nat) : Int) by omega, show (k.n : Int) + 1 = ((k.n + 1 : Nat) : Int) by omega, natTmod]
  refine ge ?_
  rw [wrap64 (n := (i + 2) % (k.n + 1)) (by omega)]
  refine Ev.strH (b := rg) kr_ rfl rfl rfl rfl rfl (by rw [hul]; simp; omega) rfl (Pd kr_) (ge ?_)
  rw [show (us (rUp k m i).ws).set (0 + ((k.links : Int) + i).toNat * 1) (.int .u64 (((i + 2) % (k.n + 1) : Nat) : Int)) = us ((rUp k m i).lay (k.links + i) ((i + 2) % (k.n + 1))).ws by
   rw [show 0 + ((k.links : Int) + i).toNat * 1 = k.links + i by omega]
   exact us_set _ _ _]
  have hul2 : (us ((rUp k m i).lay (k.links + i) ((i + 2) % (k.n + 1))).ws).length = m.ws.length := by rw [length_us, Mm.len_lay, hil]
  refine go ?_
  rw [w64 (n := (k.n : Int) - 1) (by omega) (by omega)]
  refine Xi rfl (fun h2 => ?_) (fun h2 => ?_)
  ·have e : rUp k m (i + 1) = ((rUp k m i).lay (k.links + i) ((i + 2) % (k.n + 1))).lay (k.links + i) 0 := by rw [rUp.eq_def]; simp only; rw [if_pos (by omega)]
   refine go ?_
   refine Cx.orde rfl kr_ (ge ?_)
   rw [w64 (n := (k.links : Int) + i) (by omega) (by omega)]
   refine ge ?_
   refine Ev.strH (b := rg) kr_ rfl rfl rfl rfl rfl (by rw [hul2]; simp; omega) rfl (Pd kr_) (ge ?_)
   rw [show (us ((rUp k m i).lay (k.links + i) ((i + 2) % (k.n + 1))).ws).set (0 + ((k.links : Int) + i).toNat * 1) (.int .u64 0) = us (rUp k m (i + 1)).ws by
    rw [show 0 + ((k.links : Int) + i).toNat * 1 = k.links + i by omega, e]
    exact us_set _ _ 0]
   refine go ?_
   rw [w64 (n := (i : Int) + 1) (by omega) (by omega)]
   exact Kn ⟨i + 1, by omega⟩ sb2 (Er _) (by dsimp only; omega)
  ·have e : rUp k m (i + 1) = (rUp k m i).lay (k.links + i) ((i + 2) % (k.n + 1)) := by rw [rUp.eq_def]; simp only; rw [if_neg (by omega)]
   rw [← e]
   refine go ?_
   rw [w64 (n := (i : Int) + 1) (by omega) (by omega)]
   exact Kn ⟨i + 1, by omega⟩ sb2 (Er _) (by dsimp only; omega)
 ·have hin : i = k.n := by omega
  subst hin
  refine go ?_
  refine Kr.none (.inl rfl) ?_ rfl
  have hl2 : (fillM k m).ws.length = m.ws.length := fillM_len k m
  refine Et ?_ (Ec (Eo s.back))
  refine RMemO.close (a := ad mp) (r := ad rg) (fillM k m) ⟨fillM_ok hm.1 k2, by rw [hl2]; exact hm.2⟩ ?_ hl2.symm ?_
  ·rw [fillM_n]
  ·rw [hfill]
end
section
variable {L F G : St}
abbrev RWO (x : Cn) (rm rp rs re : Nat) : OA → As := Blk 115 (x.l ++ [zp rm, zp rp, zp rs, zp re])
abbrev REpO (x : Cn) (rm : Nat) : OA → As := Blk 218 [zp rm, ii 2, ii 3, ii x.w]
def zeroM (x : Cn) : Mm := ⟨List.replicate x.len 0, 0⟩
theorem zeroM_len (x : Cn) : (zeroM x).ws.length = x.len := by simp [zeroM]
set_option maxHeartbeats 2000000 in
theorem refWNew {x : Cn} (hx : x.ok) : FX 74 [x.v] L (fun v L' => ∃ w rm rp rs re, v = zp w ∧
  L' = pt (ad w) (RWO x rm rp rs re) :: pt (ad rm) (RMemO (fillM x.spare (fillM x.pool (zeroM x)))) :: pt (ad rp) (RSkO rm x.pool) :: pt (ad rs) (RSkO rm x.spare) :: pt (ad re) (REpO x rm) :: L) := by
 obtain ⟨b1, b2, b3, b4, b5, b6, b7⟩ := hx.b
 have hlen := hx.len_le
 refine Fm Tryz.func74 k74 ?_
 dsimp only [c74, eL]
 refine Cx.sq ?_
 refine Cx.rg ?_
 refine Sx.bx rfl rfl fun g => (go ?_)
 refine Sa rfl (refLen hx) ?_
 rintro v L' ⟨rfl, rfl⟩
 refine go ?_
 refine Sa rfl (rmemNew x.len hlen) ?_
 rintro v L' ⟨rm, rfl, rfl⟩
 refine go ?_
 refine Sx.bx rfl rfl fun w => (go ?_)
 refine Xd rfl kr_ (ge ?_)
 refine Eb kr_ rfl rfl (refLink hx 0 (by omega)) (ge ?_)
 refine Ev.bxH kr_ rfl rfl rfl (Pd kr_) fun rp => (ge ?_)
 refine Es (b := w) kr_ rfl rfl rfl rfl rfl (by rfl) rfl (Pd kr_) (ge ?_)
 refine go ?_
 refine Xd rfl kr_ (ge ?_)
 refine Eb kr_ rfl rfl (refSlot hx 0 (by omega)) (ge ?_)
 refine Ev.bxH kr_ rfl rfl rfl (Pd kr_) fun rs => (ge ?_)
 refine Es (b := w) kr_ rfl rfl rfl rfl rfl (by rfl) rfl (Pd kr_) (ge ?_)
 refine go ?_
 refine Xd rfl kr_ (ge ?_)
 refine Eb kr_ rfl rfl (refPin hx 0 (by omega)) (ge ?_)
 refine Ev.bxH kr_ rfl rfl rfl (Pd kr_) fun re => (ge ?_)
 refine Es (b := w) kr_ rfl rfl rfl rfl rfl (by rfl) rfl (Pd kr_) (ge ?_)
 refine go ?_
 refine Sa rfl (refFill (sb := rp) (mp := rm) (k := x.pool) (m := zeroM x) (hx.pool (by rw [zeroM_len]; exact Nat.le_refl _) (by rw [zeroM_len]; exact hlen))) ?_
 rintro v L' rfl
 refine go ?_
 refine Sa rfl (refFill (sb := rs) (mp := rm) (k := x.spare) (m := fillM x.pool (zeroM x)) (hx.spare (by rw [fillM_len, zeroM_len]; exact Nat.le_refl _) (by rw [fillM_len, zeroM_len]; exact hlen))) ?_
 rintro v L' rfl
 refine go ?_
 refine Ko rfl ?_ ⟨w, rm, rp, rs, re, rfl, rfl⟩
 exact ent
theorem refSupply {w rm rp rs re : Nat} {x : Cn} [t : Take L (ad w) (RWO x rm rp rs re) F] : FX 76 [zp w] L (fun v L' => ∃ s st lm, v = zp s ∧
  L' = pt (ad s) (Blk 183 [zp w, zp st, zp lm]) :: pt (ad lm) (RLimboO Lm.nil) :: pt (ad st) (RefO (min (max (x.ca : Int) 0) 64) []) :: L) := by
 refine Fm Tryz.func76 k76 ?_
 dsimp only [c76, eL]
 refine go ?_
 refine Sa rfl (refNew (x.ca : Int)) ?_
 rintro v L' ⟨st, rfl, rfl⟩
 refine go ?_
 refine Sa rfl refLimboNew ?_
 rintro v L' ⟨lm, rfl, rfl⟩
 refine go ?_
 refine Sx.bx rfl rfl fun s => (go ?_)
 exact Ko rfl (Er _) ⟨s, st, lm, rfl, rfl⟩
end
section
variable {L F G : St}
theorem stashTakeI {b : Nat} {most : Int} (xs : List Int) {F : St} [t : Take L (ad b) (StashO most xs) F] (hb : xs.length ≤ 1000000000) :
  FX 248 [zp b] L (fun v L' => v = .tuple #[ii (lastI xs), .bool (decide (xs ≠ []))] ∧ L' = pt (ad b) (StashO most xs.dropLast) :: F) := by
 rcases List.eq_nil_or_concat xs with rfl | ⟨ys, x, rfl⟩
 ·exact stashTakeNone
 ·rw [List.concat_eq_append] at t hb ⊢
  refine (stashTakeSome (t := t) (by simp at hb; omega)).mono ?_
  rintro v L' ⟨rfl, rfl⟩
  simp [lastI]
def supL (T : TypeId) (mp pb : Nat) (x : Cn) (s : SupS) (a : OA) (y : Nat × Nat) : St :=
 [pt a (Blk T (zp mp :: x.l ++ [zp pb, zp y.1, zp y.2])), pt (ad y.1) (StashO s.most s.xs), pt (ad y.2) (LimboO s.lm)]
def SupT (T : TypeId) (mp pb : Nat) (x : Cn) (s : SupS) (a : OA) : As := exs (supL T mp pb x s a)
abbrev SupO := SupT 195
theorem SupO.close {T : TypeId} {mp pb sh lm : Nat} {x : Cn} {a : OA} {m : Int} {xs : List Int} {l : Lm} {F0 F1 G : St} (s : SupS)
  [t : Take L a (Blk T (zp mp :: x.l ++ [zp pb, zp sh, zp lm])) F0] [u : Take F0 (ad sh) (StashO m xs) F1] [q : Take F1 (ad lm) (LimboO l) G]
  (hm : m = s.most) (hx : xs = s.xs) (hl : l = s.lm) : Ent L (pt a (SupT T mp pb x s) :: G) := by
 subst hm; subst hx; subst hl
 refine Et (Em (t := t) (Et (Eo u.out) (Ec (Eo q.out)))) ?_
 exact Ent.close (f := supL T mp pb x s a) rfl (sh, lm)
theorem supNew {mp : Nat} {m : Mm} {x : Cn} (hx : x.ok) (hl : x.len ≤ m.ws.length) [t : Take L (ad mp) (MemO m) F] :
  FX 75 [zp mp, x.v] L (fun v L' => ∃ u pb, v = .tuple #[zp u, ii 0] ∧ L' = pt (ad u) (SupO mp pb x (SupS.nil x.ca)) :: pt (ad pb) (SkO mp x.pool) :: L) := by
 refine Fm Tryz.func75 k75 ?_
 dsimp only [c75, eL]
 refine Cx.sq ?_
 refine Cx.rg ?_
 refine Sx.bx rfl rfl fun g => (go ?_)
 refine Sa rfl (chainNew (mp := mp) (m := m) hx hl) ?_
 rintro v L' ⟨c, pb, rfl, rfl⟩
 refine go ?_
 refine Xd rfl kr_ (ge ?_)
 refine Eb kr_ rfl rfl (chainPool (g := c) (mp := mp) (sb := pb) (x := x)) (ge ?_)
 refine Ea kr_ rfl rfl (stashNew (x.ca : Int)) (.dep rfl (.dep rfl (.keep (fun v L' ⟨_, _, e⟩ => by subst e; exact Has.blk) .nil))) ?_
 rintro v L' ⟨sh, rfl, rfl⟩
 refine ge ?_
 refine Ea kr_ rfl rfl limboNew (.dep rfl (.dep rfl (.keep (fun v L' ⟨_, _, e⟩ => by subst e; exact Has.blk) .nil))) ?_
 rintro v L' ⟨lm, rfl, rfl⟩
 refine ge ?_
 refine Ev.bxH kr_ rfl rfl rfl (Pd kr_) fun u => (ge ?_)
 refine go ?_
 refine Kr.two (.inr rfl) rfl rfl ?_ ⟨u, pb, rfl, rfl⟩
 refine Et (SupO.close (a := ad u) (sh := sh) (lm := lm) (mp := mp) (pb := pb) (x := x) (SupS.nil x.ca) rfl rfl rfl) ?_
 refine Ec ?_
 exact ent
theorem supStash {u mp pb : Nat} {x : Cn} {s : SupS} {F : St} [t : Take L (ad u) (SupO mp pb x s) F] (hb : s.xs.length ≤ 1000000000) : FX 44 [zp u] L (fun v L' => ∃ a c, v = .slice a s.xs.length c ∧ L' = pt a (Row 3 1 s.xs.length c (ints s.xs)) :: pt (ad u) (SupO mp pb x s) :: F) := by
 refine Fm Tryz.func44 k44 ?_
 dsimp only [c44, eL]
 refine Xo (t := t) rfl ?_
 rintro ⟨sh, lm⟩
 simp only [supL, lc, ln]
 refine go ?_
 refine Sa rfl (stashList (b := sh) hb) ?_
 rintro v L' ⟨a, c, rfl, rfl⟩
 refine go ?_
 exact Ko rfl (Ec (SupO.close (a := ad u) (sh := sh) (lm := lm) (mp := mp) (pb := pb) (x := x) s rfl rfl rfl)) ⟨a, c, rfl, rfl⟩
theorem supBucket {u mp pb : Nat} {x : Cn} {s : SupS} {F : St} [t : Take L (ad u) (SupO mp pb x s) F] (k : Int) (hb : s.lm.size ≤ 1000000000) : FX 57 [zp u, ii k] L (fun v L' =>
   ((k < 0 ∨ 3 ≤ k ∨ s.lm.items k.toNat = []) ∧ v = .tuple #[ii 0, .slice none 0 0] ∧ L' = pt (ad u) (SupO mp pb x s) :: F) ∨
   (¬ (k < 0 ∨ 3 ≤ k ∨ s.lm.items k.toNat = []) ∧ ∃ ro co, v = .tuple #[ii (s.lm.tag k.toNat), .slice ro (s.lm.items k.toNat).length co] ∧ L' = pt ro (Row 3 1 (s.lm.items k.toNat).length co (ints (s.lm.items k.toNat))) :: pt (ad u) (SupO mp pb x s) :: F)) := by
 refine Fm Tryz.func57 k57 ?_
 dsimp only [c57, eL]
 refine Xo (t := t) rfl ?_
 rintro ⟨sh, lm⟩
 simp only [supL, lc, ln]
 refine go ?_
 refine Sa rfl (limboBucket (b := lm) (m := s.lm) (k := k) hb) ?_
 rintro v L' (⟨h, rfl, rfl⟩ | ⟨h, ro, co, rfl, rfl⟩)
 ·refine go ?_
  exact Kr.two (.inr rfl) rfl rfl (SupO.close (a := ad u) (sh := sh) (lm := lm) (mp := mp) (pb := pb) (x := x) s rfl rfl rfl) (.inl ⟨h, rfl, rfl⟩)
 ·refine go ?_
  exact Kr.two (.inr rfl) rfl rfl (Ec (SupO.close (a := ad u) (sh := sh) (lm := lm) (mp := mp) (pb := pb) (x := x) s rfl rfl rfl)) (.inr ⟨h, ro, co, rfl, rfl⟩)
theorem supPut {u mp pb : Nat} {x : Cn} {s : SupS} {F : St} [t : Take L (ad u) (SupO mp pb x s) F] {ys : List Int} {ya : OA} {m c : Nat} (hr : Rd F 1 ya m (ints ys)) (hb : s.xs.length + m ≤ 1000000000) :
  FX 206 [zp u, .slice ya m c] L (fun v L' => v = .tuple #[] ∧ L' = pt (ad u) (SupO mp pb x (s.give ys)) :: F) := by
 refine Fm Tryz.func206 k206 ?_
 dsimp only [c206, eL]
 refine Xo (t := t) rfl ?_
 rintro ⟨sh, lm⟩
 simp only [supL, lc, ln]
 refine go ?_
 refine Sa rfl (stashGive (b := sh) (hr.ent (by repeat (first | exact Er _ | (refine Et Ed ?_)))) hb) ?_
 rintro v L' ⟨rfl, rfl⟩
 refine go ?_
 exact Kr.none (.inl rfl) (SupO.close (a := ad u) (sh := sh) (lm := lm) (mp := mp) (pb := pb) (x := x) (s.give ys) rfl rfl rfl) ⟨rfl, rfl⟩
theorem supRetire {u mp pb : Nat} {x : Cn} {s : SupS} {F : St} [t : Take L (ad u) (SupO mp pb x s) F] {tag : Int} {ys : List Int} {ya : OA} {n c : Nat} (hr : Rd F 1 ya n (ints ys)) (hb : s.lm.size + n ≤ 100000000) (hx : s.xs.length ≤ 100000000) :
  FX 256 [zp u, ii tag, .slice ya n c] L (fun v L' =>
   (refused s.lm tag ys ∧ v = ii 1 ∧ L' = pt (ad u) (SupO mp pb x s) :: F) ∨
   (¬ refused s.lm tag ys ∧ v = ii 0 ∧ L' = pt (ad u) (SupO mp pb x ⟨s.most, s.xs ++ outM s.lm tag, retireM s.lm tag ys⟩) :: F)) := by
 have hz := size_retire s.lm tag ys
 refine Fm Tryz.func256 k256 ?_
 dsimp only [c256, eL]
 refine Xo (t := t) rfl ?_
 rintro ⟨sh, lm⟩
 simp only [supL, lc, ln]
 refine go ?_
 refine Sa rfl (limboRetire (b := lm) (m := s.lm) (ys := ys) (hr.ent (by repeat (first | exact Er _ | (refine Et Ed ?_)))) (by omega)) ?_
 rintro v L' (⟨h, rfl, rfl⟩ | ⟨h, ro, co, rfl, rfl⟩)
 ·refine go ?_
  refine Sa rfl (stashGive (b := sh) (ys := []) (Rd.nil _ _ _) (by omega)) ?_
  rintro v L' ⟨rfl, rfl⟩
  refine go ?_
  exact Ko rfl (SupO.close (a := ad u) (sh := sh) (lm := lm) (mp := mp) (pb := pb) (x := x) s rfl (List.append_nil _) rfl) (.inl ⟨h, rfl, rfl⟩)
 ·refine Sx.rowkey (a := ro) fun hx0 hn0 _ hk0 => (go ?_)
  refine Sa rfl (stashGive (b := sh) (Rd.any (a := ro) hx0 (hk0.imp (fun h => h.2.1) id)) (by omega)) ?_
  rintro v L' ⟨rfl, rfl⟩
  refine go ?_
  refine Ko rfl (Et (SupO.close (a := ad u) (sh := sh) (lm := lm) (mp := mp) (pb := pb) (x := x) ⟨s.most, s.xs ++ outM s.lm tag, retireM s.lm tag ys⟩ rfl rfl rfl) ?_) (.inr ⟨h, rfl, rfl⟩)
  exact ent
theorem supReady {u mp pb : Nat} {x : Cn} {s : SupS} {F : St} [t : Take L (ad u) (SupO mp pb x s) F] {now : Int} (hb : s.lm.size ≤ 100000000) (hx : s.xs.length ≤ 100000000) (hn : now ≤ 9223372036854775807) :
  FX 67 [zp u, ii now] L (fun v L' => v = ii (readyAll now s.lm).1.length ∧ L' = pt (ad u) (SupO mp pb x (s.ready now)) :: F) := by
 have hz := size_ready now s.lm
 refine Fm Tryz.func67 k67 ?_
 dsimp only [c67, eL]
 refine Xo (t := t) rfl ?_
 rintro ⟨sh, lm⟩
 simp only [supL, lc, ln]
 refine go ?_
 refine Sa rfl (limboReady (b := lm) (m := s.lm) (now := now) hb hn) ?_
 rintro v L' ⟨ro, co, rfl, rfl⟩
 refine Sx.rowkey (a := ro) fun hx0 hn0 _ hk0 => (go ?_)
 refine Sa rfl (stashGive (b := sh) (Rd.any (a := ro) hx0 (hk0.imp (fun h => h.2.1) id)) (by omega)) ?_
 rintro v L' ⟨rfl, rfl⟩
 refine go ?_
 refine Ko rfl (Et (SupO.close (a := ad u) (sh := sh) (lm := lm) (mp := mp) (pb := pb) (x := x) (s.ready now) rfl rfl rfl) ?_) ⟨rfl, rfl⟩
 exact ent
end
section
variable {L F G : St}
def poolM (x : Cn) : Mm := fillM x.pool (zeroM x)
theorem poolM_len (x : Cn) : (poolM x).ws.length = x.len := by unfold poolM; rw [fillM_len, zeroM_len]
end
end
def pinI (w : Nat) : Int := ((w / 2 : Nat) : Int)
def behind (e w : Nat) : Prop := w % 2 = 1 ∧ pinI w ≠ cutE e
instance (e w : Nat) : Decidable (behind e w) := by unfold behind; infer_instance
structure AdvS where
 was : Nat
 worker : Nat
 won : Bool
 at_ : Nat
 done : Bool
def AdvS.init : AdvS := ⟨0, 0, false, 0, false⟩
section
open Go
attribute [local irreducible] Sx Cx Rx Fx Krg Ksq Kbl Klp Kr
section
variable {L F G : St}
theorem row_some {n cap : Nat} {r : OA} {i : Nat} (hi : i < n) (h : (r = none ∧ n = 0 ∧ cap = 0) ∨ ∃ g, r = ad g) : ∃ g, r = ad g := by
 rcases h with h | h
 ·omega
 ·exact h
theorem rmemKey {rm : Nat} {m : Mm} {F : St} [t : Take L (ad rm) (RMemO m) F] : ∀ h, holds L h → m.ok ∧ m.ws.length ≤ 8388608 := by
 intro h hh
 obtain ⟨y, hy⟩ := holds_ex.1 (t.out h hh)
 exact (holds_lift.1 hy).1
theorem refLoad {rm : Nat} {m : Mm} (i : Nat) (hi : i < m.ws.length) [t : Take L (ad rm) (RMemO m) F] :
  FX 98 [zp rm, ii i] L (fun v L' => v = wd (m.at_ i) ∧ L' = pt (ad rm) (RMemO m.tick) :: F) := by
 refine Fm Tryz.func98 k98 ?_
 dsimp only [c98, eL]
 refine Xo (t := t) rfl ?_
 rintro ⟨r, c⟩
 simp only [rmemL, lc, ln]
 refine Cx.liftp fun hm => ?_
 refine Cx.rowkey (a := r) fun hx0 hn0 _ hk1 => ?_
 obtain ⟨rg, rfl⟩ := row_some hi (hk1.imp (fun h => ⟨h.1, h.2.1, h.2.2⟩) id)
 refine gg ?_
 refine Sx.ldr (b := rg) rfl (v := wd (m.at_ i)) (by rw [show 0 + (i : Int).toNat * 1 = i by omega]; exact us_get (Mm.get hi)) (go ?_)
 refine Ko rfl ?_ ⟨rfl, rfl⟩
 exact RMemO.close (a := ad rm) (r := ad rg) m.tick hm (by rw [wrap_succ]; rfl) rfl rfl
theorem refStore {rm : Nat} {m : Mm} (i v : Nat) (hi : i < m.ws.length) (hv : v < 18446744073709551616) [t : Take L (ad rm) (RMemO m) F] :
  FX 110 [zp rm, ii i, wd v] L (fun u L' => u = .tuple #[] ∧ L' = pt (ad rm) (RMemO (m.put i v)) :: F) := by
 refine Fm Tryz.func110 k110 ?_
 dsimp only [c110, eL]
 refine Xo (t := t) rfl ?_
 rintro ⟨r, c⟩
 simp only [rmemL, lc, ln]
 refine Cx.liftp fun hm => ?_
 refine Cx.rowkey (a := r) fun hx0 hn0 _ hk1 => ?_
 obtain ⟨rg, rfl⟩ := row_some hi (hk1.imp (fun h => ⟨h.1, h.2.1, h.2.2⟩) id)
 refine gg ?_
 refine Sx.str1 (b := rg) rfl rfl rfl rfl (by rw [length_us]; simp; omega) rfl (go ?_)
 refine Kr.none (.inl rfl) ?_ ⟨rfl, rfl⟩
 refine RMemO.close (a := ad rm) (r := ad rg) (m.put i v) ⟨Mm.ok_put hm.1 hv, by rw [Mm.len_put]; exact hm.2⟩ (by rw [wrap_succ]; rfl) Mm.len_put.symm ?_
 rw [show 0 + (i : Int).toNat * 1 = i by omega]
 exact us_set _ _ _
theorem refCas {rm : Nat} {m : Mm} (i o v : Nat) (hi : i < m.ws.length) (ho : o < 18446744073709551616) (hv : v < 18446744073709551616) [t : Take L (ad rm) (RMemO m) F] :
  FX 102 [zp rm, ii i, wd o, wd v] L (fun u L' => u = .bool (decide (m.at_ i = o)) ∧ L' = pt (ad rm) (RMemO (m.cas i o v)) :: F) := by
 refine Fm Tryz.func102 k102 ?_
 dsimp only [c102, eL]
 refine Xo (t := t) rfl ?_
 rintro ⟨r, c⟩
 simp only [rmemL, lc, ln]
 refine Cx.liftp fun hm => ?_
 refine Cx.rowkey (a := r) fun hx0 hn0 _ hk1 => ?_
 obtain ⟨rg, rfl⟩ := row_some hi (hk1.imp (fun h => ⟨h.1, h.2.1, h.2.2⟩) id)
 refine gg ?_
 refine Sx.ldr (b := rg) rfl (v := wd (m.at_ i)) (by rw [show 0 + (i : Int).toNat * 1 = i by omega]; exact us_get (Mm.get hi)) (go ?_)
 refine Cx.ifn rfl (fun h => ?_) (fun h => ?_)
 ·have hne : m.at_ i ≠ o := fun e => h (by rw [e])
  refine go ?_
  refine Ko rfl ?_ ⟨by rw [dz hne], rfl⟩
  rw [show m.cas i o v = m.tick by unfold Mm.cas; rw [if_neg hne]]
  exact RMemO.close (a := ad rm) (r := ad rg) m.tick hm (by rw [wrap_succ]; rfl) rfl rfl
 ·have he : m.at_ i = o := by omega
  refine gg ?_
  refine Sx.str1 (b := rg) rfl rfl rfl rfl (by rw [length_us]; simp; omega) rfl (go ?_)
  refine Ko rfl ?_ ⟨by rw [dt he], rfl⟩
  rw [show m.cas i o v = m.put i v by unfold Mm.cas; rw [if_pos he]]
  refine RMemO.close (a := ad rm) (r := ad rg) (m.put i v) ⟨Mm.ok_put hm.1 hv, by rw [Mm.len_put]; exact hm.2⟩ (by rw [wrap_succ]; rfl) Mm.len_put.symm ?_
  rw [show 0 + (i : Int).toNat * 1 = i by omega]
  exact us_set _ _ _
theorem refCut (w : Nat) (hw : w < 18446744073709551616) : FX 123 [wd w] L (fun v L' => v = ii (cutE w) ∧ L = L') := by
 refine Fm Tryz.func123 k123 ?_
 dsimp only [c123, eL]
 refine go ?_
 refine Xi rfl (fun h => ?_) (fun h => ?_)
 ·refine go ?_
  exact Ko rfl (Er _) ⟨by unfold cutE; rw [Int.min_eq_right (by omega)], rfl⟩
 ·refine go ?_
  rw [w64 (n := (w : Int)) (by omega) (by omega)]
  exact Ko rfl (Er _) ⟨by unfold cutE; rw [Int.min_eq_left (by omega)], rfl⟩
theorem refGetHead (w : Nat) (hw : w < 18446744073709551616) : FX 200 [wd w] L (fun v L' => v = hdV (hdI w) (hdT w) ∧ L = L') := by
 refine Fm Tryz.func200 k200 ?_
 dsimp only [c200, eL]
 refine Cx.sq ?_
 refine Cx.rg ?_
 refine Sx.al fun g => ?_
 refine gg ?_
 have hm : (w : Int).tmod 4294967296 = ((w % 4294967296 : Nat) : Int) := natTmod w 4294967296
 have hdv : (w : Int).tdiv 4294967296 = (hdT w : Int) := (Int.ofNat_tdiv w 4294967296).symm
 have h3 := hdT_lt hw
 rw [hm, hdv, w64 (n := ((w % 4294967296 : Nat) : Int)) (by omega) (by omega), w64 (n := ((w % 4294967296 : Nat) : Int) - 1) (by omega) (by omega), wu64 (n := (hdT w : Int)) (by omega) (by omega), w64 (n := (hdT w : Int)) (by omega) (by omega)]
 refine Sx.st (b := g) rfl rfl rfl rfl rfl rfl ?_
 dsimp only [lay]
 refine go ?_
 exact Kr_cell (b := g) (.inr rfl) rfl rfl (L' := L) Ed ⟨rfl, rfl⟩
theorem refTop {sb rm : Nat} {k : Sk} (w : Nat) (hw : w < 18446744073709551616) [t : Take L (ad sb) (RSkO rm k) F] :
  FX 133 [zp sb, wd w] L (fun v L' => v = ii (k.top w) ∧ L = L') := by
 refine Fm Tryz.func133 k133 ?_
 dsimp only [c133, eL]
 refine go ?_
 refine Sa rfl (refGetHead w hw) ?_
 rintro v L' ⟨rfl, rfl⟩
 refine go ?_
 refine Xi rfl (fun h => ?_) (fun h => ?_)
 ·refine go ?_
  exact Ko rfl (Er _) ⟨by unfold Sk.top; rw [if_neg (by omega)], rfl⟩
 ·refine go ?_
  exact Ko rfl (Er _) ⟨by unfold Sk.top; rw [if_pos (by omega)], rfl⟩
theorem refBelow {sb rm : Nat} {k : Sk} (w : Nat) (hw : w < 18446744073709551616) (hk : k.n ≤ 4096) [t : Take L (ad sb) (RSkO rm k) F] :
  FX 134 [zp sb, wd w] L (fun v L' => v = ii (k.below w) ∧ L = L') := by
 refine Fm Tryz.func134 k134 ?_
 dsimp only [c134, eL]
 refine go ?_
 rw [wu64 (n := (k.n : Int)) (by omega) (by omega)]
 refine Xi rfl (fun h => ?_) (fun h => ?_)
 ·refine go ?_
  exact Ko rfl (Er _) ⟨by unfold Sk.below; rw [if_pos (by omega)], rfl⟩
 ·refine go ?_
  rw [w64 (n := (w : Int)) (by omega) (by omega), w64 (n := (w : Int) - 1) (by omega) (by omega)]
  exact Ko rfl (Er _) ⟨by unfold Sk.below; rw [if_neg (by omega)], rfl⟩
theorem refNextHead (i : Int) (t : Nat) (j : Int) (ht : t < 4294967296) : FX 242 [hdV i t, ii j] L (fun v L' => v = hdV j (laterT t) ∧ L = L') := by
 refine Fm Tryz.func242 k242 ?_
 dsimp only [c242, eL]
 refine Cx.sq ?_
 refine Cx.rg ?_
 refine Sx.bx rfl rfl fun q => ?_
 refine Sx.al fun g => (go ?_)
 refine Xi rfl (fun h => ?_) (fun h => ?_)
 ·refine go ?_
  refine Sx.st (b := g) rfl rfl rfl rfl rfl rfl ?_
  dsimp only [lay]
  refine go ?_
  refine Kr_cell (b := g) (.inr rfl) rfl rfl (L' := L) (Et Ed Ed) ⟨?_, rfl⟩
  rw [show laterT t = 0 by unfold laterT; rw [if_neg (by omega)]]
  rfl
 ·refine go ?_
  rw [w64 (n := (t : Int) + 1) (by omega) (by omega)]
  refine Sx.st (b := g) rfl rfl rfl rfl rfl rfl ?_
  dsimp only [lay]
  refine go ?_
  refine Kr_cell (b := g) (.inr rfl) rfl rfl (L' := L) (Et Ed Ed) ⟨?_, rfl⟩
  rw [show laterT t = t + 1 by unfold laterT; rw [if_pos (by omega)]]
  rfl
theorem refNextW (w : Nat) (i : Int) (hw : w < 18446744073709551616) (h1 : -1 ≤ i) (h2 : i < 4294967295) : FX 195 [wd w, ii i] L (fun v L' => v = wd (nextW w i) ∧ L = L') := by
 refine Fm Tryz.func195 k195 ?_
 dsimp only [c195, eL]
 refine go ?_
 refine Sa rfl (refGetHead w hw) ?_
 rintro v L' ⟨rfl, rfl⟩
 refine go ?_
 refine Sa rfl (refNextHead _ _ i (hdT_lt hw)) ?_
 rintro v L' ⟨rfl, rfl⟩
 refine go ?_
 refine Sa rfl (refPutHead i (laterT (hdT w)) h1 h2 (laterT_lt (hdT_lt hw))) ?_
 rintro v L' ⟨rfl, rfl⟩
 refine go ?_
 exact Ko rfl (Er _) ⟨rfl, rfl⟩
end
theorem ints_last {l : List Int} (h : l ≠ []) : (ints l)[l.length - 1]? = some (ii (lastI l)) := by
 unfold ints lastI
 rw [List.getElem?_map, List.getLastD_eq_getLast?, ← List.getLast?_eq_getElem?, List.getLast?_eq_some_getLast h]
 rfl
section
variable {L F G : St}
def rpopL (T : TypeId) (sb : Nat) (q : PopS) (a : OA) (y : OA × Nat) : St :=
 [pt a (Blk T [zp sb, ii q.most, ii (q.at_ : Nat), ii q.under, wd q.was, .slice y.1 q.got.length y.2, .bool q.done]), pt y.1 (Row 3 1 q.got.length y.2 (ints q.got))]
def RPopT (T : TypeId) (sb : Nat) (q : PopS) (a : OA) : As := exs (rpopL T sb q a)
abbrev RPopO := RPopT 235
theorem RPopO.close {T : TypeId} {sb : Nat} {a r : OA} {c n : Nat} {v0 v1 v2 v3 v4 v6 : Value} {w : List Value} {F G : St} (q : PopS) [t : Take L a (Blk T [v0, v1, v2, v3, v4, .slice r n c, v6]) F] [u : Take F r (Row 3 1 n c w) G]
  (h0 : v0 = zp sb) (h1 : v1 = ii q.most) (h2 : v2 = ii (q.at_ : Nat)) (h3 : v3 = ii q.under) (h4 : v4 = wd q.was) (h5 : n = q.got.length) (h6 : v6 = .bool q.done) (hw : w = ints q.got) : Ent L (pt a (RPopT T sb q) :: G) := by
 subst h0 h1 h2 h3 h4 h5 h6 hw
 refine Et (Em (t := t) (Eo u.out)) ?_
 exact Ent.close (f := rpopL T sb q a) rfl (r, c)
theorem refPopNew {sb rm : Nat} {k : Sk} (most : Int) [t : Take L (ad sb) (RSkO rm k) F] :
  FX 166 [zp sb, ii most] L (fun v L' => ∃ b, v = zp b ∧ L' = pt (ad b) (RPopO sb (PopS.init most)) :: L) := by
 refine Fm Tryz.func166 k166 ?_
 dsimp only [c166, eL]
 refine go ?_
 refine Sx.bx rfl rfl fun b => (go ?_)
 refine Ko rfl ?_ ⟨b, rfl, rfl⟩
 refine Et (Ent.rownil 3 1) ?_
 refine RPopO.close (a := ad b) (r := none) (PopS.init most) rfl (congrArg (Value.int .i64) ?_) rfl rfl rfl rfl rfl rfl
 simp only [PopS.init, cond_true, cond_false]
 (repeat' split) <;> omega
set_option maxHeartbeats 1000000 in
theorem refPopStep {b sb rm : Nat} {k : Sk} {m : Mm} {q : PopS} {F1 F2 : St} (hk : k.ok m.ws.length) (hq : q.ok k) [t1 : Take L (ad b) (RPopO sb q) F1] [t2 : Take F1 (ad rm) (RMemO m) F2] [t3 : Take F2 (ad sb) (RSkO rm k) G] :
  FX 167 [zp b] L (fun v L' => v = .bool (!q.done) ∧ L' = pt (ad b) (RPopO sb (popStep k m q).1) :: pt (ad rm) (RMemO (popStep k m q).2) :: F2) := by
 obtain ⟨k1, k2, k3, k4, k5, k6⟩ := hk
 refine Fm Tryz.func167 k167 ?_
 dsimp only [c167, eL]
 refine Xe (Et (Eo t1.out) (Ec (Et (Eo t2.out) (Ec (Eo t3.out))))) ?_
 refine Cx.pure (rmemKey (rm := rm) (m := m)) fun hm => ?_
 refine Xo (a := ad b) rfl ?_
 rintro ⟨r, c⟩
 simp only [rpopL, lc, ln]
 cases hd : q.done with
 | true =>
   have e1 : popStep k m q = (q, m) := by unfold popStep; rw [hd]; rfl
   rw [e1]
   refine go ?_
   refine Ko rfl (Et (RPopO.close (sb := sb) (a := ad b) (r := r) q rfl rfl rfl rfl rfl rfl (by rw [hd]) rfl) (Ec (Ec (Eo t3.back)))) ⟨rfl, rfl⟩
 | false =>
   have ha := hq.a
   rcases (show q.at_ = 0 ∨ q.at_ = 1 ∨ q.at_ = 2 by omega) with h0 | h0 | h0
   ·have hwl := Ml hm.1 k.head
    rw [h0]
    refine go ?_
    refine Xd rfl kr_ (ge ?_)
    refine Ea kr_ rfl rfl (refLoad (rm := rm) (m := m) k.head k3) (Pd kr_) ?_
    rintro v L' ⟨rfl, rfl⟩
    refine ge ?_
    refine Es (b := b) kr_ rfl rfl rfl rfl rfl (by rfl) rfl (Pd kr_) (ge ?_)
    refine go ?_
    refine Sa rfl (refTop (sb := sb) (rm := rm) (k := k) (m.at_ k.head) hwl) ?_
    rintro v L' ⟨rfl, rfl⟩
    refine go ?_
    refine Xi rfl (fun h => ?_) (fun h => ?_)
    ·have e1 : popStep k m q = ({ q with was := m.at_ k.head, got := [], done := true }, m.tick) := by unfold popStep; rw [hd, h0]; simp only [bf, if_false]; rw [if_neg (by omega)]
     rw [e1]
     refine go ?_
     refine Ko rfl ?_ ⟨rfl, rfl⟩
     refine Et (Ent.rownil 3 1) ?_
     refine Et (RPopO.close (sb := sb) (a := ad b) (r := none) { q with was := m.at_ k.head, got := [], done := true } rfl rfl (by rw [h0]) rfl rfl rfl rfl rfl) ?_
     refine Ec ?_
     refine Et ?_ (Ec (Eo t3.back))
     exact ent
    ·have e1 : popStep k m q = ({ q with was := m.at_ k.head, got := [k.top (m.at_ k.head)], at_ := 1 }, m.tick) := by unfold popStep; rw [hd, h0]; simp only [bf, if_false]; rw [if_pos (by omega)]
     rw [e1]
     refine go ?_
     refine Sx.bs (sz := 1) rfl rfl fun g => (go ?_)
     refine Sx.apn rfl rfl (Rd.row (b := g) (E := 3) (cap := 1) rfl) rfl (by simp [maxLen]) (by omega) fun r' c' hc => (go ?_)
     refine Ko rfl ?_ ⟨rfl, rfl⟩
     refine Et (RPopO.close (sb := sb) (a := ad b) (r := r') { q with was := m.at_ k.head, got := [k.top (m.at_ k.head)], at_ := 1 } rfl rfl rfl rfl rfl rfl (by rw [hd]) rfl) ?_
     refine Ec ?_
     refine Et ?_ (Ec (Eo t3.back))
     exact ent
   ·have hne := hq.ne hd (by omega)
    have hlp := List.length_pos_iff.2 hne
    have hlen8 := hq.len
    have hlast := hq.g _ (lastI_mem hne)
    have hm8 := hq.m2
    have hwl := Ml hm.1 (k.links + (lastI q.got).toNat)
    obtain ⟨bl, hbl⟩ : ∃ bl, k.below (m.at_ (k.links + (lastI q.got).toNat)) = bl := ⟨_, rfl⟩
    have hbl1 : -1 ≤ bl := hbl ▸ k.below_ge _
    have hbl2 : bl < k.n := hbl ▸ k.below_lt _
    refine Cx.rowkey (a := r) fun hx0 hn0 hc0 hk1 => ?_
    obtain ⟨rg, rfl⟩ := row_some hlp (hk1.imp (fun h => ⟨h.1, h.2.1, h.2.2⟩) id)
    rw [h0]
    refine go ?_
    refine Xd rfl kr_ (ge ?_)
    rw [w64 (n := (q.got.length : Int) - 1) (by omega) (by omega)]
    refine ge ?_
    refine El (b := rg) (v := ii (lastI q.got)) kr_ rfl rfl (by rw [show 0 + ((q.got.length : Int) - 1).toNat * 1 = q.got.length - 1 by omega]; exact ints_last hne) (ge ?_)
    rw [w64 (n := (k.links : Int) + lastI q.got) (by omega) (by omega), show (k.links : Int) + lastI q.got = ((k.links + (lastI q.got).toNat : Nat) : Int) by omega]
    refine Ea kr_ rfl rfl (refLoad (rm := rm) (m := m) (k.links + (lastI q.got).toNat) (by omega)) (Pd kr_) ?_
    rintro v L' ⟨rfl, rfl⟩
    refine ge ?_
    refine Eb kr_ rfl rfl (refBelow (sb := sb) (rm := rm) (k := k) _ hwl k2) ?_
    rw [hbl]
    refine ge ?_
    refine Es (b := b) kr_ rfl rfl rfl rfl rfl (by rfl) rfl (Pd kr_) (ge ?_)
    refine Cx.sq ?_
    refine Xd rfl kr_ (ge ?_)
    by_cases hb0 : 0 ≤ bl
    ·refine Ev.yes 120 rfl (dt hb0) (ge ?_)
     refine Xi rfl (fun h => ?_) (fun h => ?_)
     ·have e1 : popStep k m q = ({ q with under := bl, got := q.got ++ [bl] }, m.tick) := by unfold popStep; rw [hd, h0]; simp only [bf, if_false, hbl]; rw [if_pos ⟨hb0, h⟩]
      rw [e1]
      refine go ?_
      refine Cx.orde rfl kr_ (ge ?_)
      refine Ev.bsH (sz := 1) kr_ rfl rfl rfl (.dep rfl (.keep (fun v L' ⟨_, _, e⟩ => by subst e; exact Has.cell rfl) .nil)) fun g => (ge ?_)
      refine Ev.apH (ra := ad rg) kr_ rfl rfl rfl (Rd.row (b := g) (E := 3) (cap := 1) rfl) rfl (by simp [maxLen]; omega) (by omega) (Pd kr_) fun r' c' hc hk2 => (ge ?_)
      refine Es (b := b) kr_ rfl rfl rfl rfl rfl (by rfl) rfl (Pd kr_) (ge ?_)
      refine go ?_
      refine Ko rfl ?_ ⟨rfl, rfl⟩
      refine Et (RPopO.close (sb := sb) (a := ad b) (r := r') { q with under := bl, got := q.got ++ [bl] } rfl rfl (by rw [h0]) rfl rfl (by simp) (by rw [hd]) (by simp [ints, lay])) ?_
      refine Ec ?_
      refine Et ?_ (Ec (Eo t3.back))
      exact ent
     ·have e1 : popStep k m q = ({ q with under := bl, at_ := 2 }, m.tick) := by unfold popStep; rw [hd, h0]; simp only [bf, if_false, hbl]; rw [if_neg (fun hh => h hh.2)]
      rw [e1]
      refine go ?_
      refine Ko rfl ?_ ⟨rfl, rfl⟩
      refine Et (RPopO.close (sb := sb) (a := ad b) (r := ad rg) { q with under := bl, at_ := 2 } rfl rfl rfl rfl rfl rfl (by rw [hd]) rfl) ?_
      refine Ec ?_
      refine Et ?_ (Ec (Eo t3.back))
      exact ent
    ·refine Ev.no 120 rfl (dz hb0) ?_
     have e1 : popStep k m q = ({ q with under := bl, at_ := 2 }, m.tick) := by unfold popStep; rw [hd, h0]; simp only [bf, if_false, hbl]; rw [if_neg (fun hh => hb0 hh.1)]
     rw [e1]
     refine ge ?_
     refine go ?_
     refine Ko rfl ?_ ⟨rfl, rfl⟩
     refine Et (RPopO.close (sb := sb) (a := ad b) (r := ad rg) { q with under := bl, at_ := 2 } rfl rfl rfl rfl rfl rfl (by rw [hd]) rfl) ?_
     refine Ec ?_
     refine Et ?_ (Ec (Eo t3.back))
     exact ent
   ·have hu1 := hq.u1
    have hu2 := hq.u2
    have hw := hq.w
    have hnw := nextW_lt (i := q.under) hw (by omega)
    have e1 : popStep k m q = ({ q with at_ := 0, done := decide (m.at_ k.head = q.was) }, m.cas k.head q.was (nextW q.was q.under)) := by unfold popStep; rw [hd, h0]; rfl
    rw [e1, h0]
    refine go ?_
    refine Xd rfl kr_ (ge ?_)
    refine Eb kr_ rfl rfl (refNextW q.was q.under hw hu1 (by omega)) (ge ?_)
    refine Ea kr_ rfl rfl (refCas (rm := rm) (m := m) k.head q.was (nextW q.was q.under) k3 hw hnw) (Pd kr_) ?_
    rintro v L' ⟨rfl, rfl⟩
    refine ge ?_
    refine Es (b := b) kr_ rfl rfl rfl rfl rfl (by rfl) rfl (Pd kr_) (ge ?_)
    refine go ?_
    refine Ko rfl ?_ ⟨rfl, rfl⟩
    refine Et (RPopO.close (sb := sb) (a := ad b) (r := r) { q with at_ := 0, done := decide (m.at_ k.head = q.was) } rfl rfl rfl rfl rfl rfl rfl rfl) ?_
    refine Ec ?_
    refine Et ?_ (Ec (Eo t3.back))
    exact ent
theorem refPopGot {b sb rm : Nat} {k : Sk} {q : PopS} {F1 : St} (hd : q.done = true) (hb : q.got.length ≤ 8) [t1 : Take L (ad b) (RPopO sb q) F1] :
  FX 168 [zp b] L (fun v L' => ∃ r c, v = .slice r q.got.length c ∧ L' = pt r (Row 3 1 q.got.length c (ints q.got)) :: pt (ad b) (RPopO sb q) :: F1) := by
 refine Fm Tryz.func168 k168 ?_
 dsimp only [c168, eL]
 refine Xo (t := t1) rfl ?_
 rintro ⟨r, c⟩
 simp only [rpopL, lc, ln]
 rw [hd]
 refine Cx.rowkey (a := r) fun hx0 hn0 hc0 hk1 => (go ?_)
 refine Sx.apn rfl rfl (Rd.any (a := r) hx0 (hk1.imp (fun h => h.2.1) id)) (ones_ints _) (by simp [maxLen]; omega) (by omega) fun r' c' hc => (go ?_)
 refine Ko rfl (Ec ?_) ⟨r', c', rfl, rfl⟩
 exact RPopO.close (sb := sb) (a := ad b) (r := r) q rfl rfl rfl rfl rfl rfl (by rw [hd]) rfl
end
section
variable {L F : St}
theorem anyOpen_least {now : Int} {m : Lm} (h : 2 ≤ now) : decide (0 ≤ leastI (leastUp now m 3)) = anyOpen now m := by
 refine decide_eq_decide.2 ?_
 cases hl : leastUp now m 3 with
 | none =>
   have hn := leastUp_none hl
   simp [leastI, hn 0 (by omega), hn 1 (by omega), hn 2 (by omega)]
 | some j =>
   have hj := leastUp_lt hl
   have h1 := hj.1
   simp only [leastI]
   refine ⟨fun _ => ⟨h, ?_⟩, fun _ => by omega⟩
   rcases (show j = 0 ∨ j = 1 ∨ j = 2 by omega) with rfl | rfl | rfl
   ·exact .inl hj.2
   ·exact .inr (.inl hj.2)
   ·exact .inr (.inr hj.2)
theorem refOpen {b : Nat} {m : Lm} {now : Int} {F : St} [t : Take L (ad b) (RLimboO m) F] (h3 : now ≤ 9223372036854775807) :
  FX 253 [zp b, ii now] L (fun v L' => v = .bool (anyOpen now m) ∧ L = L') := by
 refine Fm Tryz.func253 k253 ?_
 dsimp only [c253, eL]
 refine go ?_
 refine Sx.ifp rfl (fun h => ?_) (fun h => ?_)
 ·refine go ?_
  refine Sa rfl (refLeast (b := b) (m := m) (F := F) h h3) ?_
  rintro v L' ⟨rfl, rfl⟩
  refine go ?_
  exact Ko rfl (Er _) ⟨congrArg Value.bool (anyOpen_least h), rfl⟩
 ·have h' : ¬ 2 ≤ now := h
  refine go ?_
  exact Ko rfl (Er _) ⟨by simp [anyOpen, h'], rfl⟩
theorem refLimboLen {b : Nat} {m : Lm} {F : St} [t : Take L (ad b) (RLimboO m) F] (hb : m.size ≤ 1000000000) :
  FX 229 [zp b] L (fun v L' => v = ii m.size ∧ L = L') := by
 have hs : m.size = m.x0.length + m.x1.length + m.x2.length := rfl
 refine Fx.kept (t := t) ?_
 refine Fm Tryz.func229 k229 ?_
 dsimp only [c229, eL]
 refine Xo (t := t) rfl ?_
 rintro ⟨⟨⟨r0, c0⟩, ⟨r1, c1⟩, ⟨r2, c2⟩⟩, ⟨u0, u1, u2, l⟩⟩
 simp only [refL, lc, ln]
 refine Cx.liftp fun hT => (go ?_)
 refine Xd rfl kr_ (ge ?_)
 rw [w64 (n := (m.x0.length : Int) + m.x1.length) (by omega) (by omega), w64 (n := (m.x0.length : Int) + m.x1.length + m.x2.length) (by omega) (by omega)]
 refine go ?_
 refine Ko rfl (RLimboO.close (a := ad b) (r0 := r0) (r1 := r1) (r2 := r2) m hT rfl rfl rfl rfl rfl rfl rfl rfl rfl rfl) ⟨?_, rfl⟩
 refine congrArg (Value.int .i64) ?_
 omega
theorem refBucket {b : Nat} {m : Lm} {k : Int} {F : St} [t : Take L (ad b) (RLimboO m) F] (hb : m.size ≤ 1000000000) :
  FX 132 [zp b, ii k] L (fun v L' =>
   ((k < 0 ∨ 3 ≤ k ∨ m.items k.toNat = []) ∧ v = .tuple #[ii 0, .slice none 0 0] ∧ L' = pt (ad b) (RLimboO m) :: F) ∨
   (¬ (k < 0 ∨ 3 ≤ k ∨ m.items k.toNat = []) ∧ ∃ ro co, v = .tuple #[ii (m.tag k.toNat), .slice ro (m.items k.toNat).length co] ∧ L' = pt ro (Row 3 1 (m.items k.toNat).length co (ints (m.items k.toNat))) :: pt (ad b) (RLimboO m) :: F)) := by
 have hs : m.size = m.x0.length + m.x1.length + m.x2.length := rfl
 refine Fm Tryz.func132 k132 ?_
 dsimp only [c132, eL]
 refine Xo (t := t) rfl ?_
 rintro ⟨⟨⟨r0, c0⟩, ⟨r1, c1⟩, ⟨r2, c2⟩⟩, ⟨u0, u1, u2, l⟩⟩
 simp only [refL, lc, ln]
 refine Cx.liftp fun hT => ?_
 refine Cx.rowkey (a := r0) fun hx0 hn0 _ hk0 => ?_
 refine Cx.rowkey (a := r1) fun hx1 hn1 _ hk1 => ?_
 refine Cx.rowkey (a := r2) fun hx2 hn2 _ hk2 => (go ?_)
 refine Sx.ifp rfl (fun h1 => ?_) (fun h1 => ?_)
 ·refine go ?_
  exact Kr.two (.inr rfl) rfl rfl (RLimboO.close (a := ad b) (r0 := r0) (r1 := r1) (r2 := r2) m hT rfl rfl rfl rfl rfl rfl rfl rfl rfl rfl) (.inl ⟨.inl h1, rfl, rfl⟩)
 refine go ?_
 refine Sx.ifp rfl (fun h2 => ?_) (fun h2 => ?_)
 ·refine go ?_
  exact Kr.two (.inr rfl) rfl rfl (RLimboO.close (a := ad b) (r0 := r0) (r1 := r1) (r2 := r2) m hT rfl rfl rfl rfl rfl rfl rfl rfl rfl rfl) (.inl ⟨.inr (.inl (by omega)), rfl, rfl⟩)
 rcases (show k = 0 ∨ k = 1 ∨ k = 2 by omega) with rfl | rfl | rfl
 ·refine gg ?_
  refine Xi rfl (fun h3 => ?_) (fun h3 => ?_)
  ·refine go ?_
   exact Kr.two (.inr rfl) rfl rfl (RLimboO.close (a := ad b) (r0 := r0) (r1 := r1) (r2 := r2) m hT rfl rfl rfl rfl rfl rfl rfl rfl rfl rfl) (.inl ⟨.inr (.inr (nz_ (by simpa [Lm.items] using h3))), rfl, rfl⟩)
  have h4 : m.x0 ≠ [] := fun e => h3 (by rw [e]; rfl)
  have hu := hT.h0 h4
  refine go ?_
  refine Xd rfl kr_ (ge ?_)
  refine Ev.apnH kr_ rfl rfl rfl (Rd.any (a := r0) hx0 (hk0.imp (fun h => h.2.1) id)) (ones_ints _) (by simp [maxLen]; omega) (by omega) (.dep rfl (.keep (fun v L' ⟨_, _, _, _, _, e⟩ => by subst e; exact Has.cell rfl) .nil)) fun ra ca hc _ => (ge ?_)
  refine go ?_
  refine Kr.two (.inr rfl) rfl rfl ?_ (.inr ⟨?_, ra, ca, by rw [hu]; rfl, rfl⟩)
  ·exact Ec (RLimboO.close (a := ad b) (r0 := r0) (r1 := r1) (r2 := r2) m hT rfl rfl rfl rfl rfl rfl rfl rfl rfl rfl)
  ·rintro (h | h | h)
   ·omega
   ·omega
   ·exact h4 h
 ·refine gg ?_
  refine Xi rfl (fun h3 => ?_) (fun h3 => ?_)
  ·refine go ?_
   exact Kr.two (.inr rfl) rfl rfl (RLimboO.close (a := ad b) (r0 := r0) (r1 := r1) (r2 := r2) m hT rfl rfl rfl rfl rfl rfl rfl rfl rfl rfl) (.inl ⟨.inr (.inr (nz_ (by simpa [Lm.items] using h3))), rfl, rfl⟩)
  have h4 : m.x1 ≠ [] := fun e => h3 (by rw [e]; rfl)
  have hu := hT.h1 h4
  refine go ?_
  refine Xd rfl kr_ (ge ?_)
  refine Ev.apnH kr_ rfl rfl rfl (Rd.any (a := r1) hx1 (hk1.imp (fun h => h.2.1) id)) (ones_ints _) (by simp [maxLen]; omega) (by omega) (.dep rfl (.keep (fun v L' ⟨_, _, _, _, _, e⟩ => by subst e; exact Has.cell rfl) .nil)) fun ra ca hc _ => (ge ?_)
  refine go ?_
  refine Kr.two (.inr rfl) rfl rfl ?_ (.inr ⟨?_, ra, ca, by rw [hu]; rfl, rfl⟩)
  ·exact Ec (RLimboO.close (a := ad b) (r0 := r0) (r1 := r1) (r2 := r2) m hT rfl rfl rfl rfl rfl rfl rfl rfl rfl rfl)
  ·rintro (h | h | h)
   ·omega
   ·omega
   ·exact h4 h
 ·refine gg ?_
  refine Xi rfl (fun h3 => ?_) (fun h3 => ?_)
  ·refine go ?_
   exact Kr.two (.inr rfl) rfl rfl (RLimboO.close (a := ad b) (r0 := r0) (r1 := r1) (r2 := r2) m hT rfl rfl rfl rfl rfl rfl rfl rfl rfl rfl) (.inl ⟨.inr (.inr (nz_ (by simpa [Lm.items] using h3))), rfl, rfl⟩)
  have h4 : m.x2 ≠ [] := fun e => h3 (by rw [e]; rfl)
  have hu := hT.h2 h4
  refine go ?_
  refine Xd rfl kr_ (ge ?_)
  refine Ev.apnH kr_ rfl rfl rfl (Rd.any (a := r2) hx2 (hk2.imp (fun h => h.2.1) id)) (ones_ints _) (by simp [maxLen]; omega) (by omega) (.dep rfl (.keep (fun v L' ⟨_, _, _, _, _, e⟩ => by subst e; exact Has.cell rfl) .nil)) fun ra ca hc _ => (ge ?_)
  refine go ?_
  refine Kr.two (.inr rfl) rfl rfl ?_ (.inr ⟨?_, ra, ca, by rw [hu]; rfl, rfl⟩)
  ·exact Ec (RLimboO.close (a := ad b) (r0 := r0) (r1 := r1) (r2 := r2) m hT rfl rfl rfl rfl rfl rfl rfl rfl rfl rfl)
  ·rintro (h | h | h)
   ·omega
   ·omega
   ·exact h4 h
theorem RTag.put0 {m : Lm} {u0 u1 u2 l : Int} (h : RTag m u0 u1 u2 l) : RTag (m.put 0 0 []) u0 u1 u2 l := ⟨fun x => absurd rfl x, h.h1, h.h2, h.hl⟩
theorem RTag.put1 {m : Lm} {u0 u1 u2 l : Int} (h : RTag m u0 u1 u2 l) : RTag (m.put 1 0 []) u0 u1 u2 l := ⟨h.h0, fun x => absurd rfl x, h.h2, h.hl⟩
theorem RTag.put2 {m : Lm} {u0 u1 u2 l : Int} (h : RTag m u0 u1 u2 l) : RTag (m.put 2 0 []) u0 u1 u2 l := ⟨h.h0, h.h1, fun x => absurd rfl x, h.hl⟩
set_option maxHeartbeats 4000000 in
theorem refReady {b : Nat} {m : Lm} {now : Int} {F : St} [t : Take L (ad b) (RLimboO m) F] (hb : m.size ≤ 100000000) (hnow : now ≤ 9223372036854775807) :
  FX 230 [zp b, ii now] L (fun v L' => ∃ ro co, v = .slice ro (readyAll now m).1.length co ∧
   L' = pt ro (Row 3 1 (readyAll now m).1.length co (ints (readyAll now m).1)) :: pt (ad b) (RLimboO (readyAll now m).2) :: F) := by
 refine Fm Tryz.func230 k230 ?_
 dsimp only [c230, eL]
 refine Xe (Et (Eo t.out) (Ent.rownil 3 1)) (go ?_)
 refine Cx.lp (α := {p : (List Int × Lm) × (OA × Nat) // p.1.1.length + p.1.2.size = m.size ∧ p.1.1 ++ (readyAll now p.1.2).1 = (readyAll now m).1 ∧ (readyAll now p.1.2).2 = (readyAll now m).2})
  (fun p => [(0, zp b), (1, ii now), (5, .slice p.1.2.1 p.1.1.1.length p.1.2.2)])
  (fun p => pt p.1.2.1 (Row 3 1 p.1.1.1.length p.1.2.2 (ints p.1.1.1)) :: pt (ad b) (RLimboO p.1.1.2) :: F) (fun p => p.1.1.2.cnt) ⟨(([], m), (none, 0)), by simp, by simp, rfl⟩ sb3 (Er _) ?_
 rintro ⟨⟨⟨out, m'⟩, ⟨ro, co⟩⟩, hsz, he1, he2⟩
 dsimp only at hsz he1 he2 ⊢
 refine go ?_
 refine Sa rfl (refOpen (b := b) (m := m') hnow) ?_
 rintro v L' ⟨rfl, rfl⟩
 refine go ?_
 have hall : ∀ o, 2 ≤ now → leastUp now m' 3 = o → readyAll now m' = match o with
    | none => ([], m')
    | some j => (m'.items j ++ (readyAll now (m'.put j 0 [])).1, (readyAll now (m'.put j 0 [])).2) := by
   intro o h2 ho
   unfold readyAll
   simp only [if_pos h2]
   cases o with
   | none =>
     cases hc : m'.cnt with
     | zero => rfl
     | succ c => simp [readyM, ho]
   | some j =>
     rw [cnt_put (leastUp_lt ho).1 (open_ne (leastUp_lt ho).2)]
     simp [readyM, ho]
 refine Cx.cd rfl (fun hop => ?_) (fun hop => ?_)
 ·have h2 : 2 ≤ now := (of_decide_eq_true hop).1
  rw [← anyOpen_least h2] at hop
  have hl := of_decide_eq_true hop
  refine go ?_
  refine Sa rfl (refLeast (b := b) (m := m') h2 hnow) ?_
  rintro v L' ⟨rfl, rfl⟩
  rcases hlu : leastUp now m' 3 with _ | j
  ·rw [hlu] at hl; exact absurd hl (by decide)
  have hra := hall _ h2 hlu
  have hj := (leastUp_lt hlu).1
  have hne := open_ne (leastUp_lt hlu).2
  have hsp := size_put (m := m') hj
  have hcp := cnt_put hj hne
  have hm1 : out.length + (m'.x0.length + m'.x1.length + m'.x2.length) = m.size := hsz
  dsimp only at hra
  rw [hra, ← List.append_assoc] at he1
  rw [hra] at he2
  simp only [leastI]
  refine Sx.openp (a := ad b) rfl ?_
  rintro ⟨⟨⟨r0, c0⟩, ⟨r1, c1⟩, ⟨r2, c2⟩⟩, ⟨u0, u1, u2, l⟩⟩
  simp only [refL, lc, ln]
  refine Sx.liftp fun hT => ?_
  rcases (show j = 0 ∨ j = 1 ∨ j = 2 by omega) with rfl | rfl | rfl
  ·refine gg ?_
   refine Sx.rowkey (a := r0) fun hxj hnj _ hkj => ?_
   refine Sx.ap (ra := ro) rfl rfl (Rd.any (a := r0) hxj (hkj.imp (fun h => h.2.1) id)) (ones_ints _) (by simp [maxLen]; omega) (by omega) fun ra ca hc => ?_
   refine gg ?_
   refine Kn ⟨((out ++ m'.items 0, m'.put 0 0 []), (ra, ca)), by dsimp only; rw [List.length_append]; omega, he1, he2⟩ (sub.cons rfl (sub.cons rfl (sub.cons ?_ sub.nil))) ?_ (by dsimp only; omega)
   ·show _ = some (Value.slice ra (out ++ m'.items 0).length ca)
    rw [show (out ++ m'.items 0).length = out.length + m'.x0.length by simp [Lm.items]]
    rfl
   ·dsimp only
    rw [ints_append, List.length_append]
    refine Em (t := inferInstance) ?_
    refine Et (Ent.rownil 3 1) ?_
    refine Et (RLimboO.close (a := ad b) (r0 := none) (r1 := r1) (r2 := r2) (m'.put 0 0 []) hT.put0 rfl rfl rfl rfl rfl rfl rfl rfl rfl rfl) ?_
    exact ent
  ·refine gg ?_
   refine Sx.rowkey (a := r1) fun hxj hnj _ hkj => ?_
   refine Sx.ap (ra := ro) rfl rfl (Rd.any (a := r1) hxj (hkj.imp (fun h => h.2.1) id)) (ones_ints _) (by simp [maxLen]; omega) (by omega) fun ra ca hc => ?_
   refine gg ?_
   refine Kn ⟨((out ++ m'.items 1, m'.put 1 0 []), (ra, ca)), by dsimp only; rw [List.length_append]; omega, he1, he2⟩ (sub.cons rfl (sub.cons rfl (sub.cons ?_ sub.nil))) ?_ (by dsimp only; omega)
   ·show _ = some (Value.slice ra (out ++ m'.items 1).length ca)
    rw [show (out ++ m'.items 1).length = out.length + m'.x1.length by simp [Lm.items]]
    rfl
   ·dsimp only
    rw [ints_append, List.length_append]
    refine Em (t := inferInstance) ?_
    refine Et (Ent.rownil 3 1) ?_
    refine Et (RLimboO.close (a := ad b) (r0 := r0) (r1 := none) (r2 := r2) (m'.put 1 0 []) hT.put1 rfl rfl rfl rfl rfl rfl rfl rfl rfl rfl) ?_
    exact ent
  ·refine gg ?_
   refine Sx.rowkey (a := r2) fun hxj hnj _ hkj => ?_
   refine Sx.ap (ra := ro) rfl rfl (Rd.any (a := r2) hxj (hkj.imp (fun h => h.2.1) id)) (ones_ints _) (by simp [maxLen]; omega) (by omega) fun ra ca hc => ?_
   refine gg ?_
   refine Kn ⟨((out ++ m'.items 2, m'.put 2 0 []), (ra, ca)), by dsimp only; rw [List.length_append]; omega, he1, he2⟩ (sub.cons rfl (sub.cons rfl (sub.cons ?_ sub.nil))) ?_ (by dsimp only; omega)
   ·show _ = some (Value.slice ra (out ++ m'.items 2).length ca)
    rw [show (out ++ m'.items 2).length = out.length + m'.x2.length by simp [Lm.items]]
    rfl
   ·dsimp only
    rw [ints_append, List.length_append]
    refine Em (t := inferInstance) ?_
    refine Et (Ent.rownil 3 1) ?_
    refine Et (RLimboO.close (a := ad b) (r0 := r0) (r1 := r1) (r2 := none) (m'.put 2 0 []) hT.put2 rfl rfl rfl rfl rfl rfl rfl rfl rfl rfl) ?_
    exact ent
 ·refine go ?_
  have hra : readyAll now m' = ([], m') := by
   by_cases h2 : 2 ≤ now
   ·rw [← anyOpen_least h2] at hop
    have hl := of_decide_eq_false hop
    rcases hlu : leastUp now m' 3 with _ | j
    ·exact hall _ h2 hlu
    ·rw [hlu] at hl; exact absurd (show (0 : Int) ≤ leastI (some j) by simp [leastI]) hl
   ·unfold readyAll; rw [if_neg h2]
  rw [hra] at he1 he2
  simp only [List.append_nil] at he1
  subst he1; subst he2
  exact Ko rfl (Er _) ⟨ro, co, rfl, rfl⟩
end
end
end Go.Proofs.YtflalhdofhobmaaGreat
