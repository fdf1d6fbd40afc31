/-
  Parts of the proof, merged: what the statement leans on.
-/
import Derived.Test.YtflalhdofhobmaaGreatZHeE
set_option linter.unusedVariables false
set_option linter.unusedSimpArgs false

namespace Go.Proofs.YtflalhdofhobmaaGreat
open Go
attribute [local irreducible] Sx Cx Rx Fx Krg Ksq Kbl Klp Kr
open Classical in
noncomputable def giveInit (k : Sk) (l : List Int) : PushS := if l.Nodup ∧ ∀ x ∈ l, 0 ≤ x ∧ x < k.n then PushS.init l else ⟨l, 0, 0, true⟩
theorem giveInit_yes {k : Sk} {l : List Int} (h : l.Nodup ∧ ∀ x ∈ l, 0 ≤ x ∧ x < k.n) : giveInit k l = PushS.init l := if_pos h
theorem giveInit_no {k : Sk} {l : List Int} (h : ¬ (l.Nodup ∧ ∀ x ∈ l, 0 ≤ x ∧ x < k.n)) : giveInit k l = ⟨l, 0, 0, true⟩ := if_neg h
theorem pushStep_l (k : Sk) (m : Mm) (p : PushS) : (pushStep k m p).1.l = p.l := by
 unfold pushStep
 (repeat' split) <;> rfl
section
variable {L F G : St}
abbrev gvB (b : Nat) (nx n1 n2 n3 : Value) (cnt : Int) (sl : Value) : As := pt (some ⟨b, 0, none⟩) (Blk 248 [nx, n1, n2, n3, .int .i64 cnt, sl])
def giveDL (T : TypeId) (a : Option Addr) (y : Value × Value × Value × Int × Value) : St := [pt a (Blk T [.nilFunc, y.1, y.2.1, y.2.2.1, .int .i64 y.2.2.2.1, y.2.2.2.2])]
def givePL (T : TypeId) (pb : Nat) (k : Sk) (p : PushS) (a : Option Addr) (y : Nat × Int × (Option Addr × Nat)) : St :=
 [pt a (Blk T [.func (.func 232) #[.pointer a] #[], mth 239 y.1, mth 240 y.1, .func (.func 261) #[.pointer a] #[], .int .i64 y.2.1, .slice y.2.2.1 p.l.length y.2.2.2]),
  pt (some ⟨y.1, 0, none⟩) (PushO pb k p), pt y.2.2.1 (Row 3 1 p.l.length y.2.2.2 (ints p.l))]
def GiveT (T : TypeId) (pb : Nat) (k : Sk) (p : PushS) (a : Option Addr) : As := bif p.done then exs (giveDL T a) else exs (givePL T pb k p a)
abbrev GiveO := GiveT 248
theorem GiveO.d {T : TypeId} {pb : Nat} {k : Sk} {p : PushS} {a : Option Addr} (h : p.done = true) : GiveT T pb k p a = exs (giveDL T a) := by unfold GiveT; rw [h]; rfl
theorem GiveO.p {T : TypeId} {pb : Nat} {k : Sk} {p : PushS} {a : Option Addr} (h : p.done = false) : GiveT T pb k p a = exs (givePL T pb k p a) := by unfold GiveT; rw [h]; rfl
theorem GiveO.closeD {b pb : Nat} {k : Sk} (p : PushS) (h : p.done = true) {n1 n2 n3 sl : Value} {cnt : Int} : Ent (gvB b .nilFunc n1 n2 n3 cnt sl :: G) (pt (some ⟨b, 0, none⟩) (GiveO pb k p) :: G) :=
 Ent.close (f := giveDL 248 (some ⟨b, 0, none⟩)) (GiveO.d h) (n1, n2, n3, cnt, sl)
theorem GiveO.closeP {b pb g : Nat} {k : Sk} {r : Option Addr} {c n : Nat} {vs : List Value} {q : PushS} (p : PushS) (h : p.done = false) {cnt : Int} (hq : q = p) (hn : n = p.l.length) (hv : vs = ints p.l) :
  Ent (gvB b (mth 232 b) (mth 239 g) (mth 240 g) (mth 261 b) cnt (.slice r n c) :: pt (some ⟨g, 0, none⟩) (PushO pb k q) :: pt r (Row 3 1 n c vs) :: G) (pt (some ⟨b, 0, none⟩) (GiveO pb k p) :: G) := by
 subst hq; subst hn; subst hv
 exact Ent.close (f := givePL 248 pb k q (some ⟨b, 0, none⟩)) (GiveO.p h) (g, cnt, r, c)
theorem giveEnd {v : Value} : Fx Tryz.prog 261 [v] L (fun v L' => v = .tuple #[] ∧ L = L') := by
 refine Fx.mk Tryz.func261 k261 (Nat.le_of_ble_eq_true rfl) ?_
 dsimp only [c261, envOf, Nat.reduceAdd]
 refine Cx.sk ?_
 exact Kr.none (.inl rfl) (Ent.refl _) ⟨rfl, rfl⟩
theorem supGive {u mp pb : Nat} {x : Cn} {s : SupS} {l : List Int} {r : Option Addr} {n c : Nat} {F : St} (hl : n = l.length) (hn : n ≤ 1000000000) [t : Take L (some ⟨u, 0, none⟩) (SupO mp pb x s) F] [tr : Take F r (Row 3 1 n c (ints l)) G] {F3 : St} [tb : Take G (some ⟨pb, 0, none⟩) (SkO mp x.pool) F3] :
  Fx Tryz.prog 245 [.pointer (some ⟨u, 0, none⟩), .slice r n c] L (fun v L' => ∃ b, v = .pointer (some ⟨b, 0, none⟩) ∧ L' = pt (some ⟨b, 0, none⟩) (GiveO pb x.pool (giveInit x.pool l)) :: pt (some ⟨u, 0, none⟩) (SupO mp pb x s) :: G) := by
 subst hl
 refine Fx.mk Tryz.func245 k245 (Nat.le_of_ble_eq_true rfl) ?_
 dsimp only [c245, envOf, Nat.reduceAdd]
 refine Cx.ent (Ent.trans (Ent.of t.out) (Ent.cons (Ent.of tr.out))) ?_
 refine Cx.openp (a := some ⟨u, 0, none⟩) rfl ?_
 rintro ⟨sh, lm⟩
 simp only [supL, List.cons_append, List.nil_append]
 refine Cx.rowkey (a := r) fun hxl hc1 _ hkr => ?_
 refine go ?_
 refine Sx.bx rfl rfl fun b => ?_
 refine go ?_
 refine Sx.ca rfl (stackPush (sb := pb) (mp := mp) (k := x.pool) (l := l) (Rd.any (a := r) hxl (hkr.imp (fun h => h.2.1) id)) hc1 hn) ?_
 rintro v L' (⟨hno, rfl, rfl⟩ | ⟨hyes, g, rfl, rfl⟩)
 ·rw [giveInit_no hno]
  refine go ?_
  refine Kr.one (.inr rfl) rfl ?_ ⟨b, rfl, rfl⟩
  refine Ent.trans (GiveO.closeD ⟨l, 0, 0, true⟩ rfl) (Ent.cons ?_)
  refine Ent.trans (SupO.close (a := some ⟨u, 0, none⟩) (sh := sh) (lm := lm) (mp := mp) (pb := pb) (x := x) s rfl rfl rfl) (Ent.cons ?_)
  exact ent
 ·rw [giveInit_yes hyes]
  refine go ?_
  by_cases hl0 : l = []
  ·have hd : (PushS.init l).done = true := by simp [PushS.init, hl0]
   refine Sx.ca rfl (machThrough (b := b) (machOnYes (b := b) (by kernel_rfl) ((pushDoneC (b := g) (sb := pb) (k := x.pool) (p := PushS.init l)).mono (by rintro v L' ⟨rfl, rfl⟩; exact ⟨by rw [hd], rfl⟩)) (by kernel_rfl) giveEnd)) ?_
   rintro v L' ⟨rfl, w, rfl, w2, rfl, rfl⟩
   refine go ?_
   refine Kr.one (.inr rfl) rfl ?_ ⟨b, rfl, rfl⟩
   refine Ent.trans (GiveO.closeD (PushS.init l) hd) (Ent.cons ?_)
   refine Ent.trans Ent.drop ?_
   refine Ent.trans (SupO.close (a := some ⟨u, 0, none⟩) (sh := sh) (lm := lm) (mp := mp) (pb := pb) (x := x) s rfl rfl rfl) (Ent.cons ?_)
   exact ent
  ·have hd : (PushS.init l).done = false := by simp [PushS.init, hl0]
   refine Sx.ca rfl (machThrough (b := b) (machOnNo (b := b) (by kernel_rfl) ((pushDoneC (b := g) (sb := pb) (k := x.pool) (p := PushS.init l)).mono (by rintro v L' ⟨rfl, rfl⟩; exact ⟨by rw [hd], rfl⟩)))) ?_
   rintro v L' ⟨rfl, w, rfl, rfl⟩
   refine go ?_
   refine Kr.one (.inr rfl) rfl ?_ ⟨b, rfl, rfl⟩
   refine Ent.trans (Ent.cons (Ent.cons (Ent.take (a := r)))) ?_
   refine Ent.trans (GiveO.closeP (PushS.init l) hd rfl rfl rfl) (Ent.cons ?_)
   refine Ent.trans (SupO.close (a := some ⟨u, 0, none⟩) (sh := sh) (lm := lm) (mp := mp) (pb := pb) (x := x) s rfl rfl rfl) (Ent.cons ?_)
   exact ent
theorem supSpill {u mp pb : Nat} {x : Cn} {s : SupS} {F : St} (hn : s.xs.length ≤ 1000000000) (hm : 0 ≤ s.most) (hm2 : s.most ≤ 64) [t : Take L (some ⟨u, 0, none⟩) (SupO mp pb x s) F] {F3 : St} [tb : Take F (some ⟨pb, 0, none⟩) (SkO mp x.pool) F3] :
  Fx Tryz.prog 207 [.pointer (some ⟨u, 0, none⟩)] L (fun v L' => ∃ b, v = .pointer (some ⟨b, 0, none⟩) ∧ L' = pt (some ⟨b, 0, none⟩) (GiveO pb x.pool (giveInit x.pool (s.xs.take (overK s.most s.xs)))) :: pt (some ⟨u, 0, none⟩) (SupO mp pb x { s with xs := s.xs.drop (overK s.most s.xs) }) :: F) := by
 have hov : overK s.most s.xs ≤ s.xs.length := by unfold overK; omega
 refine Fx.mk Tryz.func207 k207 (Nat.le_of_ble_eq_true rfl) ?_
 dsimp only [c207, envOf, Nat.reduceAdd]
 refine Cx.ent (Ent.of t.out) ?_
 refine Cx.openp (a := some ⟨u, 0, none⟩) rfl ?_
 rintro ⟨sh, lm⟩
 simp only [supL, List.cons_append, List.nil_append]
 refine go ?_
 refine Sx.ca rfl (stashOver (b := sh) (most := s.most) (xs := s.xs) hn hm hm2) ?_
 rintro v L' ⟨r, c, rfl, rfl⟩
 refine Sx.ent (Ent.trans (Ent.cons (SupO.close (a := some ⟨u, 0, none⟩) (sh := sh) (lm := lm) (mp := mp) (pb := pb) (x := x) { s with xs := s.xs.drop (overK s.most s.xs) } rfl rfl rfl)) Ent.swap) ?_
 refine go ?_
 refine Sx.ca rfl (supGive (u := u) (mp := mp) (pb := pb) (x := x) (s := { s with xs := s.xs.drop (overK s.most s.xs) }) (l := s.xs.take (overK s.most s.xs)) (r := r) (by rw [List.length_take]; omega) (by omega)) ?_
 rintro v L' ⟨b, rfl, rfl⟩
 refine go ?_
 exact Kr.one (.inr rfl) rfl (Ent.refl _) ⟨b, rfl, rfl⟩
theorem giveStep {b mp pb : Nat} {k : Sk} {m : Mm} {p : PushS} {F1 F2 : St} (hk : k.ok m.ws.length) [t1 : Take L (some ⟨b, 0, none⟩) (GiveO pb k p) F1] [t2 : Take F1 (some ⟨mp, 0, none⟩) (MemO m) F2] [t3 : Take F2 (some ⟨pb, 0, none⟩) (SkO mp k) G] :
  Fx Tryz.prog 208 [.pointer (some ⟨b, 0, none⟩)] L (fun v L' => v = .bool (!p.done) ∧ L' = pt (some ⟨b, 0, none⟩) (GiveO pb k (pushStep k m p).1) :: pt (some ⟨mp, 0, none⟩) (MemO (pushStep k m p).2) :: F2) := by
 refine Fx.mk Tryz.func208 k208 (Nat.le_of_ble_eq_true rfl) ?_
 dsimp only [c208, envOf, Nat.reduceAdd]
 refine Cx.ent (Ent.trans (Ent.of t1.out) (Ent.cons (Ent.trans (Ent.of t2.out) (Ent.cons (Ent.of t3.out))))) ?_
 cases hd : p.done with
 | true =>
   have e : pushStep k m p = (p, m) := by unfold pushStep; rw [hd]; rfl
   rw [e]
   refine Cx.openp (a := some ⟨b, 0, none⟩) (GiveO.d hd) ?_
   rintro ⟨n1, n2, n3, cnt, sl⟩
   simp only [giveDL, List.cons_append, List.nil_append]
   refine go ?_
   refine Sx.ca rfl (machStepDone (b := b)) ?_
   rintro v L' ⟨rfl, rfl⟩
   refine go ?_
   exact Kr.one (.inr rfl) rfl (Ent.trans (GiveO.closeD p hd) (Ent.cons (Ent.cons (Ent.of t3.back)))) ⟨rfl, rfl⟩
 | false =>
   refine Cx.openp (a := some ⟨b, 0, none⟩) (GiveO.p hd) ?_
   rintro ⟨g, cnt, r, c⟩
   simp only [givePL, List.cons_append, List.nil_append]
   have hpl := pushStep_l k m p
   cases hq : (pushStep k m p).1.done with
   | true =>
     refine go ?_
     refine Sx.ca rfl (machStep (b := b) (by kernel_rfl) (machGoes (b := b) (by kernel_rfl) (pushStepC (b := g) (mp := mp) (sb := pb) (k := k) (m := m) (p := p) hk) (R2 := fun v L' => v = .tuple #[] ∧ ∃ w : Value, w = .tuple #[] ∧ pt (some ⟨g, 0, none⟩) (PushO pb k (pushStep k m p).1) :: pt (some ⟨mp, 0, none⟩) (MemO (pushStep k m p).2) :: gvB b .nilFunc (mth 239 g) (mth 240 g) (mth 261 b) (IntKind.i64.wrap (cnt + 1)) (.slice r p.l.length c) :: pt r (Row 3 1 p.l.length c (ints p.l)) :: pt (some ⟨pb, 0, none⟩) (SkO mp k) :: G = L') ?_)) ?_
     ·rintro v L1 ⟨rfl, rfl⟩
      exact machOnYes (b := b) (by kernel_rfl) ((pushDoneC (b := g) (sb := pb) (k := k) (p := (pushStep k m p).1)).mono (by rintro v L' ⟨rfl, rfl⟩; exact ⟨by rw [hq], rfl⟩)) (by kernel_rfl) giveEnd
     ·rintro v L' ⟨rfl, w, rfl, w2, _, w3, _, rfl⟩
      refine go ?_
      refine Kr.one (.inr rfl) rfl ?_ ⟨rfl, rfl⟩
      refine Ent.trans (Ent.take (a := some ⟨b, 0, none⟩)) ?_
      refine Ent.trans (GiveO.closeD (pushStep k m p).1 hq) (Ent.cons ?_)
      refine Ent.trans (Ent.take (a := some ⟨mp, 0, none⟩)) (Ent.cons ?_)
      refine Ent.trans ?_ (Ent.of t3.back)
      exact ent
   | false =>
     refine go ?_
     refine Sx.ca rfl (machStep (b := b) (by kernel_rfl) (machGoes (b := b) (by kernel_rfl) (pushStepC (b := g) (mp := mp) (sb := pb) (k := k) (m := m) (p := p) hk) (R2 := fun v L' => v = .tuple #[] ∧ L' = gvB b (mth 232 b) (mth 239 g) (mth 240 g) (mth 261 b) (IntKind.i64.wrap (cnt + 1)) (.slice r p.l.length c) ::
       pt (some ⟨g, 0, none⟩) (PushO pb k (pushStep k m p).1) :: pt (some ⟨mp, 0, none⟩) (MemO (pushStep k m p).2) :: pt r (Row 3 1 p.l.length c (ints p.l)) :: pt (some ⟨pb, 0, none⟩) (SkO mp k) :: G) ?_)) ?_
     ·rintro v L1 ⟨rfl, rfl⟩
      refine (machOnNo (b := b) (by kernel_rfl) ((pushDoneC (b := g) (sb := pb) (k := k) (p := (pushStep k m p).1)).mono (by rintro v L' ⟨rfl, rfl⟩; exact ⟨by rw [hq], rfl⟩))).mono ?_
      rintro v L' ⟨rfl, rfl⟩
      exact ⟨rfl, rfl⟩
     ·rintro v L' ⟨rfl, w, _, w2, _, rfl⟩
      refine go ?_
      refine Kr.one (.inr rfl) rfl ?_ ⟨rfl, rfl⟩
      refine Ent.trans (Ent.cons (Ent.cons (Ent.take (a := r)))) ?_
      refine Ent.trans (GiveO.closeP (pushStep k m p).1 hq rfl (by rw [hpl]) (by rw [hpl])) (Ent.cons ?_)
      refine Ent.cons ?_
      exact Ent.of t3.back
theorem giveDone {b pb : Nat} {k : Sk} {p : PushS} {F1 : St} [t1 : Take L (some ⟨b, 0, none⟩) (GiveO pb k p) F1] : Fx Tryz.prog 188 [.pointer (some ⟨b, 0, none⟩)] L (fun v L' => v = .bool p.done ∧ L = L') := by
 refine Fx.kept (t := t1) ?_
 refine Fx.mk Tryz.func188 k188 (Nat.le_of_ble_eq_true rfl) ?_
 dsimp only [c188, envOf, Nat.reduceAdd]
 refine Cx.ent (Ent.of t1.out) ?_
 cases hd : p.done with
 | true =>
   refine Cx.openp (a := some ⟨b, 0, none⟩) (GiveO.d hd) ?_
   rintro ⟨n1, n2, n3, cnt, sl⟩
   simp only [giveDL, List.cons_append, List.nil_append]
   refine go ?_
   refine Sx.ca rfl (machDoneYes (b := b)) ?_
   rintro v L' ⟨rfl, rfl⟩
   refine go ?_
   exact Kr.one (.inr rfl) rfl (GiveO.closeD p hd) ⟨rfl, rfl⟩
 | false =>
   refine Cx.openp (a := some ⟨b, 0, none⟩) (GiveO.p hd) ?_
   rintro ⟨g, cnt, r, c⟩
   simp only [givePL, List.cons_append, List.nil_append]
   refine go ?_
   refine Sx.ca rfl (machDoneNo (b := b)) ?_
   rintro v L' ⟨rfl, rfl⟩
   refine go ?_
   exact Kr.one (.inr rfl) rfl (GiveO.closeP p hd rfl rfl rfl) ⟨rfl, rfl⟩
end
end Go.Proofs.YtflalhdofhobmaaGreat


namespace Go.Proofs.YtflalhdofhobmaaGreat
theorem crIt_idle {k : Sk} {ro cl : Nat} {r : CreS × Mm} {j : Nat} (h : (crIt k ro cl j r).1.done = true) : ∀ i, crIt k ro cl (j + i) r = crIt k ro cl j r
 | 0 => rfl
 | i + 1 => by
   show crStep k ro cl (crIt k ro cl (j + i) r).2 (crIt k ro cl (j + i) r).1 = _
   rw [crIt_idle h i]
   unfold crStep
   rw [if_pos h]
theorem cr_pop {k : Sk} {ro cl : Nat} {m : Mm} : ∀ j, (∀ i, i ≤ j → (popIt k i (PopS.init 1, m)).1.done = false) →
  crIt k ro cl j (CreS.init, m) = ({ CreS.init with cnt := j, q := (popIt k j (PopS.init 1, m)).1 }, (popIt k j (PopS.init 1, m)).2)
 | 0, _ => rfl
 | j + 1, h => by
   have ih := cr_pop (k := k) (ro := ro) (cl := cl) (m := m) j (fun i hi => h i (by omega))
   have hd := h (j + 1) (Nat.le_refl _)
   rw [popIt_succ] at hd
   show crStep k ro cl (crIt k ro cl j (CreS.init, m)).2 (crIt k ro cl j (CreS.init, m)).1 = _
   rw [ih, popIt_succ]
   unfold crStep
   simp only [CreS.init, Bool.false_eq_true, if_false, hd]
theorem cr_alone {k : Sk} {ro cl len : Nat} {m : Mm} {l : List Int} {s : Int} (hk : k.ok len) (hml : m.ws.length = len) (hm : m.ok) (hp : Pool k m (s :: l)) (hr : ro + k.n ≤ k.links) (hrh : k.head < ro) (hcl : cl ≤ 3) :
  ∃ c m', crIt k ro cl 10 (CreS.init, m) = (c, m') ∧ c.done = true ∧ c.code = 0 ∧ c.slot = s ∧ c.at_ = 2 ∧ c.was = m.at_ (ro + s.toNat) ∧ m'.n = m.n + 5 ∧ m'.ws.length = len ∧ m'.ok ∧ Pool k m' l ∧
   m'.at_ (ro + s.toNat) = (nextRt cl (m.at_ (ro + s.toNat))).w ∧ (∀ a, a ≠ k.head → a ≠ ro + s.toNat → m'.at_ a = m.at_ a) := by
 obtain ⟨hs0, hs1, hs2, hs3⟩ := hp.c
 obtain ⟨m1, e1, n1, l1, p1, a1, d1⟩ := pop_alone hk hml hp 1 (by omega) (by omega) (by simp) 1 (by simp; omega)
 simp only [List.drop_succ_cons, List.drop_zero, List.take_succ_cons, List.take_zero] at e1 p1
 have hl := hk.l
 have hok1 : m1.ok := by
  have : ∀ j, (popIt k j (PopS.init 1, m)).2.ok ∧ (popIt k j (PopS.init 1, m)).1.ok k := by
   intro j
   induction j with
   | zero => exact ⟨hm, PopS.ok_init hk.n1 1⟩
   | succ j ih =>
     rw [popIt_succ]
     exact ⟨(popStep_mem hk ih.1 ih.2).1, popStep_ok hk ih.1 ih.2⟩
  have := (this (1 + 2)).1
  rw [e1] at this
  exact this
 have hw1 := Mm.at_lt hok1 (ro + s.toNat)
 have c2 := cr_pop (k := k) (ro := ro) (cl := cl) (m := m) 2 (fun i hi => d1 i (by omega))
 have c3 : crIt k ro cl 3 (CreS.init, m) = (⟨1, 3, s, 3, 0, 0, (popIt k 3 (PopS.init 1, m)).1, false⟩, m1) := by
  show crStep k ro cl (crIt k ro cl 2 (CreS.init, m)).2 (crIt k ro cl 2 (CreS.init, m)).1 = _
  have e2 : popStep k (popIt k 2 (PopS.init 1, m)).2 (popIt k 2 (PopS.init 1, m)).1 = (⟨1, 0, l.headD (-1), m.at_ k.head, [s], true⟩, m1) := by rw [← popIt_succ]; exact e1
  rw [c2]
  unfold crStep
  simp only [CreS.init, Bool.false_eq_true, if_false, e2, if_true, crPopped]
  rw [show (1 + 2 : Nat) = 3 from rfl] at e1
  rw [e1]
 have c4 : crIt k ro cl 4 (CreS.init, m) = (⟨2, 4, s, 3, m1.at_ (ro + s.toNat), 0, (popIt k 3 (PopS.init 1, m)).1, false⟩, m1.tick) := by
  show crStep k ro cl (crIt k ro cl 3 (CreS.init, m)).2 (crIt k ro cl 3 (CreS.init, m)).1 = _
  rw [c3]; rfl
 have c5 : crIt k ro cl 5 (CreS.init, m) = (⟨2, 5, s, 3, m1.at_ (ro + s.toNat), 0, (popIt k 3 (PopS.init 1, m)).1, true⟩, m1.tick.put (ro + s.toNat) (nextRt cl (m1.at_ (ro + s.toNat))).w) := by
  show crStep k ro cl (crIt k ro cl 4 (CreS.init, m)).2 (crIt k ro cl 4 (CreS.init, m)).1 = _
  rw [c4]; rfl
 have hin : ro + s.toNat < m1.tick.ws.length := by show _ < m1.ws.length; omega
 have hro : m1.at_ (ro + s.toNat) = m.at_ (ro + s.toNat) := a1 _ (by omega)
 have hput : ∀ a v, (m1.tick.put (ro + s.toNat) v).at_ a = if ro + s.toNat = a then v else m1.at_ a := fun a v => Mm.at_put a hin
 refine ⟨_, _, (crIt_idle (by rw [c5]) 5).trans c5, rfl, rfl, rfl, rfl, hro, ?_, ?_, ?_, ⟨?_, p1.nd⟩, ?_, ?_⟩
 ·show m1.n + 1 + 1 = _; omega
 ·rw [Mm.len_put]; exact l1
 ·exact Mm.ok_put (Mm.ok_tick hok1) (Rt.w_lt (nextRt_ok hw1 hcl))
 ·rw [hput, if_neg (by omega)]
  refine p1.c.congr fun y hy => ?_
  have := p1.c.mem y hy
  rw [hput, if_neg (by omega)]
 ·rw [hput, if_pos rfl, hro]
 ·intro a h1 h2
  rw [hput, if_neg (fun h => h2 h.symm)]
  exact a1 a h1
structure AlP where
 k : Sk
 ro : Nat
 wo : Nat
 wd : Nat
 ba : Int
 slot : Nat
 gen : Int
 n : Nat
abbrev gNone : PushS := ⟨[], 0, 0, true⟩
def TakeS.zero : TakeS := ⟨0, 0, false, 0, PopS.init 1, true⟩
noncomputable def alClose (k : Sk) (s : SupS) (v : AlV) (t : TakeS) (code : Nat) (o : Hd) : SupS × AlS :=
 let s1 := if 0 ≤ v.hand then s.give [v.hand] else s
 let g := giveInit k (s1.xs.take (overK s1.most s1.xs))
 ({ s1 with xs := s1.xs.drop (overK s1.most s1.xs) }, ⟨6, { v with code := code, obj := o, point := v.cnt, ends := true, hand := -1 }, t, g, g.done⟩)
def alTaken (v : AlV) (t : TakeS) : AlS := if t.is_ then ⟨3, { v with hand := t.chunk }, t, gNone, false⟩ else ⟨0, v, t, gNone, false⟩
noncomputable def alSeen (p : AlP) (s : SupS) (v : AlV) (t : TakeS) : SupS × AlS :=
 if (rtOf v.was).live p.gen then
  let v1 : AlV := { v with need := roundS (rtOf v.was).cl p.n }
  if 2 ≤ (rtOf v.was).mrk ∧ fitsS p.wd (rtOf v.was).off (roundS (rtOf v.was).cl p.n) then (s, ⟨1, v1, t, gNone, false⟩)
  else if 0 ≤ v.hand then (s, ⟨4, v1, t, gNone, false⟩)
  else if v.asked then alClose p.k s v1 t 6 Hd.zero
  else if (takeInit p.ba s).2.done then ((takeInit p.ba s).1, alTaken { v1 with asked := true } (takeInit p.ba s).2)
  else ((takeInit p.ba s).1, ⟨2, { v1 with asked := true }, (takeInit p.ba s).2, gNone, false⟩)
 else alClose p.k s v t 3 Hd.zero
noncomputable def alStep (p : AlP) (m : Mm) (s : SupS) (a : AlS) : Mm × SupS × AlS :=
 if a.done then (m, s, a) else
 let v : AlV := { a.v with cnt := a.v.cnt + 1 }
 let w := rtOf a.v.was
 match a.at_ with
 | 0 => (m.tick, alSeen p s { v with was := m.at_ (p.ro + p.slot) } a.t)
 | 1 => if m.at_ (p.ro + p.slot) = a.v.was then (m.put (p.ro + p.slot) (Rt.w ⟨w.gen, w.mrk, w.cl, w.off + v.need⟩), alClose p.k s v a.t 0 ⟨p.slot, p.gen, w.chunk, w.off, p.n⟩) else (m.tick, s, ⟨0, v, a.t, gNone, false⟩)
 | 2 => ((takeStep p.k p.ba m s a.t).1, (takeStep p.k p.ba m s a.t).2.1, if (takeStep p.k p.ba m s a.t).2.2.done then alTaken v (takeStep p.k p.ba m s a.t).2.2 else ⟨2, v, (takeStep p.k p.ba m s a.t).2.2, gNone, false⟩)
 | 3 => (m.put (p.wo + v.hand.toNat * p.wd + v.zat) 0, s, ⟨if v.zat + 1 < p.wd then 3 else 4, { v with zat := v.zat + 1 }, a.t, gNone, false⟩)
 | 4 => (m.put (p.k.links + v.hand.toNat) (w.chunk + 1).toNat, s, ⟨5, v, a.t, gNone, false⟩)
 | 5 => if m.at_ (p.ro + p.slot) = a.v.was then (m.put (p.ro + p.slot) (Rt.w ⟨w.gen, 2 + v.hand.toNat, w.cl, afterS p.wd v.need⟩), alClose p.k s { v with hand := -1 } a.t 0 ⟨p.slot, p.gen, v.hand, 0, p.n⟩) else (m.tick, s, ⟨0, v, a.t, gNone, false⟩)
 | _ => ((pushStep p.k m a.g).2, s, ⟨6, v, a.t, (pushStep p.k m a.g).1, (pushStep p.k m a.g).1.done⟩)
def AlS.init : AlS := ⟨0, AlV.init, TakeS.zero, gNone, false⟩
noncomputable def alIt (p : AlP) : Nat → Mm × SupS × AlS → Mm × SupS × AlS
 | 0, r => r
 | j + 1, r => alStep p (alIt p j r).1 (alIt p j r).2.1 (alIt p j r).2.2
end Go.Proofs.YtflalhdofhobmaaGreat


namespace Go.Proofs.YtflalhdofhobmaaGreat
open Go
attribute [local irreducible] Sx Cx Rx Fx Krg Ksq Kbl Klp Kr
section
variable {L F G : St}
theorem supTake {u mp pb : Nat} {x : Cn} {s : SupS} {F : St} (hx : x.ok) (hb : s.xs.length + s.lm.size ≤ 1000000) [t : Take L (some ⟨u, 0, none⟩) (SupO mp pb x s) F] :
  Fx Tryz.prog 158 [.pointer (some ⟨u, 0, none⟩)] L (fun v L' => ∃ b, v = .pointer (some ⟨b, 0, none⟩) ∧ L' = pt (some ⟨b, 0, none⟩) (TakeO u pb x.pool (takeInit x.ba s).2) :: pt (some ⟨u, 0, none⟩) (SupO mp pb x (takeInit x.ba s).1) :: F) := by
 refine Fx.mk Tryz.func158 k158 (Nat.le_of_ble_eq_true rfl) ?_
 dsimp only [c158, envOf, Nat.reduceAdd]
 refine Cx.ent (Ent.of t.out) ?_
 refine go ?_
 refine Sx.bx rfl rfl fun b => ?_
 refine go ?_
 refine Sx.ca rfl (takeKept (b := b) (u := u) (mp := mp) (pb := pb) (x := x) (s := s) (by omega)) ?_
 rintro v L' ⟨rfl, rfl⟩
 by_cases hxs : s.xs = []
 ·have hk : s.kept = s := by unfold SupS.kept; rw [hxs]; simp only [List.dropLast_nil]; rw [← hxs]
  rw [decide_eq_false (fun h : s.xs ≠ [] => h hxs), hk, show lastI s.xs = 0 by rw [hxs]; rfl]
  refine go ?_
  refine Sx.openp (a := some ⟨u, 0, none⟩) rfl ?_
  rintro ⟨sh, lm⟩
  simp only [supL, List.cons_append, List.nil_append]
  refine go ?_
  refine Sx.ca rfl (limboLen (b := lm) (m := s.lm) (by omega)) ?_
  rintro v L' ⟨rfl, rfl⟩
  refine go ?_
  by_cases hz : 0 < s.lm.size
  ·have e : takeInit x.ba s = (s, TakeS.none_) := by unfold takeInit keepT; rw [if_pos hxs]; simp only [if_pos hz]
   rw [e]
   refine Cx.cyes rfl (decide_eq_true (by omega)) ?_
   refine go ?_
   refine Sx.ca rfl (machGo (b := b)) ?_
   rintro v L' ⟨rfl, rfl⟩
   refine go ?_
   refine Kr.one (.inr rfl) rfl ?_ ⟨b, rfl, rfl⟩
   refine Ent.trans ?_ (TakeO.closeL (n1 := .nilFunc) (n2 := .nilFunc) (n3 := .nilFunc) (pp := .pointer none) (cnt := 0) TakeS.none_ rfl rfl rfl rfl rfl)
   refine Ent.cons ?_
   refine Ent.trans (SupO.close (a := some ⟨u, 0, none⟩) (sh := sh) (lm := lm) (mp := mp) (pb := pb) (x := x) s rfl rfl rfl) (Ent.refl _)
  ·have e : takeInit x.ba s = (s, { TakeS.none_ with at_ := 1, q := PopS.init x.ba }) := by unfold takeInit keepT; rw [if_pos hxs]; simp only [if_neg hz]
   rw [e]
   refine Cx.cno rfl (decide_eq_false (by omega)) ?_
   refine Cx.ent (Ent.trans (Ent.swap) (Ent.trans (Ent.cons (Ent.refl _)) (SupO.close (a := some ⟨u, 0, none⟩) (sh := sh) (lm := lm) (mp := mp) (pb := pb) (x := x) s rfl rfl rfl))) ?_
   refine go ?_
   refine Sx.ca rfl (takeAsk (b := b) (u := u) (mp := mp) (pb := pb) (x := x) (s := s) hx) ?_
   rintro v L' rfl
   refine go ?_
   refine Kr.one (.inr rfl) rfl ?_ ⟨b, rfl, rfl⟩
   exact Ent.refl _
 ·have e : takeInit x.ba s = (s.kept, { TakeS.none_ with chunk := lastI s.xs, is_ := true, done := true }) := by unfold takeInit keepT; rw [if_neg hxs]
  rw [e, decide_eq_true (show s.xs ≠ [] from hxs)]
  refine go ?_
  exact Kr.one (.inr rfl) rfl (TakeO.closeD _ rfl rfl rfl rfl) ⟨b, rfl, rfl⟩
end
end Go.Proofs.YtflalhdofhobmaaGreat


namespace Go.Proofs.YtflalhdofhobmaaGreat
open Go
attribute [local irreducible] Sx Cx Rx Fx Krg Ksq Kbl Klp Kr
section
variable {L F G : St}
abbrev Cn.al (x : Cn) (slot : Nat) (gen : Int) (n : Nat) : AlP := ⟨x.pool, x.root, x.word, x.wd, x.ba, slot, gen, n⟩
abbrev hdA (o : Hd) : Value := .agg #[.int .i64 o.slot, .int .i64 o.gen, .int .i64 o.chunk, .int .i64 o.off, .int .i64 o.len]
abbrev alF (nx n1 n2 n3 : Value) (g u slot : Nat) (gen : Int) (n : Nat) (cnt : Int) (v : AlV) (rt : Rt) (tp gp : Value) : List Value :=
 [nx, n1, n2, n3, .int .i64 cnt, .pointer (some ⟨g, 0, none⟩), .pointer (some ⟨u, 0, none⟩), .int .i64 (slot : Nat), .int .i64 gen, .int .i64 (n : Nat), .int .i64 v.hand, .int .i64 (v.zat : Nat), .bool v.asked, .bool v.ends, .int .i64 (v.need : Nat), .int .i64 (v.point : Nat), wd v.was,
  .int .i64 (rt.gen : Nat), .int .i64 (rt.mrk : Nat), .int .i64 (rt.cl : Nat), .int .i64 (rt.off : Nat), tp, gp, .int .i64 (v.code : Nat), .int .i64 v.obj.slot, .int .i64 v.obj.gen, .int .i64 v.obj.chunk, .int .i64 v.obj.off, .int .i64 v.obj.len]
abbrev alB (b : Nat) (nx n1 n2 n3 : Value) (g u slot : Nat) (gen : Int) (n : Nat) (cnt : Int) (v : AlV) (rt : Rt) (tp gp : Value) : As := pt (some ⟨b, 0, none⟩) (Blk 152 (alF nx n1 n2 n3 g u slot gen n cnt v rt tp gp))
def alFn : Nat → FuncId
 | 0 => 80
 | 1 => 156
 | 3 => 221
 | 4 => 157
 | _ => 215
def alSL (f : FuncId) (T : TypeId) (g u slot : Nat) (gen : Int) (n : Nat) (s : AlS) (a : Option Addr) (y : Value × Value × Value × Value) : St :=
 [pt a (Blk T (alF (.func (.func f) #[.pointer a] #[]) y.1 y.2.1 y.2.2.1 g u slot gen n (s.v.cnt : Nat) s.v (rtOf s.v.was) y.2.2.2 (.pointer none)))]
def alTL (T : TypeId) (g u pb : Nat) (x : Cn) (slot : Nat) (gen : Int) (n : Nat) (s : AlS) (a : Option Addr) (y : Nat) : St :=
 [pt a (Blk T (alF (.func (.func 232) #[.pointer a] #[]) (mth 159 y) (mth 160 y) (.func (.func 161) #[.pointer a] #[]) g u slot gen n (s.v.cnt : Nat) s.v (rtOf s.v.was) (.pointer (some ⟨y, 0, none⟩)) (.pointer none))),
  pt (some ⟨y, 0, none⟩) (TakeO u pb x.pool s.t)]
def alGL (T : TypeId) (g u pb : Nat) (x : Cn) (slot : Nat) (gen : Int) (n : Nat) (s : AlS) (a : Option Addr) (y : Nat × Value) : St :=
 [pt a (Blk T (alF (.func (.func 232) #[.pointer a] #[]) (mth 208 y.1) (mth 188 y.1) (.func (.func 209) #[.pointer a] #[]) g u slot gen n (s.v.cnt : Nat) s.v (rtOf s.v.was) y.2 (.pointer (some ⟨y.1, 0, none⟩)))),
  pt (some ⟨y.1, 0, none⟩) (GiveO pb x.pool s.g)]
def alDL (T : TypeId) (g u pb : Nat) (x : Cn) (slot : Nat) (gen : Int) (n : Nat) (s : AlS) (a : Option Addr) (y : Nat × Value × Value × Value × Value) : St :=
 [pt a (Blk T (alF .nilFunc y.2.1 y.2.2.1 y.2.2.2.1 g u slot gen n (s.v.cnt : Nat) s.v (rtOf s.v.was) y.2.2.2.2 (.pointer (some ⟨y.1, 0, none⟩)))), pt (some ⟨y.1, 0, none⟩) (GiveO pb x.pool s.g)]
def AlT (T : TypeId) (g u pb : Nat) (x : Cn) (slot : Nat) (gen : Int) (n : Nat) (s : AlS) (a : Option Addr) : As := bif s.done then exs (alDL T g u pb x slot gen n s a) else match s.at_ with
 | 2 => exs (alTL T g u pb x slot gen n s a) | 6 => exs (alGL T g u pb x slot gen n s a) | k => exs (alSL (alFn k) T g u slot gen n s a)
abbrev AlO := AlT 152
section
variable {T : TypeId} {g u pb : Nat} {x : Cn} {slot : Nat} {gen : Int} {n : Nat} {s : AlS} {a : Option Addr}
theorem AlO.dd_ (h : s.done = true) : AlT T g u pb x slot gen n s a = exs (alDL T g u pb x slot gen n s a) := by unfold AlT; rw [h]; rfl
theorem AlO.tt_ (h : s.done = false) (h0 : s.at_ = 2) : AlT T g u pb x slot gen n s a = exs (alTL T g u pb x slot gen n s a) := by unfold AlT; rw [h, h0]; rfl
theorem AlO.gg_ (h : s.done = false) (h0 : s.at_ = 6) : AlT T g u pb x slot gen n s a = exs (alGL T g u pb x slot gen n s a) := by unfold AlT; rw [h, h0]; rfl
theorem AlO.ss_ (h : s.done = false) (h2 : s.at_ ≠ 2) (h6 : s.at_ ≠ 6) : AlT T g u pb x slot gen n s a = exs (alSL (alFn s.at_) T g u slot gen n s a) := by
 unfold AlT
 rw [h]
 split
 ·exact absurd ‹_› h2
 ·exact absurd ‹_› h6
 ·rfl
end
theorem AlO.closeS {b g u pb : Nat} {x : Cn} {slot : Nat} {gen : Int} {n : Nat} {n1 n2 n3 tp : Value} {cnt : Int} {v : AlV} {rt : Rt} {f : FuncId} (s : AlS) (h : s.done = false) (h2' : Nat.beq s.at_ 2 = false) (h6' : Nat.beq s.at_ 6 = false) (hf : f = alFn s.at_) (hc : cnt = (s.v.cnt : Nat)) (hv : { v with cnt := s.v.cnt } = s.v) (hr : rt = rtOf s.v.was) :
  Ent (alB b (mth f b) n1 n2 n3 g u slot gen n cnt v rt tp (.pointer none) :: G) (pt (some ⟨b, 0, none⟩) (AlO g u pb x slot gen n s) :: G) := by
 subst hf hc hr
 have h2 : s.at_ ≠ 2 := fun e => by rw [e] at h2'; cases h2'
 have h6 : s.at_ ≠ 6 := fun e => by rw [e] at h6'; cases h6'
 obtain ⟨a1, v0, t0, g0, d0⟩ := s
 obtain ⟨c1, c2, c3, c4, c5, c6, c7, c8, c9, c10⟩ := v0
 obtain ⟨e1, e2, e3, e4, e5, e6, e7, e8, e9, e10⟩ := v
 dsimp only at hv
 cases hv
 exact Ent.close (f := alSL (alFn a1) 152 g u slot gen n _ (some ⟨b, 0, none⟩)) (AlO.ss_ h h2 h6) (n1, n2, n3, tp)
theorem AlO.closeT {b g u pb q : Nat} {x : Cn} {slot : Nat} {gen : Int} {n : Nat} {cnt : Int} {v : AlV} {rt : Rt} {t : TakeS} (s : AlS) (h : s.done = false) (h2 : s.at_ = 2) (hc : cnt = (s.v.cnt : Nat)) (hv : { v with cnt := s.v.cnt } = s.v) (hr : rt = rtOf s.v.was) (ht : t = s.t) :
  Ent (alB b (mth 232 b) (mth 159 q) (mth 160 q) (mth 161 b) g u slot gen n cnt v rt (.pointer (some ⟨q, 0, none⟩)) (.pointer none) :: pt (some ⟨q, 0, none⟩) (TakeO u pb x.pool t) :: G) (pt (some ⟨b, 0, none⟩) (AlO g u pb x slot gen n s) :: G) := by
 subst hc hr ht
 obtain ⟨a1, v0, t0, g0, d0⟩ := s
 obtain ⟨c1, c2, c3, c4, c5, c6, c7, c8, c9, c10⟩ := v0
 obtain ⟨e1, e2, e3, e4, e5, e6, e7, e8, e9, e10⟩ := v
 dsimp only at hv
 cases hv
 exact Ent.close (f := alTL 152 g u pb x slot gen n _ (some ⟨b, 0, none⟩)) (AlO.tt_ h h2) q
theorem AlO.closeG {b g u pb q : Nat} {x : Cn} {slot : Nat} {gen : Int} {n : Nat} {tp : Value} {cnt : Int} {v : AlV} {rt : Rt} {p : PushS} (s : AlS) (h : s.done = false) (h2 : s.at_ = 6) (hc : cnt = (s.v.cnt : Nat)) (hv : { v with cnt := s.v.cnt } = s.v) (hr : rt = rtOf s.v.was) (ht : p = s.g) :
  Ent (alB b (mth 232 b) (mth 208 q) (mth 188 q) (mth 209 b) g u slot gen n cnt v rt tp (.pointer (some ⟨q, 0, none⟩)) :: pt (some ⟨q, 0, none⟩) (GiveO pb x.pool p) :: G) (pt (some ⟨b, 0, none⟩) (AlO g u pb x slot gen n s) :: G) := by
 subst hc hr ht
 obtain ⟨a1, v0, t0, g0, d0⟩ := s
 obtain ⟨c1, c2, c3, c4, c5, c6, c7, c8, c9, c10⟩ := v0
 obtain ⟨e1, e2, e3, e4, e5, e6, e7, e8, e9, e10⟩ := v
 dsimp only at hv
 cases hv
 exact Ent.close (f := alGL 152 g u pb x slot gen n _ (some ⟨b, 0, none⟩)) (AlO.gg_ h h2) (q, tp)
theorem AlO.closeD {b g u pb q : Nat} {x : Cn} {slot : Nat} {gen : Int} {n : Nat} {n1 n2 n3 tp : Value} {cnt : Int} {v : AlV} {rt : Rt} {p : PushS} (s : AlS) (h : s.done = true) (hc : cnt = (s.v.cnt : Nat)) (hv : { v with cnt := s.v.cnt } = s.v) (hr : rt = rtOf s.v.was) (ht : p = s.g) :
  Ent (alB b .nilFunc n1 n2 n3 g u slot gen n cnt v rt tp (.pointer (some ⟨q, 0, none⟩)) :: pt (some ⟨q, 0, none⟩) (GiveO pb x.pool p) :: G) (pt (some ⟨b, 0, none⟩) (AlO g u pb x slot gen n s) :: G) := by
 subst hc hr ht
 obtain ⟨a1, v0, t0, g0, d0⟩ := s
 obtain ⟨c1, c2, c3, c4, c5, c6, c7, c8, c9, c10⟩ := v0
 obtain ⟨e1, e2, e3, e4, e5, e6, e7, e8, e9, e10⟩ := v
 dsimp only at hv
 cases hv
 exact Ent.close (f := alDL 152 g u pb x slot gen n _ (some ⟨b, 0, none⟩)) (AlO.dd_ h) (q, n1, n2, n3, tp)
theorem alEnd {v : Value} : Fx Tryz.prog 209 [v] L (fun v L' => v = .tuple #[] ∧ L = L') := by
 refine Fx.mk Tryz.func209 k209 (Nat.le_of_ble_eq_true rfl) ?_
 dsimp only [c209, envOf, Nat.reduceAdd]
 refine Cx.sk ?_
 exact Kr.none (.inl rfl) (Ent.refl _) ⟨rfl, rfl⟩
theorem grantAlloc {g u mp pb : Nat} {x : Cn} (slot : Nat) (gen : Int) (n : Nat) (hs : slot < x.sl) (hn : 1 ≤ n) (hn2 : n ≤ x.wd) [t : Take L (some ⟨g, 0, none⟩) (GrO mp x) F] :
  Fx Tryz.prog 19 [.pointer (some ⟨g, 0, none⟩), .pointer (some ⟨u, 0, none⟩), .int .i64 slot, .int .i64 gen, .int .i64 n] L (fun v L' => ∃ b, v = .tuple #[.pointer (some ⟨b, 0, none⟩), .int .i64 0] ∧ L' = pt (some ⟨b, 0, none⟩) (AlO g u pb x slot gen n AlS.init) :: L) := by
 refine Fx.mk Tryz.func19 k19 (Nat.le_of_ble_eq_true rfl) ?_
 dsimp only [c19, envOf, Nat.reduceAdd]
 refine go ?_
 refine Cx.cno rfl (decide_eq_false (by omega)) ?_
 refine go ?_
 refine Sx.gyes rfl (decide_eq_false (by omega)) ?_
 refine go ?_
 refine Cx.cno rfl (decide_eq_false (by omega)) ?_
 refine go ?_
 refine Sx.bx rfl rfl fun b => ?_
 refine Sx.re (alF .nilFunc .nilFunc .nilFunc .nilFunc g u slot gen n 0 AlV.init ⟨0, 0, 0, 0⟩ (.pointer none) (.pointer none)) rfl ?_
 refine go ?_
 refine Sx.ca rfl (machGo (b := b)) ?_
 rintro v L' ⟨rfl, rfl⟩
 refine go ?_
 refine Kr.two (.inr rfl) rfl rfl ?_ ⟨b, rfl, rfl⟩
 exact AlO.closeS (b := b) (g := g) (u := u) (pb := pb) (x := x) (slot := slot) (gen := gen) (n := n) (v := AlV.init) (rt := ⟨0, 0, 0, 0⟩) AlS.init rfl rfl rfl rfl rfl rfl rfl
end
end Go.Proofs.YtflalhdofhobmaaGreat


namespace Go.Proofs.YtflalhdofhobmaaGreat
open Go
attribute [local irreducible] Sx Cx Rx Fx Krg Ksq Kbl Klp Kr
section
variable {L F G : St}
set_option maxHeartbeats 4000000 in
theorem alClose_ {b g u mp pb : Nat} {x : Cn} {slot : Nat} {gen : Int} {n : Nat} {v : AlV} {rt : Rt} {n1 n2 n3 tp : Value} {S : SupS} {cnt : Int} (code : Nat) (o : Hd) (t : TakeS) (hcnt : cnt = (v.cnt : Nat)) (hh : -1 ≤ v.hand) (hb : S.xs.length ≤ 1000000) (hm0 : 0 ≤ S.most) (hm2 : S.most ≤ 64) (hr : rt = rtOf v.was) :
  Fx Tryz.prog 153 [.pointer (some ⟨b, 0, none⟩), .int .i64 (code : Nat), hdA o] (alB b .nilFunc n1 n2 n3 g u slot gen n cnt v rt tp (.pointer none) :: pt (some ⟨u, 0, none⟩) (SupO mp pb x S) :: pt (some ⟨pb, 0, none⟩) (SkO mp x.pool) :: G)
   (fun _ L' => L' = pt (some ⟨b, 0, none⟩) (AlO g u pb x slot gen n (alClose x.pool S v t code o).2) :: pt (some ⟨u, 0, none⟩) (SupO mp pb x (alClose x.pool S v t code o).1) :: pt (some ⟨pb, 0, none⟩) (SkO mp x.pool) :: G) := by
 subst hcnt
 subst hr
 refine Fx.mk Tryz.func153 k153 (Nat.le_of_ble_eq_true rfl) ?_
 dsimp only [c153, envOf, Nat.reduceAdd]
 refine Cx.sq ?_
 refine Cx.rg ?_
 refine Sx.bx rfl rfl fun q => ?_
 refine go ?_
 refine Cx.ordc rfl (by kernel_rfl) ?_
 refine ge ?_
 refine Ev.cakH (by kernel_rfl) rfl rfl (machCount (b := b)) ?_
 refine ge ?_
 refine Ev.stbH (b := b) (by kernel_rfl) rfl rfl rfl rfl rfl (by rfl) rfl (.dep rfl (.keep (fun v L' ⟨_, e⟩ => by subst e; exact Has.blk) .nil)) ?_
 refine ge ?_
 refine Ev.stnH (b := b) (alF .nilFunc n1 n2 n3 g u slot gen n (v.cnt : Nat) { v with code := code, obj := o } (rtOf v.was) tp (.pointer none)) (by kernel_rfl) rfl rfl rfl rfl rfl rfl rfl rfl (Pres.deps (by kernel_rfl)) ?_
 refine ge ?_
 refine Ev.stbH (b := b) (by kernel_rfl) rfl rfl rfl rfl rfl (by rfl) rfl (Pres.deps (by kernel_rfl)) ?_
 refine ge ?_
 refine Ev.stbH (b := b) (by kernel_rfl) rfl rfl rfl rfl rfl (by rfl) rfl (Pres.deps (by kernel_rfl)) ?_
 refine ge ?_
 obtain ⟨S1, hS1⟩ : ∃ S1, S1 = (if 0 ≤ v.hand then S.give [v.hand] else S) := ⟨_, rfl⟩
 obtain ⟨V, hV⟩ : ∃ V : AlV, V = { v with code := code, obj := o, point := v.cnt, ends := true, hand := -1 } := ⟨_, rfl⟩
 obtain ⟨gi, hgi⟩ : ∃ gi, gi = giveInit x.pool (S1.xs.take (overK S1.most S1.xs)) := ⟨_, rfl⟩
 have hcl : alClose x.pool S v t code o = ({ S1 with xs := S1.xs.drop (overK S1.most S1.xs) }, ⟨6, V, t, gi, gi.done⟩) := by
  unfold alClose; rw [hgi, hV, hS1]
 rw [hcl]
 have hSm : S1.most = S.most := by rw [hS1]; split <;> rfl
 have hSl : S1.xs.length ≤ 1000001 := by
  rw [hS1]; split
  ·simp [SupS.give]; omega
  ·omega
 refine Cx.sq ?_
 refine Cx.jn (β := Unit) (fun _ => [(0, .pointer (some ⟨b, 0, none⟩))])
  (fun _ => alB b .nilFunc n1 n2 n3 g u slot gen n (v.cnt : Nat) V (rtOf v.was) tp (.pointer none) :: pt (some ⟨u, 0, none⟩) (SupO mp pb x S1) :: pt (some ⟨pb, 0, none⟩) (SkO mp x.pool) :: G) ?_ ?_
 ·refine go ?_
  refine Cx.ifp rfl (fun h => ?_) (fun h => ?_)
  ·rw [if_pos (by omega)] at hS1
   refine go ?_
   refine Cx.ordc rfl (by kernel_rfl) ?_
   refine ge ?_
   refine Ev.bsH (sz := 1) (by kernel_rfl) rfl rfl rfl (.dep rfl (.keep (fun v L' ⟨_, _, e⟩ => by subst e; exact Has.cell rfl) .nil)) fun r => ?_
   refine ge ?_
   refine Ev.caH (by kernel_rfl) rfl rfl (supPut (u := u) (mp := mp) (pb := pb) (x := x) (s := S) (ys := [v.hand]) (Rd.row (b := r) (E := 3) (cap := 1) rfl) (by omega)) (Pres.deps (by kernel_rfl)) ?_
   rintro v' L' ⟨rfl, rfl⟩
   refine ge ?_
   refine go ?_
   refine Kjn.nm () (sub.cons rfl sub.nil) ?_
   rw [hV, hS1]
   exact ent
  ·rw [if_neg (by omega)] at hS1
   refine go ?_
   refine Kjn.nm () (sub.cons rfl sub.nil) ?_
   have e : v.hand = -1 := by dsimp only at h; omega
   rw [hV, hS1]
   simp only [e]
   exact ent
 rintro ⟨⟩
 refine go ?_
 refine Sx.ca rfl (supSpill (u := u) (mp := mp) (pb := pb) (x := x) (s := S1) (by omega) (by omega) (by omega)) ?_
 rintro v' L' ⟨r, rfl, rfl⟩
 refine go ?_
 refine Cx.orde rfl (by kernel_rfl) ?_
 refine ge ?_
 rw [← hgi]
 cases hg : gi.done with
 | true =>
   refine Ev.caH (by kernel_rfl) rfl rfl (machThrough (b := b) (machOnYes (b := b) (by kernel_rfl) ((giveDone (b := r) (pb := pb) (k := x.pool) (p := gi)).mono (by rintro v L' ⟨rfl, rfl⟩; exact ⟨by rw [hg], rfl⟩)) (by kernel_rfl) alEnd)) (Pres.deps (by kernel_rfl)) ?_
   rintro v' L' ⟨rfl, w, rfl, w2, rfl, rfl⟩
   refine ge ?_
   refine Kr.none (.inl rfl) ?_ rfl
   refine Ent.trans (Ent.take (a := some ⟨b, 0, none⟩)) ?_
   refine Ent.trans (Ent.cons (Ent.take (a := some ⟨r, 0, none⟩))) ?_
   refine Ent.trans (AlO.closeD (v := V) (rt := rtOf v.was) ⟨6, V, t, gi, true⟩ rfl (by rw [hV]) rfl (by rw [hV]) rfl) (Ent.cons ?_)
   exact ent
 | false =>
   refine Ev.caH (by kernel_rfl) rfl rfl (machThrough (b := b) (machOnNo (b := b) (by kernel_rfl) ((giveDone (b := r) (pb := pb) (k := x.pool) (p := gi)).mono (by rintro v L' ⟨rfl, rfl⟩; exact ⟨by rw [hg], rfl⟩)))) (Pres.deps (by kernel_rfl)) ?_
   rintro v' L' ⟨rfl, w, rfl, rfl⟩
   refine ge ?_
   refine Kr.none (.inl rfl) ?_ rfl
   refine Ent.trans (Ent.take (a := some ⟨b, 0, none⟩)) ?_
   refine Ent.trans (Ent.cons (Ent.take (a := some ⟨r, 0, none⟩))) ?_
   refine Ent.trans (AlO.closeG (v := V) (rt := rtOf v.was) ⟨6, V, t, gi, false⟩ rfl rfl (by rw [hV]) rfl (by rw [hV]) rfl) (Ent.cons ?_)
   exact ent
theorem alCloseC {b g u mp pb : Nat} {x : Cn} {slot : Nat} {gen : Int} {n : Nat} {v : AlV} {rt : Rt} {n1 n2 n3 tp : Value} {S : SupS} {cnt : Int} {F1 F2 F3 : St} (code : Nat) (o : Hd) (t : TakeS) (hcnt : cnt = (v.cnt : Nat)) (hh : -1 ≤ v.hand) (hb : S.xs.length ≤ 1000000) (hm0 : 0 ≤ S.most) (hm2 : S.most ≤ 64) (hr : rt = rtOf v.was)
  [t1 : Take L (some ⟨b, 0, none⟩) (Blk 152 (alF .nilFunc n1 n2 n3 g u slot gen n cnt v rt tp (.pointer none))) F1] [t2 : Take F1 (some ⟨u, 0, none⟩) (SupO mp pb x S) F2] [t3 : Take F2 (some ⟨pb, 0, none⟩) (SkO mp x.pool) F3] :
  Fx Tryz.prog 153 [.pointer (some ⟨b, 0, none⟩), .int .i64 (code : Nat), hdA o] L
   (fun _ L' => L' = pt (some ⟨b, 0, none⟩) (AlO g u pb x slot gen n (alClose x.pool S v t code o).2) :: pt (some ⟨u, 0, none⟩) (SupO mp pb x (alClose x.pool S v t code o).1) :: pt (some ⟨pb, 0, none⟩) (SkO mp x.pool) :: F3) :=
 Fx.ent (Ent.trans (Ent.of t1.out) (Ent.cons (Ent.trans (Ent.of t2.out) (Ent.cons (Ent.of t3.out))))) (alClose_ code o t hcnt hh hb hm0 hm2 hr)
end
end Go.Proofs.YtflalhdofhobmaaGreat


namespace Go.Proofs.YtflalhdofhobmaaGreat
open Go
attribute [local irreducible] Sx Cx Rx Fx Krg Ksq Kbl Klp Kr
section
variable {L F G : St}
set_option maxHeartbeats 1000000 in
theorem alTaken_ {b g u pb q : Nat} {x : Cn} {slot : Nat} {gen : Int} {n : Nat} {v : AlV} {n1 n2 n3 : Value} {t : TakeS} {cnt : Int} (hcnt : cnt = (v.cnt : Nat)) (ht : t.ok) :
  Fx Tryz.prog 161 [.pointer (some ⟨b, 0, none⟩)] (alB b .nilFunc n1 n2 n3 g u slot gen n cnt v (rtOf v.was) (.pointer (some ⟨q, 0, none⟩)) (.pointer none) :: pt (some ⟨q, 0, none⟩) (TakeO u pb x.pool t) :: G)
   (fun v' L' => L' = pt (some ⟨b, 0, none⟩) (AlO g u pb x slot gen n (alTaken v t)) :: G) := by
 subst hcnt
 refine Fx.mk Tryz.func161 k161 (Nat.le_of_ble_eq_true rfl) ?_
 dsimp only [c161, envOf, Nat.reduceAdd]
 refine go ?_
 refine Sx.ca rfl (takeChunk (b := q) (u := u) (pb := pb) (k := x.pool) (t := t) ht) ?_
 rintro v' L' ⟨rfl, rfl⟩
 refine go ?_
 cases hi : t.is_ with
 | false =>
   have e : alTaken v t = ⟨0, v, t, gNone, false⟩ := by unfold alTaken; rw [hi]; rfl
   rw [e]
   refine go ?_
   refine Sx.ca rfl (machGo (b := b)) ?_
   rintro v' L' ⟨rfl, rfl⟩
   refine go ?_
   refine Kr.none (.inr rfl) ?_ rfl
   refine Ent.trans (AlO.closeS (v := v) (rt := rtOf v.was) ⟨0, v, t, gNone, false⟩ rfl rfl rfl rfl rfl rfl rfl) (Ent.cons ?_)
   exact ent
 | true =>
   have e : alTaken v t = ⟨3, { v with hand := t.chunk }, t, gNone, false⟩ := by unfold alTaken; rw [hi]; rfl
   rw [e]
   refine go ?_
   refine Sx.ca rfl (machGo (b := b)) ?_
   rintro v' L' ⟨rfl, rfl⟩
   refine go ?_
   refine Kr.none (.inl rfl) ?_ rfl
   refine Ent.trans (AlO.closeS (v := { v with hand := t.chunk }) (rt := rtOf v.was) ⟨3, { v with hand := t.chunk }, t, gNone, false⟩ rfl rfl rfl rfl rfl rfl rfl) (Ent.cons ?_)
   exact ent
set_option maxHeartbeats 4000000 in
theorem alLook_ {b g u mp pb : Nat} {x : Cn} {slot : Nat} {gen : Int} {n : Nat} {v : AlV} {rt : Rt} {n1 n2 n3 tp : Value} {S : SupS} {m : Mm} {cnt : Int} (t : TakeS) (hcnt : cnt = (v.cnt : Nat)) (hx : x.ok) (hm : m.ok) (hl : x.len ≤ m.ws.length) (hs : slot < x.sl) (hn : 1 ≤ n) (hn2 : n ≤ x.wd) (hw8 : x.wd % 8 = 0)
  (hh : -1 ≤ v.hand) (hok : (rtOf (m.at_ (x.root + slot))).ok) (hb : S.xs.length + S.lm.size ≤ 1000000) (hm0 : 0 ≤ S.most) (hm2 : S.most ≤ 64) :
  Fx Tryz.prog 80 [.pointer (some ⟨b, 0, none⟩)] (alB b .nilFunc n1 n2 n3 g u slot gen n cnt v rt tp (.pointer none) :: pt (some ⟨u, 0, none⟩) (SupO mp pb x S) :: pt (some ⟨mp, 0, none⟩) (MemO m) :: pt (some ⟨pb, 0, none⟩) (SkO mp x.pool) :: pt (some ⟨g, 0, none⟩) (GrO mp x) :: G)
   (fun _ L' => L' = pt (some ⟨b, 0, none⟩) (AlO g u pb x slot gen n (alSeen (x.al slot gen n) S { v with was := m.at_ (x.root + slot) } t).2) :: pt (some ⟨u, 0, none⟩) (SupO mp pb x (alSeen (x.al slot gen n) S { v with was := m.at_ (x.root + slot) } t).1) :: pt (some ⟨mp, 0, none⟩) (MemO m.tick) :: pt (some ⟨pb, 0, none⟩) (SkO mp x.pool) :: pt (some ⟨g, 0, none⟩) (GrO mp x) :: G) := by
 subst hcnt
 obtain ⟨b1, b2, b3, b4, b5, b6, b7⟩ := show MayC (x.w : Int) x.c x.wd x.sl x.ca x.ba from hx
 have hsz : x.root + x.sl ≤ x.len := by unfold Cn.root Cn.len; omega
 have hwl := Mm.at_lt hm (x.root + slot)
 obtain ⟨W, hW⟩ : ∃ W, m.at_ (x.root + slot) = W := ⟨_, rfl⟩
 rw [hW] at hok hwl ⊢
 refine Fx.mk Tryz.func80 k80 (Nat.le_of_ble_eq_true rfl) ?_
 dsimp only [c80, envOf, Nat.reduceAdd]
 refine Cx.sq ?_
 refine Cx.ordc rfl (by kernel_rfl) ?_
 refine ge ?_
 refine Ev.cakH (by kernel_rfl) rfl rfl (layRootN hx slot hs) ?_
 refine ge ?_
 refine Ev.caH (by kernel_rfl) rfl rfl (cellsLoad (b := mp) (m := m) (x.root + slot) (by omega)) (Pres.deps (by kernel_rfl)) ?_
 rintro v' L' ⟨rfl, rfl⟩
 rw [hW]
 refine ge ?_
 refine Ev.stbH (b := b) (by kernel_rfl) rfl rfl rfl rfl rfl (by rfl) rfl (Pres.deps (by kernel_rfl)) ?_
 refine ge ?_
 refine go ?_
 refine Sx.ca rfl (getRoot W hwl) ?_
 rintro v' L' ⟨rfl, rfl⟩
 refine go ?_
 refine Sx.st (b := b) rfl rfl rfl rfl rfl rfl ?_
 refine Sx.re (alF .nilFunc n1 n2 n3 g u slot gen n (v.cnt : Nat) { v with was := W } (rtOf W) tp (.pointer none)) rfl ?_
 refine go ?_
 refine Cx.ordc rfl (by kernel_rfl) ?_
 refine ge ?_
 refine Ev.cakH (by kernel_rfl) rfl rfl (wordLive (rtOf W) gen) ?_
 refine ge ?_
 by_cases hlive : (rtOf W).live gen
 case neg =>
  have e : alSeen (x.al slot gen n) S { v with was := W } t = alClose x.pool S { v with was := W } t 3 Hd.zero := by
   unfold alSeen; rw [if_neg hlive]
  rw [e, decide_eq_false hlive]
  refine go ?_
  refine Sx.ca rfl (alCloseC (b := b) (g := g) (u := u) (mp := mp) (pb := pb) (x := x) (slot := slot) (gen := gen) (n := n) (v := { v with was := W }) (rt := rtOf W) (S := S) 3 Hd.zero t rfl hh (by omega) hm0 hm2 rfl) ?_
  rintro v' L' rfl
  refine go ?_
  refine Kr.none (.inr rfl) ?_ rfl
  exact ent
 case pos =>
  rw [decide_eq_true hlive]
  refine go ?_
  refine Cx.ordc rfl (by kernel_rfl) ?_
  refine ge ?_
  have hrl := roundS_le hok.c hn2 hw8
  have hrg := roundS_ge (n := n) hok.c
  refine Ev.cakH (by kernel_rfl) rfl rfl (sizeRound (rtOf W).cl n hok.c hn (by omega)) ?_
  obtain ⟨need, hneed⟩ : ∃ need, roundS (rtOf W).cl n = need := ⟨_, rfl⟩
  rw [hneed] at hrl hrg ⊢
  refine ge ?_
  refine Ev.stbH (b := b) (by kernel_rfl) rfl rfl rfl rfl rfl (by rfl) rfl (Pres.deps (by kernel_rfl)) ?_
  refine ge ?_
  refine go ?_
  refine Cx.ordc rfl (by kernel_rfl) ?_
  refine ge ?_
  rcases (show (2 ≤ (rtOf W).mrk ∧ fitsS x.wd (rtOf W).off need) ∨ (2 ≤ (rtOf W).mrk ∧ ¬ fitsS x.wd (rtOf W).off need) ∨ ¬ 2 ≤ (rtOf W).mrk from by
   by_cases h1 : 2 ≤ (rtOf W).mrk
   ·by_cases h2 : fitsS x.wd (rtOf W).off need
    ·exact .inl ⟨h1, h2⟩
    ·exact .inr (.inl ⟨h1, h2⟩)
   ·exact .inr (.inr h1)) with ⟨hmk, hf⟩ | ⟨hmk, hf⟩ | hmk
  ·refine Ev.yes 96 rfl (decide_eq_true (by omega)) ?_
   refine ge ?_
   refine Ev.cakH (by kernel_rfl) rfl rfl (sizeFits x.wd (rtOf W).off need (by omega) (by omega) (by omega) hrl) ?_
   refine ge ?_
   rw [decide_eq_true hf]
   have e : alSeen (x.al slot gen n) S { v with was := W } t = (S, ⟨1, { v with was := W, need := need }, t, gNone, false⟩) := by
    unfold alSeen; rw [if_pos hlive]; dsimp only; rw [hneed, if_pos ⟨hmk, hf⟩]
   rw [e]
   refine go ?_
   refine Sx.ca rfl (machGo (b := b)) ?_
   rintro v' L' ⟨rfl, rfl⟩
   refine go ?_
   refine Kr.none (.inl rfl) ?_ rfl
   refine Ent.trans (Ent.take (a := some ⟨b, 0, none⟩)) ?_
   refine Ent.trans (AlO.closeS (v := { v with was := W, need := need }) (rt := rtOf W) ⟨1, { v with was := W, need := need }, t, gNone, false⟩ rfl rfl rfl rfl rfl rfl rfl) (Ent.cons ?_)
   exact ent
  ·have hnf : ¬ (2 ≤ (rtOf W).mrk ∧ fitsS x.wd (rtOf W).off need) := fun h => by first | exact hf h.2 | exact hmk h.1
   first
    | (refine Ev.yes 96 rfl (decide_eq_true (by omega)) ?_
       refine ge ?_
       refine Ev.cakH (by kernel_rfl) rfl rfl (sizeFits x.wd (rtOf W).off need (by omega) (by omega) (by omega) hrl) ?_
       refine ge ?_
       rw [decide_eq_false hf])
    | (refine Ev.no 96 rfl (decide_eq_false (by omega)) ?_
       refine ge ?_)
   refine go ?_
   refine Cx.ifp rfl (fun h => ?_) (fun h => ?_)
   ·have e : alSeen (x.al slot gen n) S { v with was := W } t = (S, ⟨4, { v with was := W, need := need }, t, gNone, false⟩) := by
     unfold alSeen; rw [if_pos hlive]; dsimp only; rw [hneed, if_neg hnf, if_pos (by exact h)]
    rw [e]
    refine go ?_
    refine Sx.ca rfl (machGo (b := b)) ?_
    rintro v' L' ⟨rfl, rfl⟩
    refine go ?_
    refine Kr.none (.inl rfl) ?_ rfl
    refine Ent.trans (Ent.take (a := some ⟨b, 0, none⟩)) ?_
    refine Ent.trans (AlO.closeS (v := { v with was := W, need := need }) (rt := rtOf W) ⟨4, { v with was := W, need := need }, t, gNone, false⟩ rfl rfl rfl rfl rfl rfl rfl) (Ent.cons ?_)
    exact ent
   ·dsimp only at h
    cases hask : v.asked with
    | true =>
      have e : alSeen (x.al slot gen n) S { v with was := W } t = alClose x.pool S { v with was := W, need := need, asked := true } t 6 Hd.zero := by
       unfold alSeen; rw [if_pos hlive]; dsimp only; rw [hneed, if_neg hnf, if_neg h, if_pos hask, hask]
      rw [hask] at e
      rw [e]
      refine go ?_
      refine Sx.ca rfl (alCloseC (b := b) (g := g) (u := u) (mp := mp) (pb := pb) (x := x) (slot := slot) (gen := gen) (n := n) (v := { v with was := W, need := need, asked := true }) (rt := rtOf W) (S := S) 6 Hd.zero t rfl hh (by omega) hm0 hm2 rfl) ?_
      rintro v' L' rfl
      refine go ?_
      refine Kr.none (.inl rfl) ?_ rfl
      exact ent
    | false =>
      obtain ⟨T, hT⟩ : ∃ T, takeInit x.ba S = T := ⟨_, rfl⟩
      have hst := supTake (u := u) (mp := mp) (pb := pb) (x := x) (s := S) hx hb (L := pt (some ⟨b, 0, none⟩) (Blk 152 (alF .nilFunc n1 n2 n3 g u slot gen n (v.cnt : Nat) { v with was := W, need := need, asked := true } (rtOf W) tp (.pointer none))) :: pt (some ⟨u, 0, none⟩) (SupO mp pb x S) :: pt (some ⟨mp, 0, none⟩) (MemO m.tick) :: pt (some ⟨pb, 0, none⟩) (SkO mp x.pool) :: pt (some ⟨g, 0, none⟩) (GrO mp x) :: G)
      have htok := takeInit_ok (ba := x.ba) (s := S)
      rw [hT] at hst htok
      refine go ?_
      refine Sx.ent ?_ (Sx.ca rfl hst ?_)
      ·exact ent
      rintro v' L' ⟨q, rfl, rfl⟩
      refine go ?_
      cases hd : T.2.done with
      | true =>
        have e : alSeen (x.al slot gen n) S { v with was := W } t = (T.1, alTaken { v with was := W, need := need, asked := true } T.2) := by
         unfold alSeen; rw [if_pos hlive]; dsimp only; rw [hneed, if_neg hnf, if_neg h, if_neg (by rw [hask]; decide), hT, if_pos hd]
        rw [hask] at e
        rw [e]
        refine Cx.orde rfl (by kernel_rfl) ?_
        refine ge ?_
        refine Ev.caH (by kernel_rfl) rfl rfl (machThrough (b := b) (machOnYes (b := b) (by kernel_rfl) ((takeDone (b := q) (u := u) (pb := pb) (k := x.pool) (t := T.2) htok).mono (by rintro v L' ⟨rfl, rfl⟩; exact ⟨by rw [hd], rfl⟩)) (by kernel_rfl)
         (alTaken_ (b := b) (q := q) (g := g) (u := u) (pb := pb) (x := x) (slot := slot) (gen := gen) (n := n) (v := { v with was := W, need := need, asked := true }) (t := T.2) rfl htok))) (Pres.deps (by kernel_rfl)) ?_
        rintro v' L' ⟨rfl, w, ⟨_, w2, rfl⟩⟩
        refine ge ?_
        refine go ?_
        refine Kr.none (.inl rfl) ?_ rfl
        exact ent
      | false =>
        have e : alSeen (x.al slot gen n) S { v with was := W } t = (T.1, ⟨2, { v with was := W, need := need, asked := true }, T.2, gNone, false⟩) := by
         unfold alSeen; rw [if_pos hlive]; dsimp only; rw [hneed, if_neg hnf, if_neg h, if_neg (by rw [hask]; decide), hT, if_neg (by rw [hd]; decide)]
        rw [hask] at e
        rw [e]
        refine Cx.orde rfl (by kernel_rfl) ?_
        refine ge ?_
        refine Ev.caH (by kernel_rfl) rfl rfl (machThrough (b := b) (machOnNo (b := b) (by kernel_rfl) ((takeDone (b := q) (u := u) (pb := pb) (k := x.pool) (t := T.2) htok).mono (by rintro v L' ⟨rfl, rfl⟩; exact ⟨by rw [hd], rfl⟩)))) (Pres.deps (by kernel_rfl)) ?_
        rintro v' L' ⟨rfl, w, ⟨_, rfl⟩⟩
        refine ge ?_
        refine go ?_
        refine Kr.none (.inl rfl) ?_ rfl
        refine Ent.trans (Ent.take (a := some ⟨b, 0, none⟩)) ?_
        refine Ent.trans (Ent.cons (Ent.take (a := some ⟨q, 0, none⟩))) ?_
        refine Ent.trans (AlO.closeT (v := { v with was := W, need := need, asked := true }) (rt := rtOf W) ⟨2, { v with was := W, need := need, asked := true }, T.2, gNone, false⟩ rfl rfl rfl rfl rfl rfl) (Ent.cons ?_)
        exact ent
  ·have hnf : ¬ (2 ≤ (rtOf W).mrk ∧ fitsS x.wd (rtOf W).off need) := fun h => by first | exact hf h.2 | exact hmk h.1
   first
    | (refine Ev.yes 96 rfl (decide_eq_true (by omega)) ?_
       refine ge ?_
       refine Ev.cakH (by kernel_rfl) rfl rfl (sizeFits x.wd (rtOf W).off need (by omega) (by omega) (by omega) hrl) ?_
       refine ge ?_
       rw [decide_eq_false hf])
    | (refine Ev.no 96 rfl (decide_eq_false (by omega)) ?_
       refine ge ?_)
   refine go ?_
   refine Cx.ifp rfl (fun h => ?_) (fun h => ?_)
   ·have e : alSeen (x.al slot gen n) S { v with was := W } t = (S, ⟨4, { v with was := W, need := need }, t, gNone, false⟩) := by
     unfold alSeen; rw [if_pos hlive]; dsimp only; rw [hneed, if_neg hnf, if_pos (by exact h)]
    rw [e]
    refine go ?_
    refine Sx.ca rfl (machGo (b := b)) ?_
    rintro v' L' ⟨rfl, rfl⟩
    refine go ?_
    refine Kr.none (.inl rfl) ?_ rfl
    refine Ent.trans (Ent.take (a := some ⟨b, 0, none⟩)) ?_
    refine Ent.trans (AlO.closeS (v := { v with was := W, need := need }) (rt := rtOf W) ⟨4, { v with was := W, need := need }, t, gNone, false⟩ rfl rfl rfl rfl rfl rfl rfl) (Ent.cons ?_)
    exact ent
   ·dsimp only at h
    cases hask : v.asked with
    | true =>
      have e : alSeen (x.al slot gen n) S { v with was := W } t = alClose x.pool S { v with was := W, need := need, asked := true } t 6 Hd.zero := by
       unfold alSeen; rw [if_pos hlive]; dsimp only; rw [hneed, if_neg hnf, if_neg h, if_pos hask, hask]
      rw [hask] at e
      rw [e]
      refine go ?_
      refine Sx.ca rfl (alCloseC (b := b) (g := g) (u := u) (mp := mp) (pb := pb) (x := x) (slot := slot) (gen := gen) (n := n) (v := { v with was := W, need := need, asked := true }) (rt := rtOf W) (S := S) 6 Hd.zero t rfl hh (by omega) hm0 hm2 rfl) ?_
      rintro v' L' rfl
      refine go ?_
      refine Kr.none (.inl rfl) ?_ rfl
      exact ent
    | false =>
      obtain ⟨T, hT⟩ : ∃ T, takeInit x.ba S = T := ⟨_, rfl⟩
      have hst := supTake (u := u) (mp := mp) (pb := pb) (x := x) (s := S) hx hb (L := pt (some ⟨b, 0, none⟩) (Blk 152 (alF .nilFunc n1 n2 n3 g u slot gen n (v.cnt : Nat) { v with was := W, need := need, asked := true } (rtOf W) tp (.pointer none))) :: pt (some ⟨u, 0, none⟩) (SupO mp pb x S) :: pt (some ⟨mp, 0, none⟩) (MemO m.tick) :: pt (some ⟨pb, 0, none⟩) (SkO mp x.pool) :: pt (some ⟨g, 0, none⟩) (GrO mp x) :: G)
      have htok := takeInit_ok (ba := x.ba) (s := S)
      rw [hT] at hst htok
      refine go ?_
      refine Sx.ent ?_ (Sx.ca rfl hst ?_)
      ·exact ent
      rintro v' L' ⟨q, rfl, rfl⟩
      refine go ?_
      cases hd : T.2.done with
      | true =>
        have e : alSeen (x.al slot gen n) S { v with was := W } t = (T.1, alTaken { v with was := W, need := need, asked := true } T.2) := by
         unfold alSeen; rw [if_pos hlive]; dsimp only; rw [hneed, if_neg hnf, if_neg h, if_neg (by rw [hask]; decide), hT, if_pos hd]
        rw [hask] at e
        rw [e]
        refine Cx.orde rfl (by kernel_rfl) ?_
        refine ge ?_
        refine Ev.caH (by kernel_rfl) rfl rfl (machThrough (b := b) (machOnYes (b := b) (by kernel_rfl) ((takeDone (b := q) (u := u) (pb := pb) (k := x.pool) (t := T.2) htok).mono (by rintro v L' ⟨rfl, rfl⟩; exact ⟨by rw [hd], rfl⟩)) (by kernel_rfl)
         (alTaken_ (b := b) (q := q) (g := g) (u := u) (pb := pb) (x := x) (slot := slot) (gen := gen) (n := n) (v := { v with was := W, need := need, asked := true }) (t := T.2) rfl htok))) (Pres.deps (by kernel_rfl)) ?_
        rintro v' L' ⟨rfl, w, ⟨_, w2, rfl⟩⟩
        refine ge ?_
        refine go ?_
        refine Kr.none (.inl rfl) ?_ rfl
        exact ent
      | false =>
        have e : alSeen (x.al slot gen n) S { v with was := W } t = (T.1, ⟨2, { v with was := W, need := need, asked := true }, T.2, gNone, false⟩) := by
         unfold alSeen; rw [if_pos hlive]; dsimp only; rw [hneed, if_neg hnf, if_neg h, if_neg (by rw [hask]; decide), hT, if_neg (by rw [hd]; decide)]
        rw [hask] at e
        rw [e]
        refine Cx.orde rfl (by kernel_rfl) ?_
        refine ge ?_
        refine Ev.caH (by kernel_rfl) rfl rfl (machThrough (b := b) (machOnNo (b := b) (by kernel_rfl) ((takeDone (b := q) (u := u) (pb := pb) (k := x.pool) (t := T.2) htok).mono (by rintro v L' ⟨rfl, rfl⟩; exact ⟨by rw [hd], rfl⟩)))) (Pres.deps (by kernel_rfl)) ?_
        rintro v' L' ⟨rfl, w, ⟨_, rfl⟩⟩
        refine ge ?_
        refine go ?_
        refine Kr.none (.inl rfl) ?_ rfl
        refine Ent.trans (Ent.take (a := some ⟨b, 0, none⟩)) ?_
        refine Ent.trans (Ent.cons (Ent.take (a := some ⟨q, 0, none⟩))) ?_
        refine Ent.trans (AlO.closeT (v := { v with was := W, need := need, asked := true }) (rt := rtOf W) ⟨2, { v with was := W, need := need, asked := true }, T.2, gNone, false⟩ rfl rfl rfl rfl rfl rfl) (Ent.cons ?_)
        exact ent
end
end Go.Proofs.YtflalhdofhobmaaGreat


namespace Go.Proofs.YtflalhdofhobmaaGreat
open Go
attribute [local irreducible] Sx Cx Rx Fx Krg Ksq Kbl Klp Kr
section
variable {L F G : St}
theorem word_lt {x : Cn} {k j : Nat} (hk : k < x.c) (hj : j < x.wd) : x.word + k * x.wd + j < x.len := by
 have h1 : (k + 1) * x.wd ≤ x.c * x.wd := Nat.mul_le_mul_right _ hk
 rw [Nat.succ_mul] at h1
 unfold Cn.word Cn.len; omega
theorem Rt.chunk_ge (r : Rt) : -1 ≤ r.chunk := by unfold Rt.chunk; split <;> omega
theorem Rt.chunk_lt {r : Rt} (h : r.mrk < 65536) : r.chunk < 65536 := by unfold Rt.chunk; split <;> omega
set_option maxHeartbeats 2000000 in
theorem alClear_ {b g u mp pb : Nat} {x : Cn} {slot : Nat} {gen : Int} {n : Nat} {v : AlV} {n1 n2 n3 tp : Value} {S : SupS} {m : Mm} {cnt : Int} (t : TakeS) (k : Nat) (hcnt : cnt = (v.cnt : Nat)) (hx : x.ok) (hl : x.len ≤ m.ws.length) (hk : v.hand = k) (hkc : k < x.c) (hz : v.zat < x.wd) :
  Fx Tryz.prog 221 [.pointer (some ⟨b, 0, none⟩)] (alB b .nilFunc n1 n2 n3 g u slot gen n cnt v (rtOf v.was) tp (.pointer none) :: pt (some ⟨u, 0, none⟩) (SupO mp pb x S) :: pt (some ⟨mp, 0, none⟩) (MemO m) :: pt (some ⟨pb, 0, none⟩) (SkO mp x.pool) :: pt (some ⟨g, 0, none⟩) (GrO mp x) :: G)
   (fun _ L' => L' = pt (some ⟨b, 0, none⟩) (AlO g u pb x slot gen n ⟨if v.zat + 1 < x.wd then 3 else 4, { v with zat := v.zat + 1 }, t, gNone, false⟩) :: pt (some ⟨u, 0, none⟩) (SupO mp pb x S) :: pt (some ⟨mp, 0, none⟩) (MemO (m.put (x.word + k * x.wd + v.zat) 0)) :: pt (some ⟨pb, 0, none⟩) (SkO mp x.pool) :: pt (some ⟨g, 0, none⟩) (GrO mp x) :: G) := by
 subst hcnt
 obtain ⟨cn, hand, zat, asked, ends, need, point, was, code, obj⟩ := v
 dsimp only at hk hz ⊢
 subst hk
 obtain ⟨b1, b2, b3, b4, b5, b6, b7⟩ := show MayC (x.w : Int) x.c x.wd x.sl x.ca x.ba from hx
 have hwlt := word_lt hkc hz
 refine Fx.mk Tryz.func221 k221 (Nat.le_of_ble_eq_true rfl) ?_
 dsimp only [c221, envOf, Nat.reduceAdd]
 refine Cx.sq ?_
 refine Cx.ordc rfl (by kernel_rfl) ?_
 refine ge ?_
 refine Ev.cakH (by kernel_rfl) rfl rfl (layWordN hx k zat hkc hz) ?_
 refine ge ?_
 refine Ev.caH (by kernel_rfl) rfl rfl (cellsStore (b := mp) (m := m) (x.word + k * x.wd + zat) 0 (by omega) (by omega)) (Pres.deps (by kernel_rfl)) ?_
 rintro v' L' ⟨rfl, rfl⟩
 refine ge ?_
 refine go ?_
 rw [w64 (n := (zat : Int) + 1) (by omega) (by omega), show (zat : Int) + 1 = ((zat + 1 : Nat) : Int) by omega]
 refine go ?_
 refine Cx.ordc rfl (by kernel_rfl) ?_
 refine ge ?_
 refine Cx.ifp rfl (fun h => ?_) (fun h => ?_)
 ·rw [if_pos (show zat + 1 < x.wd by omega)]
  refine go ?_
  refine Sx.ca rfl (machGo (b := b)) ?_
  rintro v' L' ⟨rfl, rfl⟩
  refine go ?_
  refine Kr.none (.inl rfl) ?_ rfl
  refine Ent.trans (Ent.take (a := some ⟨b, 0, none⟩)) ?_
  refine Ent.trans (AlO.closeS (v := ⟨cn, k, zat + 1, asked, ends, need, point, was, code, obj⟩) (rt := rtOf was) ⟨3, ⟨cn, k, zat + 1, asked, ends, need, point, was, code, obj⟩, t, gNone, false⟩ rfl rfl rfl rfl rfl rfl rfl) (Ent.cons ?_)
  exact ent
 ·rw [if_neg (show ¬ zat + 1 < x.wd by omega)]
  refine go ?_
  refine Sx.ca rfl (machGo (b := b)) ?_
  rintro v' L' ⟨rfl, rfl⟩
  refine go ?_
  refine Kr.none (.inl rfl) ?_ rfl
  refine Ent.trans (Ent.take (a := some ⟨b, 0, none⟩)) ?_
  refine Ent.trans (AlO.closeS (v := ⟨cn, k, zat + 1, asked, ends, need, point, was, code, obj⟩) (rt := rtOf was) ⟨4, ⟨cn, k, zat + 1, asked, ends, need, point, was, code, obj⟩, t, gNone, false⟩ rfl rfl rfl rfl rfl rfl rfl) (Ent.cons ?_)
  exact ent
set_option maxHeartbeats 2000000 in
theorem alLink_ {b g u mp pb : Nat} {x : Cn} {slot : Nat} {gen : Int} {n : Nat} {v : AlV} {n1 n2 n3 tp : Value} {S : SupS} {m : Mm} {cnt : Int} (t : TakeS) (k : Nat) (hcnt : cnt = (v.cnt : Nat)) (hx : x.ok) (hl : x.len ≤ m.ws.length) (hk : v.hand = k) (hkc : k < x.c) :
  Fx Tryz.prog 157 [.pointer (some ⟨b, 0, none⟩)] (alB b .nilFunc n1 n2 n3 g u slot gen n cnt v (rtOf v.was) tp (.pointer none) :: pt (some ⟨u, 0, none⟩) (SupO mp pb x S) :: pt (some ⟨mp, 0, none⟩) (MemO m) :: pt (some ⟨pb, 0, none⟩) (SkO mp x.pool) :: pt (some ⟨g, 0, none⟩) (GrO mp x) :: G)
   (fun _ L' => L' = pt (some ⟨b, 0, none⟩) (AlO g u pb x slot gen n ⟨5, v, t, gNone, false⟩) :: pt (some ⟨u, 0, none⟩) (SupO mp pb x S) :: pt (some ⟨mp, 0, none⟩) (MemO (m.put (x.link + k) ((rtOf v.was).chunk + 1).toNat)) :: pt (some ⟨pb, 0, none⟩) (SkO mp x.pool) :: pt (some ⟨g, 0, none⟩) (GrO mp x) :: G) := by
 subst hcnt
 obtain ⟨cn, hand, zat, asked, ends, need, point, was, code, obj⟩ := v
 dsimp only at hk ⊢
 subst hk
 have hc1 := (rtOf was).chunk_ge
 have hc2 := Rt.chunk_lt (rtOf_mrk was)
 have hsz : x.link + x.c ≤ x.len := by unfold Cn.link Cn.len; omega
 refine Fx.mk Tryz.func157 k157 (Nat.le_of_ble_eq_true rfl) ?_
 dsimp only [c157, envOf, Nat.reduceAdd]
 refine Cx.sq ?_
 refine Cx.ordc rfl (by kernel_rfl) ?_
 refine ge ?_
 refine Ev.cakH (by kernel_rfl) rfl rfl (layLinkN hx k hkc) ?_
 refine ge ?_
 refine Ev.cakH (by kernel_rfl) rfl rfl (wordChunk (rtOf was) (rtOf_mrk _)) ?_
 refine ge ?_
 rw [wrapS (x := (rtOf was).chunk + 1) (by omega) (by omega)]
 refine Ev.caH (by kernel_rfl) rfl rfl (cellsStore (b := mp) (m := m) (x.link + k) ((rtOf was).chunk + 1).toNat (by omega) (by omega)) (Pres.deps (by kernel_rfl)) ?_
 rintro v' L' ⟨rfl, rfl⟩
 refine ge ?_
 refine go ?_
 refine Sx.ca rfl (machGo (b := b)) ?_
 rintro v' L' ⟨rfl, rfl⟩
 refine go ?_
 refine Kr.none (.inl rfl) ?_ rfl
 refine Ent.trans (Ent.take (a := some ⟨b, 0, none⟩)) ?_
 refine Ent.trans (AlO.closeS (v := ⟨cn, k, zat, asked, ends, need, point, was, code, obj⟩) (rt := rtOf was) ⟨5, ⟨cn, k, zat, asked, ends, need, point, was, code, obj⟩, t, gNone, false⟩ rfl rfl rfl rfl rfl rfl rfl) (Ent.cons ?_)
 exact ent
theorem alExchange {b g u mp : Nat} {x : Cn} {slot : Nat} {gen : Int} {n : Nat} {v : AlV} {rt : Rt} {nx n1 n2 n3 tp gp : Value} {m : Mm} {cnt : Int} {F1 F2 : St} (R : Rt) (hR : R.ok) (hx : x.ok) (hl : x.len ≤ m.ws.length) (hs : slot < x.sl)
  [t1 : Take L (some ⟨mp, 0, none⟩) (MemO m) F] [t2 : Take F (some ⟨b, 0, none⟩) (Blk 152 (alF nx n1 n2 n3 g u slot gen n cnt v rt tp gp)) F1] [t3 : Take F1 (some ⟨g, 0, none⟩) (GrO mp x) F2] :
  Fx Tryz.prog 212 [.pointer (some ⟨b, 0, none⟩), rtV R] L (fun v' L' => v' = .bool (decide (m.at_ (x.root + slot) = v.was)) ∧ L' = pt (some ⟨mp, 0, none⟩) (MemO (m.cas (x.root + slot) v.was R.w)) :: F) := by
 have hsz : x.root + x.sl ≤ x.len := by unfold Cn.root Cn.len; omega
 refine Fx.mk Tryz.func212 k212 (Nat.le_of_ble_eq_true rfl) ?_
 dsimp only [c212, envOf, Nat.reduceAdd]
 refine Cx.ent (Ent.trans (Ent.of t1.out) (Ent.cons (Ent.trans (Ent.of t2.out) (Ent.cons (Ent.of t3.out))))) ?_
 refine Cx.sq ?_
 refine Cx.rg ?_
 refine Sx.bx rfl rfl fun q => ?_
 refine go ?_
 refine Sx.ca rfl (putRoot R hR) ?_
 rintro v' L' ⟨rfl, rfl⟩
 refine go ?_
 refine Cx.ordc rfl (by kernel_rfl) ?_
 refine ge ?_
 refine Ev.cakH (by kernel_rfl) rfl rfl (layRootN hx slot hs) ?_
 refine ge ?_
 refine Ev.caH (by kernel_rfl) rfl rfl (cellsCas (b := mp) (m := m) (x.root + slot) v.was R.w (by omega) (Rt.w_lt hR)) (Pres.deps (by kernel_rfl)) ?_
 rintro v' L' ⟨rfl, rfl⟩
 refine ge ?_
 refine go ?_
 refine Kr.one (.inr rfl) rfl ?_ ⟨rfl, rfl⟩
 refine Ent.trans (Ent.take (a := some ⟨mp, 0, none⟩)) (Ent.cons ?_)
 refine Ent.trans ?_ (Ent.of t2.back)
 refine Ent.trans (Ent.take (a := some ⟨b, 0, none⟩)) (Ent.cons ?_)
 refine Ent.trans ?_ (Ent.of t3.back)
 exact ent
end
end Go.Proofs.YtflalhdofhobmaaGreat


namespace Go.Proofs.YtflalhdofhobmaaGreat
open Go
attribute [local irreducible] Sx Cx Rx Fx Krg Ksq Kbl Klp Kr
section
variable {L F G : St}
set_option maxHeartbeats 4000000 in
theorem alFit_ {b g u mp pb : Nat} {x : Cn} {slot : Nat} {gen : Int} {n : Nat} {v : AlV} {n1 n2 n3 tp : Value} {S : SupS} {m : Mm} {cnt : Int} (t : TakeS) (r : Mm × SupS × AlS) (hcnt : cnt = (v.cnt : Nat)) (hx : x.ok) (hl : x.len ≤ m.ws.length) (hs : slot < x.sl) (hh : -1 ≤ v.hand)
  (hok : (rtOf v.was).ok) (hoff : (rtOf v.was).off + v.need ≤ x.wd) (hb : S.xs.length ≤ 1000000) (hm0 : 0 ≤ S.most) (hm2 : S.most ≤ 64)
  (hr : r = if m.at_ (x.root + slot) = v.was then (m.put (x.root + slot) (Rt.w ⟨(rtOf v.was).gen, (rtOf v.was).mrk, (rtOf v.was).cl, (rtOf v.was).off + v.need⟩), alClose x.pool S v t 0 ⟨slot, gen, (rtOf v.was).chunk, (rtOf v.was).off, n⟩) else (m.tick, S, ⟨0, v, t, gNone, false⟩)) :
  Fx Tryz.prog 156 [.pointer (some ⟨b, 0, none⟩)] (alB b .nilFunc n1 n2 n3 g u slot gen n cnt v (rtOf v.was) tp (.pointer none) :: pt (some ⟨u, 0, none⟩) (SupO mp pb x S) :: pt (some ⟨mp, 0, none⟩) (MemO m) :: pt (some ⟨pb, 0, none⟩) (SkO mp x.pool) :: pt (some ⟨g, 0, none⟩) (GrO mp x) :: G)
   (fun _ L' => L' = pt (some ⟨b, 0, none⟩) (AlO g u pb x slot gen n r.2.2) :: pt (some ⟨u, 0, none⟩) (SupO mp pb x r.2.1) :: pt (some ⟨mp, 0, none⟩) (MemO r.1) :: pt (some ⟨pb, 0, none⟩) (SkO mp x.pool) :: pt (some ⟨g, 0, none⟩) (GrO mp x) :: G) := by
 subst hcnt
 obtain ⟨b1, b2, b3, b4, b5, b6, b7⟩ := show MayC (x.w : Int) x.c x.wd x.sl x.ca x.ba from hx
 obtain ⟨w, hw⟩ : ∃ w, rtOf v.was = w := ⟨_, rfl⟩
 rw [hw] at hok hoff hr ⊢
 have hR : Rt.ok ⟨w.gen, w.mrk, w.cl, w.off + v.need⟩ := ⟨hok.g, hok.m, hok.c, by show w.off + v.need ≤ 1024; omega⟩
 refine Fx.mk Tryz.func156 k156 (Nat.le_of_ble_eq_true rfl) ?_
 dsimp only [c156, envOf, Nat.reduceAdd]
 refine go ?_
 refine Sx.al fun q => ?_
 refine go ?_
 refine Sx.st (b := q) rfl rfl rfl rfl rfl rfl ?_
 refine Sx.re (rtL w) rfl ?_
 refine go ?_
 refine Cx.ordc rfl (by kernel_rfl) ?_
 refine ge ?_
 rw [w64 (n := (w.off : Int) + v.need) (by omega) (by omega), show (w.off : Int) + v.need = ((w.off + v.need : Nat) : Int) by omega]
 refine Ev.stbH (b := q) (by kernel_rfl) rfl rfl rfl rfl rfl (by rfl) rfl (Pres.deps (by kernel_rfl)) ?_
 refine ge ?_
 refine go ?_
 refine Sx.ca rfl (alExchange (b := b) (g := g) (u := u) (mp := mp) (x := x) (slot := slot) (gen := gen) (n := n) (v := v) (rt := w) (m := m) ⟨w.gen, w.mrk, w.cl, w.off + v.need⟩ hR hx hl hs) ?_
 rintro v' L' ⟨rfl, rfl⟩
 by_cases he : m.at_ (x.root + slot) = v.was
 ·rw [decide_eq_true he]
  rw [if_pos he] at hr
  subst hr
  rw [show m.cas (x.root + slot) v.was (Rt.w ⟨w.gen, w.mrk, w.cl, w.off + v.need⟩) = m.put (x.root + slot) (Rt.w ⟨w.gen, w.mrk, w.cl, w.off + v.need⟩) by unfold Mm.cas; rw [if_pos he]]
  refine go ?_
  refine Cx.orde rfl (by kernel_rfl) ?_
  refine ge ?_
  refine Ev.cakH (by kernel_rfl) rfl rfl (wordChunk ⟨w.gen, w.mrk, w.cl, w.off + v.need⟩ (by have := hok.m; show w.mrk < _; omega)) ?_
  refine ge ?_
  refine Ev.caH (by kernel_rfl) rfl rfl (alCloseC (b := b) (g := g) (u := u) (mp := mp) (pb := pb) (x := x) (slot := slot) (gen := gen) (n := n) (v := v) (rt := w) (S := S) 0 ⟨slot, gen, w.chunk, w.off, n⟩ t rfl hh hb hm0 hm2 hw.symm) (Pres.deps (by kernel_rfl)) ?_
  rintro v' L' rfl
  refine ge ?_
  refine Kr.none (.inl rfl) ?_ rfl
  exact ent
 ·rw [decide_eq_false he]
  rw [if_neg he] at hr
  subst hr
  rw [show m.cas (x.root + slot) v.was (Rt.w ⟨w.gen, w.mrk, w.cl, w.off + v.need⟩) = m.tick by unfold Mm.cas; rw [if_neg he]]
  refine go ?_
  refine Sx.ca rfl (machGo (b := b)) ?_
  rintro v' L' ⟨rfl, rfl⟩
  refine go ?_
  refine Kr.none (.inr rfl) ?_ rfl
  refine Ent.trans (Ent.take (a := some ⟨b, 0, none⟩)) ?_
  refine Ent.trans (AlO.closeS (v := v) (rt := w) ⟨0, v, t, gNone, false⟩ rfl rfl rfl rfl rfl rfl hw.symm) (Ent.cons ?_)
  exact ent
set_option maxHeartbeats 4000000 in
theorem alLead_ {b g u mp pb : Nat} {x : Cn} {slot : Nat} {gen : Int} {n : Nat} {v : AlV} {n1 n2 n3 tp : Value} {S : SupS} {m : Mm} {cnt : Int} (t : TakeS) (r : Mm × SupS × AlS) (k : Nat) (hcnt : cnt = (v.cnt : Nat)) (hx : x.ok) (hl : x.len ≤ m.ws.length) (hs : slot < x.sl) (hk : v.hand = k) (hkc : k < x.c)
  (hok : (rtOf v.was).ok) (hn1 : 1 ≤ v.need) (hn2 : v.need ≤ x.wd) (hb : S.xs.length ≤ 1000000) (hm0 : 0 ≤ S.most) (hm2 : S.most ≤ 64)
  (hr : r = if m.at_ (x.root + slot) = v.was then (m.put (x.root + slot) (Rt.w ⟨(rtOf v.was).gen, 2 + k, (rtOf v.was).cl, afterS x.wd v.need⟩), alClose x.pool S { v with hand := -1 } t 0 ⟨slot, gen, k, 0, n⟩) else (m.tick, S, ⟨0, v, t, gNone, false⟩)) :
  Fx Tryz.prog 215 [.pointer (some ⟨b, 0, none⟩)] (alB b .nilFunc n1 n2 n3 g u slot gen n cnt v (rtOf v.was) tp (.pointer none) :: pt (some ⟨u, 0, none⟩) (SupO mp pb x S) :: pt (some ⟨mp, 0, none⟩) (MemO m) :: pt (some ⟨pb, 0, none⟩) (SkO mp x.pool) :: pt (some ⟨g, 0, none⟩) (GrO mp x) :: G)
   (fun _ L' => L' = pt (some ⟨b, 0, none⟩) (AlO g u pb x slot gen n r.2.2) :: pt (some ⟨u, 0, none⟩) (SupO mp pb x r.2.1) :: pt (some ⟨mp, 0, none⟩) (MemO r.1) :: pt (some ⟨pb, 0, none⟩) (SkO mp x.pool) :: pt (some ⟨g, 0, none⟩) (GrO mp x) :: G) := by
 subst hcnt
 obtain ⟨b1, b2, b3, b4, b5, b6, b7⟩ := show MayC (x.w : Int) x.c x.wd x.sl x.ca x.ba from hx
 obtain ⟨cn, hand, zat, asked, ends, need, point, was, code, obj⟩ := v
 dsimp only at hk hok hn1 hn2 hr ⊢
 subst hk
 obtain ⟨w, hw⟩ : ∃ w, rtOf was = w := ⟨_, rfl⟩
 rw [hw] at hok hr ⊢
 have haf := afterS_le hn2
 obtain ⟨A, hA⟩ : ∃ A, afterS x.wd need = A := ⟨_, rfl⟩
 rw [hA] at haf hr
 have hR : Rt.ok ⟨w.gen, 2 + k, w.cl, A⟩ := ⟨hok.g, by show 2 + k ≤ 4097; omega, hok.c, by show A ≤ 1024; omega⟩
 refine Fx.mk Tryz.func215 k215 (Nat.le_of_ble_eq_true rfl) ?_
 dsimp only [c215, envOf, Nat.reduceAdd]
 refine go ?_
 refine Sx.al fun q => ?_
 refine go ?_
 refine Sx.st (b := q) rfl rfl rfl rfl rfl rfl ?_
 refine Sx.re (rtL w) rfl ?_
 refine go ?_
 refine Cx.ordc rfl (by kernel_rfl) ?_
 refine ge ?_
 rw [w64 (n := (2 : Int) + k) (by omega) (by omega), show (2 : Int) + k = ((2 + k : Nat) : Int) by omega]
 refine ge ?_
 refine Ev.cakH (by kernel_rfl) rfl rfl (sizeAfter x.wd need (by omega) (by omega) hn1 hn2) ?_
 rw [hA]
 refine ge ?_
 refine Ev.stbH (b := q) (by kernel_rfl) rfl rfl rfl rfl rfl (by rfl) rfl (Pres.deps (by kernel_rfl)) ?_
 refine ge ?_
 refine Ev.stbH (b := q) (by kernel_rfl) rfl rfl rfl rfl rfl (by rfl) rfl (Pres.deps (by kernel_rfl)) ?_
 refine ge ?_
 refine go ?_
 refine Sx.ca rfl (alExchange (b := b) (g := g) (u := u) (mp := mp) (x := x) (slot := slot) (gen := gen) (n := n) (v := ⟨cn, k, zat, asked, ends, need, point, was, code, obj⟩) (rt := w) (m := m) ⟨w.gen, 2 + k, w.cl, A⟩ hR hx hl hs) ?_
 rintro v' L' ⟨rfl, rfl⟩
 dsimp only
 by_cases he : m.at_ (x.root + slot) = was
 ·rw [decide_eq_true he]
  rw [if_pos he] at hr
  subst hr
  rw [show m.cas (x.root + slot) was (Rt.w ⟨w.gen, 2 + k, w.cl, A⟩) = m.put (x.root + slot) (Rt.w ⟨w.gen, 2 + k, w.cl, A⟩) by unfold Mm.cas; rw [if_pos he]]
  refine go ?_
  refine Cx.orde rfl (by kernel_rfl) ?_
  refine ge ?_
  refine Ev.caH (by kernel_rfl) rfl rfl (alCloseC (b := b) (g := g) (u := u) (mp := mp) (pb := pb) (x := x) (slot := slot) (gen := gen) (n := n) (v := ⟨cn, -1, zat, asked, ends, need, point, was, code, obj⟩) (rt := w) (S := S) 0 ⟨slot, gen, k, 0, n⟩ t rfl (by show (-1 : Int) ≤ -1; omega) hb hm0 hm2 hw.symm) (Pres.deps (by kernel_rfl)) ?_
  rintro v' L' rfl
  refine ge ?_
  refine Kr.none (.inl rfl) ?_ rfl
  exact ent
 ·rw [decide_eq_false he]
  rw [if_neg he] at hr
  subst hr
  rw [show m.cas (x.root + slot) was (Rt.w ⟨w.gen, 2 + k, w.cl, A⟩) = m.tick by unfold Mm.cas; rw [if_neg he]]
  refine go ?_
  refine Sx.ca rfl (machGo (b := b)) ?_
  rintro v' L' ⟨rfl, rfl⟩
  refine go ?_
  refine Kr.none (.inr rfl) ?_ rfl
  refine Ent.trans (Ent.take (a := some ⟨b, 0, none⟩)) ?_
  refine Ent.trans (AlO.closeS (v := ⟨cn, k, zat, asked, ends, need, point, was, code, obj⟩) (rt := w) ⟨0, ⟨cn, k, zat, asked, ends, need, point, was, code, obj⟩, t, gNone, false⟩ rfl rfl rfl rfl rfl rfl hw.symm) (Ent.cons ?_)
  exact ent
end
end Go.Proofs.YtflalhdofhobmaaGreat


namespace Go.Proofs.YtflalhdofhobmaaGreat
open Go
attribute [local irreducible] Sx Cx Rx Fx Krg Ksq Kbl Klp Kr
structure AlOk (x : Cn) (a : AlS) : Prop where
 o0 : a.at_ ≤ 6
 o1 : a.v.cnt ≤ 1000000
 o2 : -1 ≤ a.v.hand
 o3 : a.v.hand < x.c
 o4 : (rtOf a.v.was).ok
 o5 : a.at_ = 1 → (rtOf a.v.was).off + a.v.need ≤ x.wd
 o6 : a.at_ = 5 → 1 ≤ a.v.need ∧ a.v.need ≤ x.wd
 o7 : a.at_ = 3 ∨ a.at_ = 4 ∨ a.at_ = 5 → 0 ≤ a.v.hand
 o8 : a.at_ = 3 → a.v.zat < x.wd
 o9 : a.at_ = 2 → a.t.ok
section
variable {L F G : St}
set_option maxHeartbeats 4000000 in
theorem alStepC {b g u mp pb : Nat} {x : Cn} {slot : Nat} {gen : Int} {n : Nat} {S : SupS} {m : Mm} {a : AlS} {F1 F2 F3 F4 : St} (hx : x.ok) (hl : x.len ≤ m.ws.length) (hs : slot < x.sl) (hn : 1 ≤ n) (hn2 : n ≤ x.wd) (hw8 : x.wd % 8 = 0)
  (hok : (rtOf (m.at_ (x.root + slot))).ok) (hb : S.xs.length + S.lm.size ≤ 1000000) (hm0 : 0 ≤ S.most) (hm2 : S.most ≤ 64) (ha : a.done = false → AlOk x a)
  [t1 : Take L (some ⟨b, 0, none⟩) (AlO g u pb x slot gen n a) F1] [t2 : Take F1 (some ⟨u, 0, none⟩) (SupO mp pb x S) F2] [t3 : Take F2 (some ⟨mp, 0, none⟩) (MemO m) F3] [t4 : Take F3 (some ⟨pb, 0, none⟩) (SkO mp x.pool) F4] [t5 : Take F4 (some ⟨g, 0, none⟩) (GrO mp x) G] :
  Fx Tryz.prog 26 [.pointer (some ⟨b, 0, none⟩)] L
   (fun v L' => v = .bool (!a.done) ∧ L' = pt (some ⟨b, 0, none⟩) (AlO g u pb x slot gen n (alStep (x.al slot gen n) m S a).2.2) :: pt (some ⟨u, 0, none⟩) (SupO mp pb x (alStep (x.al slot gen n) m S a).2.1) :: pt (some ⟨mp, 0, none⟩) (MemO (alStep (x.al slot gen n) m S a).1) :: F3) := by
 have hback : Ent (pt (some ⟨pb, 0, none⟩) (SkO mp x.pool) :: pt (some ⟨g, 0, none⟩) (GrO mp x) :: G) F3 := Ent.trans (Ent.cons (Ent.of t5.back)) (Ent.of t4.back)
 refine Fx.mk Tryz.func26 k26 (Nat.le_of_ble_eq_true rfl) ?_
 dsimp only [c26, envOf, Nat.reduceAdd]
 refine Cx.ent (Ent.trans (Ent.of t1.out) (Ent.cons (Ent.trans (Ent.of t2.out) (Ent.cons (Ent.trans (Ent.of t3.out) (Ent.cons (Ent.trans (Ent.of t4.out) (Ent.cons (Ent.of t5.out))))))))) ?_
 refine Cx.pure (memKey (b := mp) (m := m)) fun hm => ?_
 cases hd : a.done with
 | true =>
   have e1 : alStep (x.al slot gen n) m S a = (m, S, a) := by unfold alStep; rw [hd]; rfl
   rw [e1]
   refine Cx.openp (a := some ⟨b, 0, none⟩) (AlO.dd_ hd) ?_
   rintro ⟨q, n1, n2, n3, tp⟩
   simp only [alDL, List.cons_append, List.nil_append]
   refine go ?_
   refine Sx.ca rfl (machStepDone (b := b)) ?_
   rintro v' L' ⟨rfl, rfl⟩
   refine go ?_
   exact Kr.one (.inr rfl) rfl (Ent.trans (AlO.closeD (v := a.v) (rt := rtOf a.v.was) a hd rfl rfl rfl rfl) (Ent.cons (Ent.cons (Ent.cons hback)))) ⟨rfl, rfl⟩
 | false =>
   obtain ⟨k0, k1, k2, k3, k4, k5, k6, k7, k8, k9⟩ := ha hd
   rcases (show a.at_ = 0 ∨ a.at_ = 1 ∨ a.at_ = 2 ∨ a.at_ = 3 ∨ a.at_ = 4 ∨ a.at_ = 5 ∨ a.at_ = 6 by omega) with h0 | h0 | h0 | h0 | h0 | h0 | h0
   ·refine Cx.openp (a := some ⟨b, 0, none⟩) (AlO.ss_ hd (by omega) (by omega)) ?_
    rintro ⟨n1, n2, n3, tp⟩
    simp only [alSL, List.cons_append, List.nil_append]
    rw [show alFn a.at_ = 80 by rw [h0]; rfl]
    have e1 : alStep (x.al slot gen n) m S a = (m.tick, alSeen (x.al slot gen n) S { a.v with cnt := a.v.cnt + 1, was := m.at_ (x.root + slot) } a.t) := by unfold alStep; rw [hd, h0]; rfl
    rw [e1]
    refine go ?_
    refine Sx.ca rfl (machStep (b := b) (by kernel_rfl) (alLook_ (b := b) (g := g) (u := u) (mp := mp) (pb := pb) (x := x) (slot := slot) (gen := gen) (n := n) (v := { a.v with cnt := a.v.cnt + 1 }) (S := S) (m := m) a.t (cntW k1) hx hm.1 hl hs hn hn2 hw8 k2 hok hb hm0 hm2)) ?_
    rintro v' L' ⟨rfl, w, rfl⟩
    refine go ?_
    exact Kr.one (.inr rfl) rfl (Ent.cons (Ent.cons (Ent.cons hback))) ⟨rfl, rfl⟩
   ·refine Cx.openp (a := some ⟨b, 0, none⟩) (AlO.ss_ hd (by omega) (by omega)) ?_
    rintro ⟨n1, n2, n3, tp⟩
    simp only [alSL, List.cons_append, List.nil_append]
    rw [show alFn a.at_ = 156 by rw [h0]; rfl]
    refine go ?_
    refine Sx.ca rfl (machStep (b := b) (by kernel_rfl) (alFit_ (b := b) (g := g) (u := u) (mp := mp) (pb := pb) (x := x) (slot := slot) (gen := gen) (n := n) (v := { a.v with cnt := a.v.cnt + 1 }) (S := S) (m := m) a.t (alStep (x.al slot gen n) m S a) (cntW k1) hx hl hs k2 k4 (k5 h0) (by omega) hm0 hm2
     (by unfold alStep; rw [hd, h0]; simp only [Bool.false_eq_true, if_false]))) ?_
    rintro v' L' ⟨rfl, w, rfl⟩
    refine go ?_
    exact Kr.one (.inr rfl) rfl (Ent.cons (Ent.cons (Ent.cons hback))) ⟨rfl, rfl⟩
   ·refine Cx.openp (a := some ⟨b, 0, none⟩) (AlO.tt_ hd h0) ?_
    intro q
    simp only [alTL, List.cons_append, List.nil_append]
    obtain ⟨T, hT⟩ : ∃ T, takeStep x.pool x.ba m S a.t = T := ⟨_, rfl⟩
    have htok := takeStep_ok (k := x.pool) (ba := x.ba) (m := m) (s := S) (k9 h0)
    have hts := takeStepC (b := q) (u := u) (mp := mp) (pb := pb) (x := x) (s := S) (m := m) (t := a.t) hx hl (k9 h0) hb
     (L := pt (some ⟨b, 0, none⟩) (Blk 152 (alF .nilFunc (mth 159 q) (mth 160 q) (mth 161 b) g u slot gen n (IntKind.i64.wrap ((a.v.cnt : Int) + 1)) a.v (rtOf a.v.was) (.pointer (some ⟨q, 0, none⟩)) (.pointer none))) :: pt (some ⟨q, 0, none⟩) (TakeO u pb x.pool a.t) :: pt (some ⟨u, 0, none⟩) (SupO mp pb x S) :: pt (some ⟨mp, 0, none⟩) (MemO m) :: pt (some ⟨pb, 0, none⟩) (SkO mp x.pool) :: pt (some ⟨g, 0, none⟩) (GrO mp x) :: G)
    rw [hT] at hts htok
    cases hq : T.2.2.done with
    | true =>
      have e1 : alStep (x.al slot gen n) m S a = (T.1, T.2.1, alTaken { a.v with cnt := a.v.cnt + 1 } T.2.2) := by unfold alStep; rw [hd, h0]; simp only [Bool.false_eq_true, if_false, hT, hq, if_true]
      rw [e1]
      refine go ?_
      refine Sx.ca rfl (machStep (b := b) (by kernel_rfl) (machGoes (b := b) (by kernel_rfl) hts
       (R2 := fun v L' => v = .tuple #[] ∧ ∃ w : Value, L' = pt (some ⟨b, 0, none⟩) (AlO g u pb x slot gen n (alTaken { a.v with cnt := a.v.cnt + 1 } T.2.2)) :: pt (some ⟨u, 0, none⟩) (SupO mp pb x T.2.1) :: pt (some ⟨mp, 0, none⟩) (MemO T.1) :: pt (some ⟨pb, 0, none⟩) (SkO mp x.pool) :: pt (some ⟨g, 0, none⟩) (GrO mp x) :: G) ?_)) ?_
      ·rintro v L1 ⟨rfl, rfl⟩
       have hon := machOnYes (b := b) (by kernel_rfl) (fd := 160) (ft := 161) (w := .pointer (some ⟨q, 0, none⟩)) (u := .pointer (some ⟨b, 0, none⟩))
        (L := pt (some ⟨q, 0, none⟩) (TakeO u pb x.pool T.2.2) :: pt (some ⟨u, 0, none⟩) (SupO mp pb x T.2.1) :: pt (some ⟨mp, 0, none⟩) (MemO T.1) :: pt (some ⟨b, 0, none⟩) (Blk 152 (alF .nilFunc (mth 159 q) (mth 160 q) (mth 161 b) g u slot gen n (IntKind.i64.wrap ((a.v.cnt : Int) + 1)) a.v (rtOf a.v.was) (.pointer (some ⟨q, 0, none⟩)) (.pointer none))) :: pt (some ⟨pb, 0, none⟩) (SkO mp x.pool) :: pt (some ⟨g, 0, none⟩) (GrO mp x) :: G)
        ((takeDone (b := q) (u := u) (pb := pb) (k := x.pool) (t := T.2.2) htok).mono (by rintro v L' ⟨rfl, rfl⟩; exact ⟨by rw [hq], rfl⟩)) (by kernel_rfl)
        (Fx.ent (M := alB b .nilFunc (mth 159 q) (mth 160 q) (mth 161 b) g u slot gen n (IntKind.i64.wrap ((a.v.cnt : Int) + 1)) { a.v with cnt := a.v.cnt + 1 } (rtOf a.v.was) (.pointer (some ⟨q, 0, none⟩)) (.pointer none) :: pt (some ⟨q, 0, none⟩) (TakeO u pb x.pool T.2.2) :: pt (some ⟨u, 0, none⟩) (SupO mp pb x T.2.1) :: pt (some ⟨mp, 0, none⟩) (MemO T.1) :: pt (some ⟨pb, 0, none⟩) (SkO mp x.pool) :: pt (some ⟨g, 0, none⟩) (GrO mp x) :: G) (by exact ent)
         (alTaken_ (b := b) (q := q) (g := g) (u := u) (pb := pb) (x := x) (slot := slot) (gen := gen) (n := n) (v := { a.v with cnt := a.v.cnt + 1 }) (t := T.2.2) (cntW k1) htok))
       refine hon.mono ?_
       rintro v L' ⟨rfl, w, rfl⟩
       exact ⟨rfl, .tuple #[], rfl⟩
      ·rintro v L' ⟨rfl, w, _, w2, _, w3, rfl⟩
       refine go ?_
       exact Kr.one (.inr rfl) rfl (Ent.cons (Ent.cons (Ent.cons hback))) ⟨rfl, rfl⟩
    | false =>
      have e1 : alStep (x.al slot gen n) m S a = (T.1, T.2.1, ⟨2, { a.v with cnt := a.v.cnt + 1 }, T.2.2, gNone, false⟩) := by unfold alStep; rw [hd, h0]; simp only [Bool.false_eq_true, if_false, hT, hq]
      rw [e1]
      refine go ?_
      refine Sx.ca rfl (machStep (b := b) (by kernel_rfl) (machGoes (b := b) (by kernel_rfl) hts
       (R2 := fun v L' => v = .tuple #[] ∧ L' = alB b (mth 232 b) (mth 159 q) (mth 160 q) (mth 161 b) g u slot gen n (IntKind.i64.wrap ((a.v.cnt : Int) + 1)) a.v (rtOf a.v.was) (.pointer (some ⟨q, 0, none⟩)) (.pointer none) :: pt (some ⟨q, 0, none⟩) (TakeO u pb x.pool T.2.2) :: pt (some ⟨u, 0, none⟩) (SupO mp pb x T.2.1) :: pt (some ⟨mp, 0, none⟩) (MemO T.1) :: pt (some ⟨pb, 0, none⟩) (SkO mp x.pool) :: pt (some ⟨g, 0, none⟩) (GrO mp x) :: G) ?_)) ?_
      ·rintro v L1 ⟨rfl, rfl⟩
       refine (machOnNo (b := b) (by kernel_rfl) ((takeDone (b := q) (u := u) (pb := pb) (k := x.pool) (t := T.2.2) htok).mono (by rintro v L' ⟨rfl, rfl⟩; exact ⟨by rw [hq], rfl⟩))).mono ?_
       rintro v L' ⟨rfl, rfl⟩
       exact ⟨rfl, rfl⟩
      ·rintro v L' ⟨rfl, w, _, w2, _, rfl⟩
       refine go ?_
       refine Kr.one (.inr rfl) rfl ?_ ⟨rfl, rfl⟩
       refine Ent.trans (AlO.closeT (v := a.v) (rt := rtOf a.v.was) ⟨2, { a.v with cnt := a.v.cnt + 1 }, T.2.2, gNone, false⟩ rfl rfl (cntW k1) rfl rfl rfl) (Ent.cons ?_)
       exact Ent.cons (Ent.cons hback)
   ·refine Cx.openp (a := some ⟨b, 0, none⟩) (AlO.ss_ hd (by omega) (by omega)) ?_
    rintro ⟨n1, n2, n3, tp⟩
    simp only [alSL, List.cons_append, List.nil_append]
    rw [show alFn a.at_ = 221 by rw [h0]; rfl]
    obtain ⟨k, hk⟩ : ∃ k : Nat, a.v.hand = k := ⟨a.v.hand.toNat, by have := k7 (.inl h0); omega⟩
    have e1 : alStep (x.al slot gen n) m S a = (m.put (x.word + k * x.wd + a.v.zat) 0, S, ⟨if a.v.zat + 1 < x.wd then 3 else 4, { a.v with cnt := a.v.cnt + 1, zat := a.v.zat + 1 }, a.t, gNone, false⟩) := by unfold alStep; rw [hd, h0]; simp only [Bool.false_eq_true, if_false, hk, Int.toNat_natCast]
    rw [e1]
    refine go ?_
    refine Sx.ca rfl (machStep (b := b) (by kernel_rfl) (alClear_ (b := b) (g := g) (u := u) (mp := mp) (pb := pb) (x := x) (slot := slot) (gen := gen) (n := n) (v := { a.v with cnt := a.v.cnt + 1 }) (S := S) (m := m) a.t k (cntW k1) hx hl hk (by omega) (k8 h0))) ?_
    rintro v' L' ⟨rfl, w, rfl⟩
    refine go ?_
    exact Kr.one (.inr rfl) rfl (Ent.cons (Ent.cons (Ent.cons hback))) ⟨rfl, rfl⟩
   ·refine Cx.openp (a := some ⟨b, 0, none⟩) (AlO.ss_ hd (by omega) (by omega)) ?_
    rintro ⟨n1, n2, n3, tp⟩
    simp only [alSL, List.cons_append, List.nil_append]
    rw [show alFn a.at_ = 157 by rw [h0]; rfl]
    obtain ⟨k, hk⟩ : ∃ k : Nat, a.v.hand = k := ⟨a.v.hand.toNat, by have := k7 (.inr (.inl h0)); omega⟩
    have e1 : alStep (x.al slot gen n) m S a = (m.put (x.link + k) ((rtOf a.v.was).chunk + 1).toNat, S, ⟨5, { a.v with cnt := a.v.cnt + 1 }, a.t, gNone, false⟩) := by unfold alStep; rw [hd, h0]; simp only [Bool.false_eq_true, if_false, hk, Int.toNat_natCast]; rfl
    rw [e1]
    refine go ?_
    refine Sx.ca rfl (machStep (b := b) (by kernel_rfl) (alLink_ (b := b) (g := g) (u := u) (mp := mp) (pb := pb) (x := x) (slot := slot) (gen := gen) (n := n) (v := { a.v with cnt := a.v.cnt + 1 }) (S := S) (m := m) a.t k (cntW k1) hx hl hk (by omega))) ?_
    rintro v' L' ⟨rfl, w, rfl⟩
    refine go ?_
    exact Kr.one (.inr rfl) rfl (Ent.cons (Ent.cons (Ent.cons hback))) ⟨rfl, rfl⟩
   ·refine Cx.openp (a := some ⟨b, 0, none⟩) (AlO.ss_ hd (by omega) (by omega)) ?_
    rintro ⟨n1, n2, n3, tp⟩
    simp only [alSL, List.cons_append, List.nil_append]
    rw [show alFn a.at_ = 215 by rw [h0]; rfl]
    obtain ⟨k, hk⟩ : ∃ k : Nat, a.v.hand = k := ⟨a.v.hand.toNat, by have := k7 (.inr (.inr h0)); omega⟩
    refine go ?_
    refine Sx.ca rfl (machStep (b := b) (by kernel_rfl) (alLead_ (b := b) (g := g) (u := u) (mp := mp) (pb := pb) (x := x) (slot := slot) (gen := gen) (n := n) (v := { a.v with cnt := a.v.cnt + 1 }) (S := S) (m := m) a.t (alStep (x.al slot gen n) m S a) k (cntW k1) hx hl hs hk (by omega) k4 (k6 h0).1 (k6 h0).2 (by omega) hm0 hm2
     (by unfold alStep; rw [hd, h0]; simp only [Bool.false_eq_true, if_false, hk, Int.toNat_natCast]))) ?_
    rintro v' L' ⟨rfl, w, rfl⟩
    refine go ?_
    exact Kr.one (.inr rfl) rfl (Ent.cons (Ent.cons (Ent.cons hback))) ⟨rfl, rfl⟩
   ·refine Cx.openp (a := some ⟨b, 0, none⟩) (AlO.gg_ hd h0) ?_
    rintro ⟨q, tp⟩
    simp only [alGL, List.cons_append, List.nil_append]
    have hk := hx.pool (n := m.ws.length) hl hm.2
    obtain ⟨T, hT⟩ : ∃ T, pushStep x.pool m a.g = T := ⟨_, rfl⟩
    have hts := giveStep (b := q) (mp := mp) (pb := pb) (k := x.pool) (m := m) (p := a.g) hk
     (L := pt (some ⟨b, 0, none⟩) (Blk 152 (alF .nilFunc (mth 208 q) (mth 188 q) (mth 209 b) g u slot gen n (IntKind.i64.wrap ((a.v.cnt : Int) + 1)) a.v (rtOf a.v.was) tp (.pointer (some ⟨q, 0, none⟩)))) :: pt (some ⟨q, 0, none⟩) (GiveO pb x.pool a.g) :: pt (some ⟨u, 0, none⟩) (SupO mp pb x S) :: pt (some ⟨mp, 0, none⟩) (MemO m) :: pt (some ⟨pb, 0, none⟩) (SkO mp x.pool) :: pt (some ⟨g, 0, none⟩) (GrO mp x) :: G)
    have e1 : alStep (x.al slot gen n) m S a = (T.2, S, ⟨6, { a.v with cnt := a.v.cnt + 1 }, a.t, T.1, T.1.done⟩) := by unfold alStep; rw [hd, h0]; simp only [Bool.false_eq_true, if_false, hT]
    rw [hT] at hts
    rw [e1]
    refine go ?_
    cases hq : T.1.done with
    | true =>
      refine Sx.ca rfl (machStep (b := b) (by kernel_rfl) (machGoes (b := b) (by kernel_rfl) hts
       (R2 := fun v L' => v = .tuple #[] ∧ ∃ w : Value, w = .tuple #[] ∧ pt (some ⟨q, 0, none⟩) (GiveO pb x.pool T.1) :: pt (some ⟨mp, 0, none⟩) (MemO T.2) :: pt (some ⟨b, 0, none⟩) (Blk 152 (alF .nilFunc (mth 208 q) (mth 188 q) (mth 209 b) g u slot gen n (IntKind.i64.wrap ((a.v.cnt : Int) + 1)) a.v (rtOf a.v.was) tp (.pointer (some ⟨q, 0, none⟩)))) :: pt (some ⟨u, 0, none⟩) (SupO mp pb x S) :: pt (some ⟨pb, 0, none⟩) (SkO mp x.pool) :: pt (some ⟨g, 0, none⟩) (GrO mp x) :: G = L') ?_)) ?_
      ·rintro v L1 ⟨rfl, rfl⟩
       exact machOnYes (b := b) (by kernel_rfl) ((giveDone (b := q) (pb := pb) (k := x.pool) (p := T.1)).mono (by rintro v L' ⟨rfl, rfl⟩; exact ⟨by rw [hq], rfl⟩)) (by kernel_rfl) alEnd
      ·rintro v L' ⟨rfl, w, _, w2, _, w3, _, rfl⟩
       refine go ?_
       refine Kr.one (.inr rfl) rfl ?_ ⟨rfl, rfl⟩
       refine Ent.trans (Ent.take (a := some ⟨b, 0, none⟩)) ?_
       refine Ent.trans (AlO.closeD (v := a.v) (rt := rtOf a.v.was) ⟨6, { a.v with cnt := a.v.cnt + 1 }, a.t, T.1, true⟩ rfl (cntW k1) rfl rfl rfl) (Ent.cons ?_)
       exact Ent.trans Ent.swap (Ent.cons (Ent.cons hback))
    | false =>
      refine Sx.ca rfl (machStep (b := b) (by kernel_rfl) (machGoes (b := b) (by kernel_rfl) hts
       (R2 := fun v L' => v = .tuple #[] ∧ L' = alB b (mth 232 b) (mth 208 q) (mth 188 q) (mth 209 b) g u slot gen n (IntKind.i64.wrap ((a.v.cnt : Int) + 1)) a.v (rtOf a.v.was) tp (.pointer (some ⟨q, 0, none⟩)) :: pt (some ⟨q, 0, none⟩) (GiveO pb x.pool T.1) :: pt (some ⟨mp, 0, none⟩) (MemO T.2) :: pt (some ⟨u, 0, none⟩) (SupO mp pb x S) :: pt (some ⟨pb, 0, none⟩) (SkO mp x.pool) :: pt (some ⟨g, 0, none⟩) (GrO mp x) :: G) ?_)) ?_
      ·rintro v L1 ⟨rfl, rfl⟩
       refine (machOnNo (b := b) (by kernel_rfl) ((giveDone (b := q) (pb := pb) (k := x.pool) (p := T.1)).mono (by rintro v L' ⟨rfl, rfl⟩; exact ⟨by rw [hq], rfl⟩))).mono ?_
       rintro v L' ⟨rfl, rfl⟩
       exact ⟨rfl, rfl⟩
      ·rintro v L' ⟨rfl, w, _, w2, _, rfl⟩
       refine go ?_
       refine Kr.one (.inr rfl) rfl ?_ ⟨rfl, rfl⟩
       refine Ent.trans (AlO.closeG (v := a.v) (rt := rtOf a.v.was) ⟨6, { a.v with cnt := a.v.cnt + 1 }, a.t, T.1, false⟩ rfl rfl (cntW k1) rfl rfl rfl) (Ent.cons ?_)
       exact Ent.trans Ent.swap (Ent.cons (Ent.cons hback))
end
end Go.Proofs.YtflalhdofhobmaaGreat


namespace Go.Proofs.YtflalhdofhobmaaGreat
open Go
attribute [local irreducible] Sx Cx Rx Fx Krg Ksq Kbl Klp Kr
section
variable {L F G : St}
def allM (x : Cn) : Mm := fillM x.spare (poolM x)
theorem allM_len (x : Cn) : (allM x).ws.length = x.len := by unfold allM; rw [fillM_len, poolM_len]
theorem zeroM_at (x : Cn) (a : Nat) : (zeroM x).at_ a = 0 := by
 unfold zeroM Mm.at_
 rw [List.getD_eq_getElem?_getD, List.getElem?_replicate]
 split <;> rfl
theorem allM_at {x : Cn} (hx : x.ok) {a : Nat} (h0 : a ≠ 0) (h1 : a ≠ 1) (hs : ¬ (x.slot ≤ a ∧ a < x.slot + x.sl)) (hl : ¬ (x.link ≤ a ∧ a < x.link + x.c)) : (allM x).at_ a = 0 := by
 have hlen := hx.len_le
 unfold allM
 rw [(fill_pool (hx.spare (n := x.len) (Nat.le_refl _) hlen) (poolM_len x)).2 a h1 (fun j hj => by have : j < x.sl := hj; show a ≠ x.slot + j; omega)]
 unfold poolM
 rw [(fill_pool (hx.pool (n := x.len) (Nat.le_refl _) hlen) (zeroM_len x)).2 a h0 (fun j hj => by have : j < x.c := hj; show a ≠ x.link + j; omega)]
 exact zeroM_at x a
theorem allM_ok {x : Cn} (hx : x.ok) : (allM x).ok := by
 obtain ⟨b1, b2, b3, b4, b5, b6, b7⟩ := hx.b
 refine fillM_ok (fillM_ok (fun w hw => ?_) (by show x.c ≤ 4096; omega)) (by show x.sl ≤ 4096; omega)
 simp only [zeroM] at hw; rw [List.eq_of_mem_replicate hw]; omega
theorem allM_pool {x : Cn} (hx : x.ok) : Pool x.pool (allM x) (iotaI x.c) := by
 have hlen := hx.len_le
 have hsp := hx.spare (n := x.len) (Nat.le_refl _) hlen
 have h1 := (fill_pool (hx.pool (n := x.len) (Nat.le_refl _) hlen) (zeroM_len x)).1
 have h2 := (fill_pool hsp (poolM_len x)).2
 have g : x.slot + x.sl = x.link := by unfold Cn.slot Cn.link; omega
 have g3 : 3 ≤ x.slot := by unfold Cn.slot; omega
 unfold allM
 refine ⟨?_, h1.nd⟩
 rw [h2 _ (by show (0 : Nat) ≠ 1; omega) (fun j hj => by have : j < x.sl := hj; show 0 ≠ x.slot + j; omega)]
 refine h1.c.congr fun z hz => ?_
 have hz2 := h1.c.mem z hz
 rw [h2 _ (by show x.link + z.toNat ≠ 1; omega) (fun j hj => by have : j < x.sl := hj; show x.link + z.toNat ≠ x.slot + j; omega)]
 rfl
theorem allM_spare {x : Cn} (hx : x.ok) : Pool x.spare (allM x) (iotaI x.sl) := (fill_pool (hx.spare (n := x.len) (Nat.le_refl _) hx.len_le) (poolM_len x)).1
structure Hn where
 a : Nat
 mp : Nat
 ro : Nat
 sp : Nat
 g : Nat
 pb : Nat
 w : Nat
 rm : Nat
 rp : Nat
 rs : Nat
 re : Nat
def updQ (Q : Nat → Who) (i : Nat) (q : Who) : Nat → Who := fun j => if j = i then q else Q j
end
end Go.Proofs.YtflalhdofhobmaaGreat


namespace Go.Proofs.YtflalhdofhobmaaGreat
open Go
attribute [local irreducible] Sx Cx Rx Fx Krg Ksq Kbl Klp Kr
section
variable {L F G : St}
abbrev enF (nx n1 n2 n3 : Value) (r slot : Nat) (gen : Int) (cnt : Int) (was : Nat) (rt : Rt) (code : Nat) (chunk : Int) (point : Nat) : List Value :=
 [nx, n1, n2, n3, .int .i64 cnt, .pointer (some ⟨r, 0, none⟩), .int .i64 (slot : Nat), .int .i64 gen, wd was, .int .i64 (rt.gen : Nat), .int .i64 (rt.mrk : Nat), .int .i64 (rt.cl : Nat), .int .i64 (rt.off : Nat), .int .i64 (code : Nat), .int .i64 chunk, .int .i64 (point : Nat)]
abbrev enB (b : Nat) (nx n1 n2 n3 : Value) (r slot : Nat) (gen : Int) (cnt : Int) (was : Nat) (rt : Rt) (code : Nat) (chunk : Int) (point : Nat) : As := pt (some ⟨b, 0, none⟩) (Blk 173 (enF nx n1 n2 n3 r slot gen cnt was rt code chunk point))
def enL (nx : Value) (T : TypeId) (r slot : Nat) (gen : Int) (e : EndS) (a : Option Addr) (y : Value × Value × Value) : St :=
 [pt a (Blk T (enF nx y.1 y.2.1 y.2.2 r slot gen (e.cnt : Nat) e.was (rtOf e.was) e.code e.chunk e.point))]
def EndT (T : TypeId) (r slot : Nat) (gen : Int) (e : EndS) (a : Option Addr) : As := bif e.done then exs (enL .nilFunc T r slot gen e a) else match e.at_ with
 | 0 => exs (enL (.func (.func 105) #[.pointer a] #[]) T r slot gen e a) | _ => exs (enL (.func (.func 176) #[.pointer a] #[]) T r slot gen e a)
abbrev EndO := EndT 173
section
variable {T : TypeId} {r slot : Nat} {gen : Int} {e : EndS} {a : Option Addr}
theorem EndO.l (h : e.done = false) (h0 : e.at_ = 0) : EndT T r slot gen e a = exs (enL (.func (.func 105) #[.pointer a] #[]) T r slot gen e a) := by unfold EndT; rw [h, h0]; rfl
theorem EndO.c (h : e.done = false) (h0 : e.at_ = 1) : EndT T r slot gen e a = exs (enL (.func (.func 176) #[.pointer a] #[]) T r slot gen e a) := by unfold EndT; rw [h, h0]; rfl
theorem EndO.d (h : e.done = true) : EndT T r slot gen e a = exs (enL .nilFunc T r slot gen e a) := by unfold EndT; rw [h]; rfl
end
section
variable {b r slot was code point : Nat} {gen cnt chunk : Int} {n1 n2 n3 : Value} {rt : Rt}
theorem EndO.closeL (e : EndS) (h : e.done = false) (h0 : e.at_ = 0) (e1 : cnt = (e.cnt : Nat)) (e2 : was = e.was) (e3 : rt = rtOf e.was) (e4 : code = e.code) (e5 : chunk = e.chunk) (e6 : point = e.point) :
  Ent (enB b (mth 105 b) n1 n2 n3 r slot gen cnt was rt code chunk point :: G) (pt (some ⟨b, 0, none⟩) (EndO r slot gen e) :: G) := by
 subst e1 e2 e3 e4 e5 e6
 exact Ent.close (f := enL (mth 105 b) 173 r slot gen e (some ⟨b, 0, none⟩)) (EndO.l h h0) (n1, n2, n3)
theorem EndO.closeC (e : EndS) (h : e.done = false) (h0 : e.at_ = 1) (e1 : cnt = (e.cnt : Nat)) (e2 : was = e.was) (e3 : rt = rtOf e.was) (e4 : code = e.code) (e5 : chunk = e.chunk) (e6 : point = e.point) :
  Ent (enB b (mth 176 b) n1 n2 n3 r slot gen cnt was rt code chunk point :: G) (pt (some ⟨b, 0, none⟩) (EndO r slot gen e) :: G) := by
 subst e1 e2 e3 e4 e5 e6
 exact Ent.close (f := enL (mth 176 b) 173 r slot gen e (some ⟨b, 0, none⟩)) (EndO.c h h0) (n1, n2, n3)
theorem EndO.closeD (e : EndS) (h : e.done = true) (e1 : cnt = (e.cnt : Nat)) (e2 : was = e.was) (e3 : rt = rtOf e.was) (e4 : code = e.code) (e5 : chunk = e.chunk) (e6 : point = e.point) :
  Ent (enB b .nilFunc n1 n2 n3 r slot gen cnt was rt code chunk point :: G) (pt (some ⟨b, 0, none⟩) (EndO r slot gen e) :: G) := by
 subst e1 e2 e3 e4 e5 e6
 exact Ent.close (f := enL .nilFunc 173 r slot gen e (some ⟨b, 0, none⟩)) (EndO.d h) (n1, n2, n3)
end
structure EndS.ok (e : EndS) : Prop where
 a : e.at_ ≤ 1
 w : e.was < 18446744073709551616
 g : e.at_ = 1 → (rtOf e.was).mrk ≤ 4097
 n : e.cnt ≤ 1000000
theorem rootsIs {g mp sb : Nat} {x : Cn} (s : Int) [c : Take L (some ⟨g, 0, none⟩) (RoO mp sb x) F] :
  Fx Tryz.prog 104 [.pointer (some ⟨g, 0, none⟩), .int .i64 s] L (fun v L' => v = .bool (decide (0 ≤ s ∧ s < x.sl)) ∧ L = L') := by
 refine Fx.kept (t := c) ?_
 refine Fx.mk Tryz.func104 k104 (Nat.le_of_ble_eq_true rfl) ?_
 dsimp only [c104, envOf, Nat.reduceAdd]
 refine Cx.ent (Ent.of c.out) ?_
 refine go ?_
 by_cases h0 : 0 ≤ s
 ·refine Sx.gyes rfl (decide_eq_true h0) ?_
  refine go ?_
  refine Kr.one (.inr rfl) rfl (Ent.refl _) ⟨?_, rfl⟩
  congr 1
  exact decide_eq_decide.2 ⟨fun h => ⟨h0, h⟩, fun h => h.2⟩
 ·refine Sx.gno rfl (decide_eq_false h0) ?_
  refine go ?_
  refine Kr.one (.inr rfl) rfl (Ent.refl _) ⟨?_, rfl⟩
  rw [decide_eq_false (fun h => h0 h.1)]
theorem rootsEnd {g mp sb : Nat} {x : Cn} (slot : Nat) (gen : Int) (hs : slot < x.sl) [c : Take L (some ⟨g, 0, none⟩) (RoO mp sb x) F] :
  Fx Tryz.prog 35 [.pointer (some ⟨g, 0, none⟩), .int .i64 slot, .int .i64 gen] L (fun v L' => ∃ b, v = .tuple #[.pointer (some ⟨b, 0, none⟩), .int .i64 0] ∧ L' = pt (some ⟨b, 0, none⟩) (EndO g slot gen EndS.init) :: L) := by
 refine Fx.mk Tryz.func35 k35 (Nat.le_of_ble_eq_true rfl) ?_
 dsimp only [c35, envOf, Nat.reduceAdd]
 refine go ?_
 refine Sx.ca rfl (rootsIs (g := g) (mp := mp) (sb := sb) (x := x) (slot : Int)) ?_
 rintro v L' ⟨rfl, rfl⟩
 rw [decide_eq_true (show (0 : Int) ≤ slot ∧ (slot : Int) < x.sl by omega)]
 refine go ?_
 refine Sx.bx rfl rfl fun b => ?_
 refine Sx.re (enF .nilFunc .nilFunc .nilFunc .nilFunc g slot gen 0 0 (rtOf 0) 0 (-1) 0) rfl ?_
 refine go ?_
 refine Sx.ca rfl (machGo (b := b)) ?_
 rintro v L' ⟨rfl, rfl⟩
 refine go ?_
 refine Kr.two (.inr rfl) rfl rfl ?_ ⟨b, rfl, rfl⟩
 exact EndO.closeL (b := b) (r := g) (slot := slot) (gen := gen) (rt := rtOf 0) EndS.init rfl rfl rfl rfl rfl rfl rfl rfl
theorem endLoad_ {b r mp sp slot : Nat} {gen : Int} {x : Cn} {m : Mm} {e : EndS} {n1 n2 n3 : Value} {cnt : Int} (hcnt : cnt = ((e.cnt + 1 : Nat) : Int)) (hd : e.done = false) (hx : x.ok) (hm : m.ok) (hl : x.len ≤ m.ws.length) (hs : slot < x.sl) :
  Fx Tryz.prog 105 [.pointer (some ⟨b, 0, none⟩)] (enB b .nilFunc n1 n2 n3 r slot gen cnt e.was (rtOf e.was) e.code e.chunk e.point :: pt (some ⟨r, 0, none⟩) (RoO mp sp x) :: pt (some ⟨mp, 0, none⟩) (MemO m) :: G)
   (fun v L' => L' = pt (some ⟨b, 0, none⟩) (EndO r slot gen (if (rtOf (m.at_ (x.root + slot))).live gen then { e with cnt := e.cnt + 1, was := m.at_ (x.root + slot), at_ := 1 } else { e with cnt := e.cnt + 1, was := m.at_ (x.root + slot), code := 3, point := e.cnt + 1, done := true })) :: pt (some ⟨mp, 0, none⟩) (MemO m.tick) :: pt (some ⟨r, 0, none⟩) (RoO mp sp x) :: G) := by
 subst hcnt
 have hwl := Mm.at_lt hm (x.root + slot)
 refine Fx.mk Tryz.func105 k105 (Nat.le_of_ble_eq_true rfl) ?_
 dsimp only [c105, envOf, Nat.reduceAdd]
 refine Cx.sq ?_
 refine Cx.ordc rfl (by kernel_rfl) ?_
 refine ge ?_
 refine Ev.caH (by kernel_rfl) rfl rfl (rootsLoad (g := r) (mp := mp) (sb := sp) (x := x) (m := m) slot hs hx hm hl) (Pres.deps (by kernel_rfl)) ?_
 rintro v L' ⟨rfl, rfl⟩
 obtain ⟨W, hW⟩ : ∃ W, m.at_ (x.root + slot) = W := ⟨_, rfl⟩
 rw [hW] at hwl ⊢
 refine ge ?_
 refine Ev.stbH (b := b) (by kernel_rfl) rfl rfl rfl rfl rfl (by rfl) rfl (.keep (fun v L' ⟨_, e⟩ => by subst e; exact Has.cell rfl) (.keep (fun v L' ⟨_, e⟩ => by subst e; exact Has.cell rfl) .nil)) ?_
 refine ge ?_
 refine Ev.stnH (b := b) (enF .nilFunc n1 n2 n3 r slot gen ((e.cnt + 1 : Nat) : Int) W (rtOf W) e.code e.chunk e.point) (by kernel_rfl) rfl rfl rfl rfl rfl rfl rfl rfl (Pres.deps (by kernel_rfl)) ?_
 refine ge ?_
 refine Cx.sq ?_
 refine Cx.sq ?_
 refine Cx.ordc rfl (by kernel_rfl) ?_
 refine ge ?_
 refine Ev.cakH (by kernel_rfl) rfl rfl (wordLive (rtOf W) gen) ?_
 refine ge ?_
 by_cases hlive : (rtOf W).live gen
 case neg =>
  rw [decide_eq_false hlive, if_neg hlive]
  refine go ?_
  refine Sx.ca rfl (machCount (b := b)) ?_
  rintro v' L' ⟨rfl, rfl⟩
  refine go ?_
  refine Kr.none (.inr rfl) ?_ rfl
  refine Ent.trans (Ent.take (a := some ⟨b, 0, none⟩)) ?_
  refine Ent.trans (EndO.closeD (rt := rtOf W) { e with cnt := e.cnt + 1, was := W, code := 3, point := e.cnt + 1, done := true } rfl rfl rfl rfl rfl rfl rfl) (Ent.cons ?_)
  exact ent
 case pos =>
  rw [decide_eq_true hlive, if_pos hlive]
  refine go ?_
  refine Sx.ca rfl (machGo (b := b)) ?_
  rintro v' L' ⟨rfl, rfl⟩
  refine go ?_
  refine Kr.none (.inl rfl) ?_ rfl
  refine Ent.trans (Ent.take (a := some ⟨b, 0, none⟩)) ?_
  refine Ent.trans (EndO.closeC (rt := rtOf W) { e with cnt := e.cnt + 1, was := W, at_ := 1 } hd rfl rfl rfl rfl rfl rfl rfl) (Ent.cons ?_)
  exact ent
theorem endCas_ {b r mp sp slot : Nat} {gen : Int} {x : Cn} {m : Mm} {e : EndS} {n1 n2 n3 : Value} {cnt : Int} (hcnt : cnt = ((e.cnt + 1 : Nat) : Int)) (hd : e.done = false) (h1 : e.at_ = 1) (hx : x.ok) (hl : x.len ≤ m.ws.length) (hs : slot < x.sl) (hw : e.was < 18446744073709551616) :
  Fx Tryz.prog 176 [.pointer (some ⟨b, 0, none⟩)] (enB b .nilFunc n1 n2 n3 r slot gen cnt e.was (rtOf e.was) e.code e.chunk e.point :: pt (some ⟨r, 0, none⟩) (RoO mp sp x) :: pt (some ⟨mp, 0, none⟩) (MemO m) :: G)
   (fun v L' => L' = pt (some ⟨b, 0, none⟩) (EndO r slot gen (if m.at_ (x.root + slot) = e.was then { e with cnt := e.cnt + 1, chunk := (rtOf e.was).chunk, point := e.cnt + 1, done := true } else { e with cnt := e.cnt + 1, at_ := 0 })) :: pt (some ⟨mp, 0, none⟩) (MemO (m.cas (x.root + slot) e.was (Rt.w ⟨(rtOf e.was).gen, 0, 0, 0⟩))) :: pt (some ⟨r, 0, none⟩) (RoO mp sp x) :: G) := by
 subst hcnt
 have hsz : x.root + x.sl ≤ x.len := by unfold Cn.root Cn.len; omega
 have hR : Rt.ok ⟨(rtOf e.was).gen, 0, 0, 0⟩ := ⟨rtOf_gen hw, by show 0 ≤ 4097; omega, by show 0 ≤ 3; omega, by show 0 ≤ 1024; omega⟩
 refine Fx.mk Tryz.func176 k176 (Nat.le_of_ble_eq_true rfl) ?_
 dsimp only [c176, envOf, Nat.reduceAdd]
 refine go ?_
 refine Sx.ca (vs := [rtV ⟨(rtOf e.was).gen, 0, 0, 0⟩]) rfl (putRoot ⟨(rtOf e.was).gen, 0, 0, 0⟩ hR) ?_
 rintro v L' ⟨rfl, rfl⟩
 refine go ?_
 refine Cx.ordc rfl (by kernel_rfl) ?_
 refine ge ?_
 refine Ev.cakH (by kernel_rfl) rfl rfl (layRootN hx slot hs) ?_
 refine ge ?_
 refine Ev.caH (by kernel_rfl) rfl rfl (cellsCas (b := mp) (m := m) (x.root + slot) e.was (Rt.w ⟨(rtOf e.was).gen, 0, 0, 0⟩) (by omega) (Rt.w_lt hR)) (Pres.deps (by kernel_rfl)) ?_
 rintro v L' ⟨rfl, rfl⟩
 refine ge ?_
 refine go ?_
 by_cases hc : m.at_ (x.root + slot) = e.was
 case neg =>
  rw [decide_eq_false hc, if_neg hc]
  refine go ?_
  refine Sx.ca rfl (machGo (b := b)) ?_
  rintro v' L' ⟨rfl, rfl⟩
  refine go ?_
  refine Kr.none (.inr rfl) ?_ rfl
  refine Ent.trans (Ent.take (a := some ⟨b, 0, none⟩)) ?_
  refine Ent.trans (EndO.closeL (rt := rtOf e.was) { e with cnt := e.cnt + 1, at_ := 0 } hd rfl rfl rfl rfl rfl rfl rfl) (Ent.cons ?_)
  exact ent
 case pos =>
  rw [decide_eq_true hc, if_pos hc]
  refine go ?_
  refine Cx.orde rfl (by kernel_rfl) ?_
  refine ge ?_
  refine Ev.cakH (by kernel_rfl) rfl rfl (wordChunk (rtOf e.was) (rtOf_mrk _)) ?_
  refine ge ?_
  refine Ev.cakH (by kernel_rfl) rfl rfl (machCount (b := b)) ?_
  refine ge ?_
  refine Ev.stbH (b := b) (by kernel_rfl) rfl rfl rfl rfl rfl (by rfl) rfl (.keep (fun v L' ⟨_, e⟩ => by subst e; exact machCount (b := b)) (.dep rfl (.dep rfl .nil))) ?_
  refine ge ?_
  refine Ev.stbH (b := b) (by kernel_rfl) rfl rfl rfl rfl rfl (by rfl) rfl (Pres.deps (by kernel_rfl)) ?_
  refine ge ?_
  refine Kr.none (.inl rfl) ?_ rfl
  refine Ent.trans (Ent.take (a := some ⟨b, 0, none⟩)) ?_
  refine Ent.trans (EndO.closeD (rt := rtOf e.was) { e with cnt := e.cnt + 1, chunk := (rtOf e.was).chunk, point := e.cnt + 1, done := true } rfl rfl rfl rfl rfl rfl rfl) (Ent.cons ?_)
  exact ent
theorem endStepC {b r mp sp slot : Nat} {gen : Int} {x : Cn} {m : Mm} {e : EndS} {F1 F2 : St} (hx : x.ok) (hl : x.len ≤ m.ws.length) (hs : slot < x.sl) (he : e.ok)
  [t1 : Take L (some ⟨b, 0, none⟩) (EndO r slot gen e) F1] [t2 : Take F1 (some ⟨mp, 0, none⟩) (MemO m) F2] [t3 : Take F2 (some ⟨r, 0, none⟩) (RoO mp sp x) G] :
  Fx Tryz.prog 32 [.pointer (some ⟨b, 0, none⟩)] L
   (fun v L' => v = .bool (!e.done) ∧ L' = pt (some ⟨b, 0, none⟩) (EndO r slot gen (endStep (x.root + slot) gen m e).1) :: pt (some ⟨mp, 0, none⟩) (MemO (endStep (x.root + slot) gen m e).2) :: F2) := by
 have hback : Ent (pt (some ⟨r, 0, none⟩) (RoO mp sp x) :: G) F2 := Ent.of t3.back
 obtain ⟨ha, hw, hg, hn⟩ := he
 refine Fx.mk Tryz.func32 k32 (Nat.le_of_ble_eq_true rfl) ?_
 dsimp only [c32, envOf, Nat.reduceAdd]
 refine Cx.ent (Ent.trans (Ent.of t1.out) (Ent.cons (Ent.trans (Ent.of t2.out) (Ent.cons (Ent.of t3.out))))) ?_
 refine Cx.pure (memKey (b := mp) (m := m)) fun hm => ?_
 cases hd : e.done with
 | true =>
   have e1 : endStep (x.root + slot) gen m e = (e, m) := by unfold endStep; rw [hd]; rfl
   rw [e1]
   refine Cx.openp (a := some ⟨b, 0, none⟩) (EndO.d hd) ?_
   rintro ⟨n1, n2, n3⟩
   simp only [enL, List.cons_append, List.nil_append]
   refine go ?_
   refine Sx.ca rfl (machStepDone (b := b)) ?_
   rintro v L' ⟨rfl, rfl⟩
   refine go ?_
   exact Kr.one (.inr rfl) rfl (Ent.trans (EndO.closeD e hd rfl rfl rfl rfl rfl rfl) (Ent.cons (Ent.cons hback))) ⟨rfl, rfl⟩
 | false =>
   rcases (show e.at_ = 0 ∨ e.at_ = 1 by omega) with h0 | h0
   ·refine Cx.openp (a := some ⟨b, 0, none⟩) (EndO.l hd h0) ?_
    rintro ⟨n1, n2, n3⟩
    simp only [enL, List.cons_append, List.nil_append]
    have e1 : endStep (x.root + slot) gen m e = (if (rtOf (m.at_ (x.root + slot))).live gen then { e with cnt := e.cnt + 1, was := m.at_ (x.root + slot), at_ := 1 } else { e with cnt := e.cnt + 1, was := m.at_ (x.root + slot), code := 3, point := e.cnt + 1, done := true }, m.tick) := by unfold endStep; rw [hd, h0]; rfl
    rw [e1]
    refine Cx.ent (M := enB b (mth 105 b) n1 n2 n3 r slot gen (e.cnt : Nat) e.was (rtOf e.was) e.code e.chunk e.point :: pt (some ⟨r, 0, none⟩) (RoO mp sp x) :: pt (some ⟨mp, 0, none⟩) (MemO m) :: G) (by exact ent) ?_
    refine go ?_
    refine Sx.ca rfl (machStep (b := b) (by kernel_rfl) (endLoad_ (b := b) (r := r) (mp := mp) (sp := sp) (x := x) (m := m) (e := e) (cntW hn) hd hx hm.1 hl hs)) ?_
    rintro v L' ⟨rfl, w, rfl⟩
    refine go ?_
    exact Kr.one (.inr rfl) rfl (Ent.cons (Ent.cons hback)) ⟨rfl, rfl⟩
   ·refine Cx.openp (a := some ⟨b, 0, none⟩) (EndO.c hd h0) ?_
    rintro ⟨n1, n2, n3⟩
    simp only [enL, List.cons_append, List.nil_append]
    have e1 : endStep (x.root + slot) gen m e = (if m.at_ (x.root + slot) = e.was then { e with cnt := e.cnt + 1, chunk := (rtOf e.was).chunk, point := e.cnt + 1, done := true } else { e with cnt := e.cnt + 1, at_ := 0 }, m.cas (x.root + slot) e.was (Rt.w ⟨(rtOf e.was).gen, 0, 0, 0⟩)) := by unfold endStep; rw [hd, h0]; rfl
    rw [e1]
    refine Cx.ent (M := enB b (mth 176 b) n1 n2 n3 r slot gen (e.cnt : Nat) e.was (rtOf e.was) e.code e.chunk e.point :: pt (some ⟨r, 0, none⟩) (RoO mp sp x) :: pt (some ⟨mp, 0, none⟩) (MemO m) :: G) (by exact ent) ?_
    refine go ?_
    refine Sx.ca rfl (machStep (b := b) (by kernel_rfl) (endCas_ (b := b) (r := r) (mp := mp) (sp := sp) (x := x) (m := m) (e := e) (cntW hn) hd h0 hx hl hs hw)) ?_
    rintro v L' ⟨rfl, w, rfl⟩
    refine go ?_
    exact Kr.one (.inr rfl) rfl (Ent.cons (Ent.cons hback)) ⟨rfl, rfl⟩
theorem EndS.ok_init : EndS.init.ok := ⟨by show 0 ≤ 1; omega, by show 0 < 18446744073709551616; omega, (fun h => by cases h), by show 0 ≤ 1000000; omega⟩
theorem endDone {b r slot : Nat} {gen : Int} {e : EndS} {F1 : St} (ha : e.at_ ≤ 1) [t1 : Take L (some ⟨b, 0, none⟩) (EndO r slot gen e) F1] : Fx Tryz.prog 34 [.pointer (some ⟨b, 0, none⟩)] L (fun v L' => v = .bool e.done ∧ L = L') := by
 refine Fx.kept (t := t1) ?_
 refine Fx.mk Tryz.func34 k34 (Nat.le_of_ble_eq_true rfl) ?_
 dsimp only [c34, envOf, Nat.reduceAdd]
 refine Cx.ent (Ent.of t1.out) ?_
 cases hd : e.done with
 | true =>
   refine Cx.openp (a := some ⟨b, 0, none⟩) (EndO.d hd) ?_
   rintro ⟨n1, n2, n3⟩
   simp only [enL, List.cons_append, List.nil_append]
   refine go ?_
   refine Sx.ca rfl (machDoneYes (b := b)) ?_
   rintro v L' ⟨rfl, rfl⟩
   refine go ?_
   exact Kr.one (.inr rfl) rfl (EndO.closeD e hd rfl rfl rfl rfl rfl rfl) ⟨rfl, rfl⟩
 | false =>
   rcases (show e.at_ = 0 ∨ e.at_ = 1 by omega) with h0 | h0
   ·refine Cx.openp (a := some ⟨b, 0, none⟩) (EndO.l hd h0) ?_
    rintro ⟨n1, n2, n3⟩
    simp only [enL, List.cons_append, List.nil_append]
    refine go ?_
    refine Sx.ca rfl (machDoneNo (b := b)) ?_
    rintro v L' ⟨rfl, rfl⟩
    refine go ?_
    exact Kr.one (.inr rfl) rfl (EndO.closeL e hd h0 rfl rfl rfl rfl rfl rfl) ⟨rfl, rfl⟩
   ·refine Cx.openp (a := some ⟨b, 0, none⟩) (EndO.c hd h0) ?_
    rintro ⟨n1, n2, n3⟩
    simp only [enL, List.cons_append, List.nil_append]
    refine go ?_
    refine Sx.ca rfl (machDoneNo (b := b)) ?_
    rintro v L' ⟨rfl, rfl⟩
    refine go ?_
    exact Kr.one (.inr rfl) rfl (EndO.closeC e hd h0 rfl rfl rfl rfl rfl rfl) ⟨rfl, rfl⟩
theorem endCode {b r slot : Nat} {gen : Int} {e : EndS} {F1 : St} (hd : e.done = true) [t1 : Take L (some ⟨b, 0, none⟩) (EndO r slot gen e) F1] : Fx Tryz.prog 41 [.pointer (some ⟨b, 0, none⟩)] L (fun v L' => v = .int .i64 (e.code : Nat) ∧ L = L') := by
 refine Fx.kept (t := t1) ?_
 refine Fx.mk Tryz.func41 k41 (Nat.le_of_ble_eq_true rfl) ?_
 dsimp only [c41, envOf, Nat.reduceAdd]
 refine Cx.ent (Ent.of t1.out) ?_
 refine Cx.openp (a := some ⟨b, 0, none⟩) (EndO.d hd) ?_
 rintro ⟨n1, n2, n3⟩
 simp only [enL, List.cons_append, List.nil_append]
 refine go ?_
 exact Kr.one (.inr rfl) rfl (EndO.closeD e hd rfl rfl rfl rfl rfl rfl) ⟨rfl, rfl⟩
theorem endChunk {b r slot : Nat} {gen : Int} {e : EndS} {F1 : St} (hd : e.done = true) [t1 : Take L (some ⟨b, 0, none⟩) (EndO r slot gen e) F1] : Fx Tryz.prog 43 [.pointer (some ⟨b, 0, none⟩)] L (fun v L' => v = .int .i64 e.chunk ∧ L = L') := by
 refine Fx.kept (t := t1) ?_
 refine Fx.mk Tryz.func43 k43 (Nat.le_of_ble_eq_true rfl) ?_
 dsimp only [c43, envOf, Nat.reduceAdd]
 refine Cx.ent (Ent.of t1.out) ?_
 refine Cx.openp (a := some ⟨b, 0, none⟩) (EndO.d hd) ?_
 rintro ⟨n1, n2, n3⟩
 simp only [enL, List.cons_append, List.nil_append]
 refine go ?_
 exact Kr.one (.inr rfl) rfl (EndO.closeD e hd rfl rfl rfl rfl rfl rfl) ⟨rfl, rfl⟩
end
end Go.Proofs.YtflalhdofhobmaaGreat


namespace Go.Proofs.YtflalhdofhobmaaGreat
structure WalkS where
 l : List Int
 done : Bool
def behindN (c w : Nat) : Int := if c < w then -1 else (w : Int) - 1
def walkStep (lk c : Nat) (m : Mm) (s : WalkS) : WalkS × Mm :=
 if s.done then (s, m) else
 if 0 ≤ behindN c (m.at_ (lk + (lastI s.l).toNat)) ∧ s.l.length < c then (⟨s.l ++ [behindN c (m.at_ (lk + (lastI s.l).toNat))], false⟩, m.tick) else (⟨s.l, true⟩, m.tick)
structure WalkS.ok (c : Nat) (s : WalkS) : Prop where
 ne : s.l ≠ []
 r : ∀ z ∈ s.l, 0 ≤ z ∧ z < c
 l : s.l.length ≤ c
theorem behindN_lt {c w : Nat} (h : 0 ≤ behindN c w) : behindN c w < c := by
 unfold behindN at h ⊢
 split at h
 ·omega
 ·rw [if_neg (by omega)]; omega
theorem walkStep_ok {lk c : Nat} {m : Mm} {s : WalkS} (h : s.ok c) : (walkStep lk c m s).1.ok c := by
 obtain ⟨h1, h2, h3⟩ := h
 unfold walkStep
 split
 ·exact ⟨h1, h2, h3⟩
 ·split
  ·rename_i h4
   refine ⟨by simp, fun z hz => ?_, by simp; omega⟩
   rcases List.mem_append.1 hz with hz | hz
   ·exact h2 z hz
   ·rw [List.mem_singleton.1 hz]
    exact ⟨h4.1, behindN_lt h4.1⟩
  ·exact ⟨h1, h2, h3⟩
structure FrV where
 cnt : Nat
 tag : Int
 chunk : Int
 slot : Int
 point : Nat
 back : Nat
 code : Nat
structure FrS where
 at_ : Nat
 v : FrV
 e : EndS
 w : WalkS
 p : PushS
 g : PushS
 done : Bool
structure FrP where
 k : Sk
 sp : Sk
 ro : Nat
 lk : Nat
 c : Nat
 slot : Nat
 gen : Int
noncomputable def supRet (s : SupS) (tag : Int) (ys : List Int) : SupS := by
 classical exact if refused s.lm tag ys then s else ⟨s.most, s.xs ++ outM s.lm tag, retireM s.lm tag ys⟩
def WalkS.zero : WalkS := ⟨[], true⟩
def FrS.init : FrS := ⟨0, ⟨0, 0, -1, -1, 0, 0, 0⟩, EndS.init, WalkS.zero, gNone, gNone, false⟩
def frLeave (p : FrP) (v : FrV) (e : EndS) (w : WalkS) : FrS := ⟨3, { v with chunk := -1 }, e, w, PushS.init [(p.slot : Int)], gNone, false⟩
def frEnded (p : FrP) (v : FrV) (e : EndS) : FrS :=
 if e.code ≠ 0 then ⟨0, { v with point := v.cnt, code := e.code }, e, WalkS.zero, gNone, gNone, true⟩
 else if 0 ≤ e.chunk then ⟨1, { v with point := v.cnt, code := 0, slot := p.slot, chunk := e.chunk }, e, WalkS.zero, gNone, gNone, false⟩
 else frLeave p { v with point := v.cnt, code := 0, slot := p.slot } e WalkS.zero
noncomputable def frStep (p : FrP) (m : Mm) (s : SupS) (f : FrS) : Mm × SupS × FrS :=
 if f.done then (m, s, f) else
 let v : FrV := { f.v with cnt := f.v.cnt + 1 }
 match f.at_ with
 | 0 => ((endStep (p.ro + p.slot) p.gen m f.e).2, s, if (endStep (p.ro + p.slot) p.gen m f.e).1.done then frEnded p v (endStep (p.ro + p.slot) p.gen m f.e).1 else ⟨0, v, (endStep (p.ro + p.slot) p.gen m f.e).1, WalkS.zero, gNone, gNone, false⟩)
 | 1 => (m.tick, s, ⟨2, { v with tag := cutE (m.at_ 2) }, f.e, ⟨[v.chunk], false⟩, gNone, gNone, false⟩)
 | 2 => ((walkStep p.lk p.c m f.w).2, if (walkStep p.lk p.c m f.w).1.done then supRet s v.tag (walkStep p.lk p.c m f.w).1.l else s,
   if (walkStep p.lk p.c m f.w).1.done then frLeave p v f.e (walkStep p.lk p.c m f.w).1 else ⟨2, v, f.e, (walkStep p.lk p.c m f.w).1, gNone, gNone, false⟩)
 | 3 => ((pushStep p.sp m f.p).2, if (pushStep p.sp m f.p).1.done then { s with xs := s.xs.drop (overK s.most s.xs) } else s,
   if (pushStep p.sp m f.p).1.done then ⟨4, { v with back := v.cnt, slot := -1 }, f.e, f.w, (pushStep p.sp m f.p).1, giveInit p.k (s.xs.take (overK s.most s.xs)), (giveInit p.k (s.xs.take (overK s.most s.xs))).done⟩
   else ⟨3, v, f.e, f.w, (pushStep p.sp m f.p).1, gNone, false⟩)
 | _ => ((pushStep p.k m f.g).2, s, ⟨4, v, f.e, f.w, f.p, (pushStep p.k m f.g).1, (pushStep p.k m f.g).1.done⟩)
noncomputable def frIt (p : FrP) : Nat → Mm × SupS × FrS → Mm × SupS × FrS
 | 0, r => r
 | j + 1, r => frStep p (frIt p j r).1 (frIt p j r).2.1 (frIt p j r).2.2
end Go.Proofs.YtflalhdofhobmaaGreat


namespace Go.Proofs.YtflalhdofhobmaaGreat
open Go
attribute [local irreducible] Sx Cx Rx Fx Krg Ksq Kbl Klp Kr
section
variable {L F G : St}
theorem chainIs {g mp sb : Nat} {x : Cn} (s : Int) [c : Take L (some ⟨g, 0, none⟩) (ChO mp sb x) F] :
  Fx Tryz.prog 198 [.pointer (some ⟨g, 0, none⟩), .int .i64 s] L (fun v L' => v = .bool (decide (0 ≤ s ∧ s < x.c)) ∧ L = L') := by
 refine Fx.kept (t := c) ?_
 refine Fx.mk Tryz.func198 k198 (Nat.le_of_ble_eq_true rfl) ?_
 dsimp only [c198, envOf, Nat.reduceAdd]
 refine Cx.ent (Ent.of c.out) ?_
 refine go ?_
 by_cases h0 : 0 ≤ s
 ·refine Sx.gyes rfl (decide_eq_true h0) ?_
  refine go ?_
  refine Kr.one (.inr rfl) rfl (Ent.refl _) ⟨?_, rfl⟩
  congr 1
  exact decide_eq_decide.2 ⟨fun h => ⟨h0, h⟩, fun h => h.2⟩
 ·refine Sx.gno rfl (decide_eq_false h0) ?_
  refine go ?_
  refine Kr.one (.inr rfl) rfl (Ent.refl _) ⟨?_, rfl⟩
  rw [decide_eq_false (fun h => h0 h.1)]
theorem chainBehind {g mp sb : Nat} {x : Cn} (w : Nat) (hw : w < 18446744073709551616) (hc : x.c ≤ 4096) [c : Take L (some ⟨g, 0, none⟩) (ChO mp sb x) F] :
  Fx Tryz.prog 199 [.pointer (some ⟨g, 0, none⟩), wd w] L (fun v L' => v = .int .i64 (behindN x.c w) ∧ L = L') := by
 refine Fx.kept (t := c) ?_
 refine Fx.mk Tryz.func199 k199 (Nat.le_of_ble_eq_true rfl) ?_
 dsimp only [c199, envOf, Nat.reduceAdd]
 refine Cx.ent (Ent.of c.out) ?_
 refine go ?_
 rw [wrap64 (n := x.c) (by omega)]
 refine Cx.ifp rfl (fun h => ?_) (fun h => ?_)
 ·refine go ?_
  exact Kr.one (.inr rfl) rfl (Ent.refl _) ⟨by unfold behindN; rw [if_pos (by omega)], rfl⟩
 ·refine go ?_
  rw [w64 (n := (w : Int)) (by omega) (by omega), w64 (n := (w : Int) - 1) (by omega) (by omega)]
  exact Kr.one (.inr rfl) rfl (Ent.refl _) ⟨by unfold behindN; rw [if_neg (by omega)], rfl⟩
def wkNx (a : Option Addr) (s : WalkS) : Value := bif s.done then .nilFunc else .func (.func 255) #[.pointer a] #[]
def wkL (T : TypeId) (ch c : Nat) (s : WalkS) (a : Option Addr) (y : (Option Addr × Nat) × Int) : St :=
 [lift (s.ok c), pt a (Blk T [wkNx a s, .nilFunc, .nilFunc, .nilFunc, .int .i64 y.2, .pointer (some ⟨ch, 0, none⟩), .slice y.1.1 s.l.length y.1.2]), pt y.1.1 (Row 3 1 s.l.length y.1.2 (ints s.l))]
def WalkT (T : TypeId) (ch c : Nat) (s : WalkS) (a : Option Addr) : As := exs (wkL T ch c s a)
abbrev WalkO := WalkT 292
theorem WalkO.close {T : TypeId} {ch k : Nat} {a r : Option Addr} {c n : Nat} {cnt : Int} {v0 : Value} {w : List Value} {F G : St} (s : WalkS) (hs : s.ok k)
  [t : Take L a (Blk T [v0, .nilFunc, .nilFunc, .nilFunc, .int .i64 cnt, .pointer (some ⟨ch, 0, none⟩), .slice r n c]) F] [u : Take F r (Row 3 1 n c w) G]
  (h0 : v0 = wkNx a s) (hn : n = s.l.length) (hw : w = ints s.l) : Ent L (pt a (WalkT T ch k s) :: G) := by
 subst h0; subst hn; subst hw
 refine Ent.trans (Ent.take1 (t := t) (Ent.of u.out)) ?_
 refine Ent.trans (Ent.lift hs (Ent.refl _)) ?_
 exact Ent.close (f := wkL T ch k s a) rfl ((r, c), cnt)
theorem chainWalk {g mp sb : Nat} {x : Cn} (k : Int) (h0 : 0 ≤ k) (h1 : k < x.c) [c : Take L (some ⟨g, 0, none⟩) (ChO mp sb x) F] :
  Fx Tryz.prog 234 [.pointer (some ⟨g, 0, none⟩), .int .i64 k] L (fun v L' => ∃ b, v = .tuple #[.pointer (some ⟨b, 0, none⟩), .int .i64 0] ∧ L' = pt (some ⟨b, 0, none⟩) (WalkO g x.c ⟨[k], false⟩) :: L) := by
 refine Fx.mk Tryz.func234 k234 (Nat.le_of_ble_eq_true rfl) ?_
 dsimp only [c234, envOf, Nat.reduceAdd]
 refine go ?_
 refine Sx.ca rfl (chainIs (g := g) (mp := mp) (sb := sb) (x := x) k) ?_
 rintro v L' ⟨rfl, rfl⟩
 rw [decide_eq_true (show 0 ≤ k ∧ k < x.c by omega)]
 refine go ?_
 refine Sx.bs (sz := 1) rfl rfl fun q => ?_
 refine go ?_
 refine Sx.bx rfl rfl fun b => ?_
 refine Sx.re [.nilFunc, .nilFunc, .nilFunc, .nilFunc, .int .i64 0, .pointer (some ⟨g, 0, none⟩), .slice (some ⟨q, 0, none⟩) 1 1] rfl ?_
 refine go ?_
 refine Sx.ca rfl (machGo (b := b)) ?_
 rintro v L' ⟨rfl, rfl⟩
 refine go ?_
 refine Kr.two (.inr rfl) rfl rfl ?_ ⟨b, rfl, rfl⟩
 exact WalkO.close (a := some ⟨b, 0, none⟩) (r := some ⟨q, 0, none⟩) (ch := g) (k := x.c) ⟨[k], false⟩ ⟨by simp, fun z hz => by rw [List.mem_singleton.1 hz]; exact ⟨h0, h1⟩, by show 1 ≤ x.c; omega⟩ rfl rfl rfl
theorem walkLoad_ {b ch mp sb : Nat} {x : Cn} {m : Mm} {s : WalkS} {r : Option Addr} {c : Nat} {cnt : Int} (hm : m.ok) (hx : x.ok) (hl : x.len ≤ m.ws.length) (hs : s.ok x.c) (hd : s.done = false) :
  Fx Tryz.prog 255 [.pointer (some ⟨b, 0, none⟩)] (pt (some ⟨b, 0, none⟩) (Blk 292 [.nilFunc, .nilFunc, .nilFunc, .nilFunc, .int .i64 cnt, .pointer (some ⟨ch, 0, none⟩), .slice r s.l.length c]) :: pt r (Row 3 1 s.l.length c (ints s.l)) :: pt (some ⟨mp, 0, none⟩) (MemO m) :: pt (some ⟨ch, 0, none⟩) (ChO mp sb x) :: G)
   (fun v L' => L' = pt (some ⟨b, 0, none⟩) (WalkO ch x.c (walkStep x.link x.c m s).1) :: pt (some ⟨mp, 0, none⟩) (MemO (walkStep x.link x.c m s).2) :: pt (some ⟨ch, 0, none⟩) (ChO mp sb x) :: G) := by
 obtain ⟨b1, b2, b3, b4, b5, b6, b7⟩ := hx.b
 have hlen := hx.len_le
 have hok := walkStep_ok (lk := x.link) (m := m) hs
 obtain ⟨hne, hrg, hll⟩ := hs
 have hlp := List.length_pos_iff.2 hne
 have hr1 := hrg _ (lastI_mem hne)
 have hsz : x.link + x.c ≤ x.len := by unfold Cn.link Cn.len; omega
 have hx0 : (ints s.l)[s.l.length - 1]? = some (.int .i64 (lastI s.l)) := by simp only [ints, List.getElem?_map, lastI_get hne]; rfl
 obtain ⟨y, hy⟩ : ∃ y : Nat, lastI s.l = y := ⟨(lastI s.l).toNat, by omega⟩
 have hlt := Mm.at_lt hm (x.link + y)
 have hstep : walkStep x.link x.c m s = if 0 ≤ behindN x.c (m.at_ (x.link + y)) ∧ s.l.length < x.c then (⟨s.l ++ [behindN x.c (m.at_ (x.link + y))], false⟩, m.tick) else (⟨s.l, true⟩, m.tick) := by
  unfold walkStep; rw [hd, hy, Int.toNat_natCast]; simp only [Bool.false_eq_true, if_false]
 refine Fx.mk Tryz.func255 k255 (Nat.le_of_ble_eq_true rfl) ?_
 dsimp only [c255, envOf, Nat.reduceAdd]
 refine Cx.rowkey (a := r) fun hxl _ _ hkr => ?_
 obtain ⟨rg, rfl⟩ : ∃ g, r = some ⟨g, 0, none⟩ := by
  rcases hkr with h | h
  ·omega
  ·exact h
 refine go ?_
 refine Cx.ordc rfl (by kernel_rfl) ?_
 refine ge ?_
 rw [w64 (n := (s.l.length : Int) - 1) (by omega) (by omega)]
 refine Ev.pvH (by kernel_rfl) rfl rfl ⟨by omega, by omega⟩ ?_
 refine Ev.ldrH (b := rg) (by kernel_rfl) rfl rfl (v := .int .i64 (lastI s.l)) (by rw [show 0 + ((s.l.length : Int) - 1).toNat * 1 = s.l.length - 1 by omega]; exact hx0) ?_
 refine ge ?_
 rw [hy]
 refine Ev.cakH (by kernel_rfl) rfl rfl (layLinkN hx y (by omega)) ?_
 refine ge ?_
 refine Ev.caH (by kernel_rfl) rfl rfl (cellsLoad (b := mp) (m := m) (x.link + y) (by omega)) (Pres.deps (by kernel_rfl)) ?_
 rintro v L' ⟨rfl, rfl⟩
 refine ge ?_
 refine go ?_
 refine Sx.ca rfl (chainBehind (g := ch) (mp := mp) (sb := sb) (x := x) (m.at_ (x.link + y)) hlt b2) ?_
 rintro v L' ⟨rfl, rfl⟩
 obtain ⟨Y, hY⟩ : ∃ Y, behindN x.c (m.at_ (x.link + y)) = Y := ⟨_, rfl⟩
 rw [hY] at hstep ⊢
 refine go ?_
 refine Cx.ordc rfl (by kernel_rfl) ?_
 refine ge ?_
 have no : ¬ (0 ≤ Y ∧ s.l.length < x.c) → Ent (pt (some ⟨b, 0, none⟩) (Blk 292 [.nilFunc, .nilFunc, .nilFunc, .nilFunc, .int .i64 cnt, .pointer (some ⟨ch, 0, none⟩), .slice (some ⟨rg, 0, none⟩) s.l.length c]) :: pt (some ⟨rg, 0, none⟩) (Row 3 1 s.l.length c (ints s.l)) :: pt (some ⟨mp, 0, none⟩) (MemO m.tick) :: pt (some ⟨ch, 0, none⟩) (ChO mp sb x) :: G)
   (pt (some ⟨b, 0, none⟩) (WalkO ch x.c (walkStep x.link x.c m s).1) :: pt (some ⟨mp, 0, none⟩) (MemO (walkStep x.link x.c m s).2) :: pt (some ⟨ch, 0, none⟩) (ChO mp sb x) :: G) := fun h => by
  rw [hstep, if_neg h]
  exact WalkO.close (a := some ⟨b, 0, none⟩) (r := some ⟨rg, 0, none⟩) (ch := ch) (k := x.c) ⟨s.l, true⟩ ⟨hne, hrg, hll⟩ rfl rfl rfl
 by_cases h0 : 0 ≤ Y
 ·refine Ev.yes 44 rfl (decide_eq_true h0) ?_
  refine ge ?_
  refine Cx.ifp rfl (fun h1 => ?_) (fun h1 => ?_)
  ·have e : walkStep x.link x.c m s = (⟨s.l ++ [Y], false⟩, m.tick) := by rw [hstep, if_pos ⟨h0, by omega⟩]
   rw [e] at hok ⊢
   refine go ?_
   refine Sx.bs (sz := 1) rfl rfl fun g => ?_
   refine Sx.ap (ra := some ⟨rg, 0, none⟩) rfl rfl (Rd.row (b := g) (E := 3) (cap := 1) rfl) rfl (by simp [maxLen]; omega) (by omega) fun ra ca hc => ?_
   refine go ?_
   refine Sx.ca rfl (machGo (b := b)) ?_
   rintro v L' ⟨rfl, rfl⟩
   refine go ?_
   refine Kr.none (.inl rfl) ?_ rfl
   refine Ent.trans (WalkO.close (a := some ⟨b, 0, none⟩) (r := ra) (ch := ch) (k := x.c) ⟨s.l ++ [Y], false⟩ hok rfl (by simp) (by simp [ints_append]; rfl)) (Ent.cons ?_)
   exact ent
  ·refine go ?_
   refine Kr.none (.inl rfl) ?_ rfl
   refine Ent.trans ?_ (no (fun h => h1 (by omega)))
   exact ent
 ·refine Ev.no 44 rfl (decide_eq_false h0) ?_
  refine ge ?_
  refine go ?_
  refine Kr.none (.inl rfl) ?_ rfl
  refine Ent.trans ?_ (no (fun h => h0 h.1))
  exact ent
theorem walkStepC {b ch mp sb : Nat} {x : Cn} {m : Mm} {s : WalkS} {F1 F2 : St} (hx : x.ok) (hl : x.len ≤ m.ws.length) [tp : Take L (some ⟨b, 0, none⟩) (WalkO ch x.c s) F1] [t : Take F1 (some ⟨mp, 0, none⟩) (MemO m) F2] [u : Take F2 (some ⟨ch, 0, none⟩) (ChO mp sb x) G] :
  Fx Tryz.prog 235 [.pointer (some ⟨b, 0, none⟩)] L (fun v L' => v = .bool (!s.done) ∧ L' = pt (some ⟨b, 0, none⟩) (WalkO ch x.c (walkStep x.link x.c m s).1) :: pt (some ⟨mp, 0, none⟩) (MemO (walkStep x.link x.c m s).2) :: F2) := by
 refine Fx.mk Tryz.func235 k235 (Nat.le_of_ble_eq_true rfl) ?_
 dsimp only [c235, envOf, Nat.reduceAdd]
 refine Cx.ent (Ent.trans (Ent.of tp.out) (Ent.cons (Ent.trans (Ent.of t.out) (Ent.cons (Ent.of u.out))))) ?_
 refine Cx.pure (memKey (b := mp) (m := m)) fun hm => ?_
 refine Cx.openp (a := some ⟨b, 0, none⟩) rfl ?_
 rintro ⟨⟨r, c⟩, cnt⟩
 simp only [wkL, List.cons_append, List.nil_append]
 refine Cx.liftp fun hs => ?_
 cases hd : s.done with
 | true =>
   have e : walkStep x.link x.c m s = (s, m) := by unfold walkStep; rw [hd]; rfl
   have en : wkNx (some ⟨b, 0, none⟩) s = .nilFunc := by unfold wkNx; rw [hd]; rfl
   rw [e, en]
   refine go ?_
   refine Sx.ca rfl (machStepDone (b := b)) ?_
   rintro v L' ⟨rfl, rfl⟩
   refine go ?_
   refine Kr.one (.inr rfl) rfl ?_ ⟨rfl, rfl⟩
   exact Ent.trans (WalkO.close (a := some ⟨b, 0, none⟩) (r := r) (ch := ch) (k := x.c) s hs en.symm rfl rfl) (Ent.cons (Ent.cons (Ent.of u.back)))
 | false =>
   have en : wkNx (some ⟨b, 0, none⟩) s = mth 255 b := by unfold wkNx; rw [hd]; rfl
   rw [en]
   refine go ?_
   refine Sx.ca rfl (machStep (b := b) (by kernel_rfl) (walkLoad_ (b := b) (ch := ch) (mp := mp) (sb := sb) (x := x) (m := m) (s := s) (r := r) (c := c) hm.1 hx hl hs hd)) ?_
   rintro v L' ⟨rfl, w, rfl⟩
   refine go ?_
   exact Kr.one (.inr rfl) rfl (Ent.cons (Ent.cons (Ent.of u.back))) ⟨rfl, rfl⟩
theorem walkDone {b ch c : Nat} {s : WalkS} {F1 : St} [tp : Take L (some ⟨b, 0, none⟩) (WalkO ch c s) F1] : Fx Tryz.prog 236 [.pointer (some ⟨b, 0, none⟩)] L (fun v L' => v = .bool s.done ∧ L = L') := by
 refine Fx.kept (t := tp) ?_
 refine Fx.mk Tryz.func236 k236 (Nat.le_of_ble_eq_true rfl) ?_
 dsimp only [c236, envOf, Nat.reduceAdd]
 refine Cx.openp (t := tp) rfl ?_
 rintro ⟨⟨r, cp⟩, cnt⟩
 simp only [wkL, List.cons_append, List.nil_append]
 refine Cx.liftp fun hs => ?_
 cases hd : s.done with
 | true =>
   have en : wkNx (some ⟨b, 0, none⟩) s = .nilFunc := by unfold wkNx; rw [hd]; rfl
   rw [en]
   refine go ?_
   refine Sx.ca rfl (machDoneYes (b := b)) ?_
   rintro v L' ⟨rfl, rfl⟩
   refine go ?_
   exact Kr.one (.inr rfl) rfl (WalkO.close (a := some ⟨b, 0, none⟩) (r := r) (ch := ch) (k := c) s hs en.symm rfl rfl) ⟨rfl, rfl⟩
 | false =>
   have en : wkNx (some ⟨b, 0, none⟩) s = mth 255 b := by unfold wkNx; rw [hd]; rfl
   rw [en]
   refine go ?_
   refine Sx.ca rfl (machDoneNo (b := b)) ?_
   rintro v L' ⟨rfl, rfl⟩
   refine go ?_
   exact Kr.one (.inr rfl) rfl (WalkO.close (a := some ⟨b, 0, none⟩) (r := r) (ch := ch) (k := c) s hs en.symm rfl rfl) ⟨rfl, rfl⟩
theorem walkList {b ch c : Nat} {s : WalkS} {F1 : St} (hd : s.done = true) (hc : c ≤ 4096) [tp : Take L (some ⟨b, 0, none⟩) (WalkO ch c s) F1] : Fx Tryz.prog 257 [.pointer (some ⟨b, 0, none⟩)] L
  (fun v L' => ∃ g co, v = .slice (some ⟨g, 0, none⟩) s.l.length co ∧ s.l.length ≤ c ∧ L' = pt (some ⟨g, 0, none⟩) (Row 3 1 s.l.length co (ints s.l)) :: pt (some ⟨b, 0, none⟩) (WalkO ch c s) :: F1) := by
 refine Fx.mk Tryz.func257 k257 (Nat.le_of_ble_eq_true rfl) ?_
 dsimp only [c257, envOf, Nat.reduceAdd]
 refine go ?_
 refine Sx.ca rfl (walkDone (b := b) (ch := ch) (c := c) (s := s)) ?_
 rintro v L' ⟨rfl, rfl⟩
 rw [hd]
 refine go ?_
 refine Sx.openp (t := tp) rfl ?_
 rintro ⟨⟨r, cp⟩, cnt⟩
 simp only [wkL, List.cons_append, List.nil_append]
 refine Sx.liftp fun hs => ?_
 have hlen := hs.l
 refine go ?_
 refine Sx.rowkey (a := r) fun hxl _ _ hkr => ?_
 refine Sx.ca rfl (clone (Rd.any (a := r) hxl (hkr.imp (fun h => h.2.1) id)) (ones_ints _) (by omega)) ?_
 rintro v L' ⟨ra, ca, rfl, rfl⟩
 refine Sx.rowkey (a := ra) fun _ _ _ hka => ?_
 have hlp := List.length_pos_iff.2 hs.ne
 obtain ⟨rg, rfl⟩ : ∃ g, ra = some ⟨g, 0, none⟩ := by
  rcases hka with h | h
  ·omega
  ·exact h
 refine go ?_
 refine Kr.one (.inr rfl) rfl (Ent.cons (WalkO.close (a := some ⟨b, 0, none⟩) (r := r) (ch := ch) (k := c) s hs rfl rfl rfl)) ⟨rg, ca, rfl, hs.l, rfl⟩
end
end Go.Proofs.YtflalhdofhobmaaGreat


namespace Go.Proofs.YtflalhdofhobmaaGreat
open Go
attribute [local irreducible] Sx Cx Rx Fx Krg Ksq Kbl Klp Kr
section
variable {L F G : St}
abbrev EnO (mp ro ch : Nat) : Option Addr → As := Blk 197 [.pointer (some ⟨mp, 0, none⟩), .pointer (some ⟨ro, 0, none⟩), .pointer (some ⟨ch, 0, none⟩)]
abbrev Cn.fr (x : Cn) (slot : Nat) (gen : Int) : FrP := ⟨x.pool, x.spare, x.root, x.link, x.c, slot, gen⟩
abbrev frF (nx n1 n2 n3 : Value) (eo u slot : Nat) (cnt : Int) (v : FrV) (ep wp gp : Value) : List Value :=
 [nx, n1, n2, n3, .int .i64 cnt, .pointer (some ⟨eo, 0, none⟩), .pointer (some ⟨u, 0, none⟩), .int .i64 (slot : Nat), ep, wp, gp, .int .i64 v.tag, .int .i64 v.chunk, .int .i64 v.slot, .int .i64 (v.point : Nat), .int .i64 (v.back : Nat), .int .i64 (v.code : Nat)]
abbrev frB (b : Nat) (nx n1 n2 n3 : Value) (eo u slot : Nat) (cnt : Int) (v : FrV) (ep wp gp : Value) : As := pt (some ⟨b, 0, none⟩) (Blk 200 (frF nx n1 n2 n3 eo u slot cnt v ep wp gp))
structure FrH where
 eo : Nat
 u : Nat
 mp : Nat
 ro : Nat
 sp : Nat
 ch : Nat
 pb : Nat
def frEL (T : TypeId) (h : FrH) (x : Cn) (slot : Nat) (gen : Int) (s : FrS) (a : Option Addr) (y : Nat) : St :=
 [pt a (Blk T (frF (.func (.func 232) #[.pointer a] #[]) (mth 32 y) (mth 34 y) (.func (.func 120) #[.pointer a] #[]) h.eo h.u slot (s.v.cnt : Nat) s.v (.pointer (some ⟨y, 0, none⟩)) (.pointer none) (.pointer none))),
  pt (some ⟨y, 0, none⟩) (EndO h.ro slot gen s.e)]
def frLL (T : TypeId) (h : FrH) (slot : Nat) (s : FrS) (a : Option Addr) (y : Value × Value × Value × Value) : St :=
 [pt a (Blk T (frF (.func (.func 191) #[.pointer a] #[]) y.1 y.2.1 y.2.2.1 h.eo h.u slot (s.v.cnt : Nat) s.v y.2.2.2 (.pointer none) (.pointer none)))]
def frWL (T : TypeId) (h : FrH) (x : Cn) (slot : Nat) (s : FrS) (a : Option Addr) (y : Nat × Value) : St :=
 [pt a (Blk T (frF (.func (.func 232) #[.pointer a] #[]) (mth 235 y.1) (mth 236 y.1) (.func (.func 237) #[.pointer a] #[]) h.eo h.u slot (s.v.cnt : Nat) s.v y.2 (.pointer (some ⟨y.1, 0, none⟩)) (.pointer none))),
  pt (some ⟨y.1, 0, none⟩) (WalkO h.ch x.c s.w)]
def frPL (T : TypeId) (h : FrH) (x : Cn) (slot : Nat) (s : FrS) (a : Option Addr) (y : Nat × Value × Value) : St :=
 [pt a (Blk T (frF (.func (.func 232) #[.pointer a] #[]) (mth 239 y.1) (mth 240 y.1) (.func (.func 241) #[.pointer a] #[]) h.eo h.u slot (s.v.cnt : Nat) s.v y.2.1 y.2.2 (.pointer none))),
  pt (some ⟨y.1, 0, none⟩) (PushO h.sp x.spare s.p)]
def frGL (T : TypeId) (h : FrH) (x : Cn) (slot : Nat) (s : FrS) (a : Option Addr) (y : Nat × Value × Value) : St :=
 [pt a (Blk T (frF (.func (.func 232) #[.pointer a] #[]) (mth 208 y.1) (mth 188 y.1) (.func (.func 259) #[.pointer a] #[]) h.eo h.u slot (s.v.cnt : Nat) s.v y.2.1 y.2.2 (.pointer (some ⟨y.1, 0, none⟩)))),
  pt (some ⟨y.1, 0, none⟩) (GiveO h.pb x.pool s.g)]
def frDL (T : TypeId) (h : FrH) (x : Cn) (slot : Nat) (s : FrS) (a : Option Addr) (y : Nat × (Value × Value × Value) × Value × Value) : St :=
 [pt a (Blk T (frF .nilFunc y.2.1.1 y.2.1.2.1 y.2.1.2.2 h.eo h.u slot (s.v.cnt : Nat) s.v y.2.2.1 y.2.2.2 (.pointer (some ⟨y.1, 0, none⟩)))), pt (some ⟨y.1, 0, none⟩) (GiveO h.pb x.pool s.g)]
def frSL (T : TypeId) (h : FrH) (slot : Nat) (s : FrS) (a : Option Addr) (y : Value × Value × Value × Value) : St :=
 [pt a (Blk T (frF .nilFunc y.1 y.2.1 y.2.2.1 h.eo h.u slot (s.v.cnt : Nat) s.v y.2.2.2 (.pointer none) (.pointer none)))]
def FrT (T : TypeId) (h : FrH) (x : Cn) (slot : Nat) (gen : Int) (s : FrS) (a : Option Addr) : As :=
 bif s.done then (bif Nat.beq s.at_ 4 then exs (frDL T h x slot s a) else exs (frSL T h slot s a)) else match s.at_ with
 | 0 => exs (frEL T h x slot gen s a) | 1 => exs (frLL T h slot s a) | 2 => exs (frWL T h x slot s a) | 3 => exs (frPL T h x slot s a) | _ => exs (frGL T h x slot s a)
abbrev FrO := FrT 200
section
variable {T : TypeId} {h : FrH} {x : Cn} {slot : Nat} {gen : Int} {s : FrS} {a : Option Addr}
theorem FrO.e_ (hd : s.done = false) (h0 : s.at_ = 0) : FrT T h x slot gen s a = exs (frEL T h x slot gen s a) := by unfold FrT; rw [hd, h0]; rfl
theorem FrO.l_ (hd : s.done = false) (h0 : s.at_ = 1) : FrT T h x slot gen s a = exs (frLL T h slot s a) := by unfold FrT; rw [hd, h0]; rfl
theorem FrO.w_ (hd : s.done = false) (h0 : s.at_ = 2) : FrT T h x slot gen s a = exs (frWL T h x slot s a) := by unfold FrT; rw [hd, h0]; rfl
theorem FrO.p_ (hd : s.done = false) (h0 : s.at_ = 3) : FrT T h x slot gen s a = exs (frPL T h x slot s a) := by unfold FrT; rw [hd, h0]; rfl
theorem FrO.g_ (hd : s.done = false) (h0 : s.at_ = 4) : FrT T h x slot gen s a = exs (frGL T h x slot s a) := by unfold FrT; rw [hd, h0]; rfl
theorem FrO.d_ (hd : s.done = true) (h0 : s.at_ = 4) : FrT T h x slot gen s a = exs (frDL T h x slot s a) := by unfold FrT; rw [hd, h0]; rfl
theorem FrO.s_ (hd : s.done = true) (h0 : s.at_ ≠ 4) : FrT T h x slot gen s a = exs (frSL T h slot s a) := by
 unfold FrT
 rw [hd]
 cases hb : Nat.beq s.at_ 4 with
 | true => exact absurd (Nat.eq_of_beq_eq_true hb) h0
 | false => rfl
end
section
variable {b : Nat} {h : FrH} {x : Cn} {slot : Nat} {gen : Int} {cnt : Int} {v : FrV} {n1 n2 n3 ep wp : Value}
theorem FrO.closeE {q : Nat} {e : EndS} (s : FrS) (hd : s.done = false) (h0 : s.at_ = 0) (hc : cnt = (s.v.cnt : Nat)) (hv : { v with cnt := s.v.cnt } = s.v) (he : e = s.e) :
  Ent (frB b (mth 232 b) (mth 32 q) (mth 34 q) (mth 120 b) h.eo h.u slot cnt v (.pointer (some ⟨q, 0, none⟩)) (.pointer none) (.pointer none) :: pt (some ⟨q, 0, none⟩) (EndO h.ro slot gen e) :: G) (pt (some ⟨b, 0, none⟩) (FrO h x slot gen s) :: G) := by
 subst hc he
 obtain ⟨a1, v0, e0, w0, p0, g0, d0⟩ := s
 obtain ⟨c1, c2, c3, c4, c5, c6, c7⟩ := v0
 obtain ⟨e1, e2, e3, e4, e5, e6, e7⟩ := v
 dsimp only at hv
 cases hv
 exact Ent.close (f := frEL 200 h x slot gen _ (some ⟨b, 0, none⟩)) (FrO.e_ hd h0) q
theorem FrO.closeL (s : FrS) (hd : s.done = false) (h0 : s.at_ = 1) (hc : cnt = (s.v.cnt : Nat)) (hv : { v with cnt := s.v.cnt } = s.v) :
  Ent (frB b (mth 191 b) n1 n2 n3 h.eo h.u slot cnt v ep (.pointer none) (.pointer none) :: G) (pt (some ⟨b, 0, none⟩) (FrO h x slot gen s) :: G) := by
 subst hc
 obtain ⟨a1, v0, e0, w0, p0, g0, d0⟩ := s
 obtain ⟨c1, c2, c3, c4, c5, c6, c7⟩ := v0
 obtain ⟨e1, e2, e3, e4, e5, e6, e7⟩ := v
 dsimp only at hv
 cases hv
 exact Ent.close (f := frLL 200 h slot _ (some ⟨b, 0, none⟩)) (FrO.l_ hd h0) (n1, n2, n3, ep)
theorem FrO.closeW {q : Nat} {w : WalkS} (s : FrS) (hd : s.done = false) (h0 : s.at_ = 2) (hc : cnt = (s.v.cnt : Nat)) (hv : { v with cnt := s.v.cnt } = s.v) (he : w = s.w) :
  Ent (frB b (mth 232 b) (mth 235 q) (mth 236 q) (mth 237 b) h.eo h.u slot cnt v ep (.pointer (some ⟨q, 0, none⟩)) (.pointer none) :: pt (some ⟨q, 0, none⟩) (WalkO h.ch x.c w) :: G) (pt (some ⟨b, 0, none⟩) (FrO h x slot gen s) :: G) := by
 subst hc he
 obtain ⟨a1, v0, e0, w0, p0, g0, d0⟩ := s
 obtain ⟨c1, c2, c3, c4, c5, c6, c7⟩ := v0
 obtain ⟨e1, e2, e3, e4, e5, e6, e7⟩ := v
 dsimp only at hv
 cases hv
 exact Ent.close (f := frWL 200 h x slot _ (some ⟨b, 0, none⟩)) (FrO.w_ hd h0) (q, ep)
theorem FrO.closeP {q : Nat} {p : PushS} (s : FrS) (hd : s.done = false) (h0 : s.at_ = 3) (hc : cnt = (s.v.cnt : Nat)) (hv : { v with cnt := s.v.cnt } = s.v) (he : p = s.p) :
  Ent (frB b (mth 232 b) (mth 239 q) (mth 240 q) (mth 241 b) h.eo h.u slot cnt v ep wp (.pointer none) :: pt (some ⟨q, 0, none⟩) (PushO h.sp x.spare p) :: G) (pt (some ⟨b, 0, none⟩) (FrO h x slot gen s) :: G) := by
 subst hc he
 obtain ⟨a1, v0, e0, w0, p0, g0, d0⟩ := s
 obtain ⟨c1, c2, c3, c4, c5, c6, c7⟩ := v0
 obtain ⟨e1, e2, e3, e4, e5, e6, e7⟩ := v
 dsimp only at hv
 cases hv
 exact Ent.close (f := frPL 200 h x slot _ (some ⟨b, 0, none⟩)) (FrO.p_ hd h0) (q, ep, wp)
theorem FrO.closeG {q : Nat} {p : PushS} (s : FrS) (hd : s.done = false) (h0 : s.at_ = 4) (hc : cnt = (s.v.cnt : Nat)) (hv : { v with cnt := s.v.cnt } = s.v) (he : p = s.g) :
  Ent (frB b (mth 232 b) (mth 208 q) (mth 188 q) (mth 259 b) h.eo h.u slot cnt v ep wp (.pointer (some ⟨q, 0, none⟩)) :: pt (some ⟨q, 0, none⟩) (GiveO h.pb x.pool p) :: G) (pt (some ⟨b, 0, none⟩) (FrO h x slot gen s) :: G) := by
 subst hc he
 obtain ⟨a1, v0, e0, w0, p0, g0, d0⟩ := s
 obtain ⟨c1, c2, c3, c4, c5, c6, c7⟩ := v0
 obtain ⟨e1, e2, e3, e4, e5, e6, e7⟩ := v
 dsimp only at hv
 cases hv
 exact Ent.close (f := frGL 200 h x slot _ (some ⟨b, 0, none⟩)) (FrO.g_ hd h0) (q, ep, wp)
theorem FrO.closeD {q : Nat} {p : PushS} (s : FrS) (hd : s.done = true) (h0 : s.at_ = 4) (hc : cnt = (s.v.cnt : Nat)) (hv : { v with cnt := s.v.cnt } = s.v) (he : p = s.g) :
  Ent (frB b .nilFunc n1 n2 n3 h.eo h.u slot cnt v ep wp (.pointer (some ⟨q, 0, none⟩)) :: pt (some ⟨q, 0, none⟩) (GiveO h.pb x.pool p) :: G) (pt (some ⟨b, 0, none⟩) (FrO h x slot gen s) :: G) := by
 subst hc he
 obtain ⟨a1, v0, e0, w0, p0, g0, d0⟩ := s
 obtain ⟨c1, c2, c3, c4, c5, c6, c7⟩ := v0
 obtain ⟨e1, e2, e3, e4, e5, e6, e7⟩ := v
 dsimp only at hv
 cases hv
 exact Ent.close (f := frDL 200 h x slot _ (some ⟨b, 0, none⟩)) (FrO.d_ hd h0) (q, (n1, n2, n3), ep, wp)
theorem FrO.closeS (s : FrS) (hd : s.done = true) (h0 : s.at_ ≠ 4) (hc : cnt = (s.v.cnt : Nat)) (hv : { v with cnt := s.v.cnt } = s.v) :
  Ent (frB b .nilFunc n1 n2 n3 h.eo h.u slot cnt v ep (.pointer none) (.pointer none) :: G) (pt (some ⟨b, 0, none⟩) (FrO h x slot gen s) :: G) := by
 subst hc
 obtain ⟨a1, v0, e0, w0, p0, g0, d0⟩ := s
 obtain ⟨c1, c2, c3, c4, c5, c6, c7⟩ := v0
 obtain ⟨e1, e2, e3, e4, e5, e6, e7⟩ := v
 dsimp only at hv
 cases hv
 exact Ent.close (f := frSL 200 h slot _ (some ⟨b, 0, none⟩)) (FrO.s_ hd h0) (n1, n2, n3, ep)
end
theorem frOver {v : Value} : Fx Tryz.prog 259 [v] L (fun v L' => v = .tuple #[] ∧ L = L') := by
 refine Fx.mk Tryz.func259 k259 (Nat.le_of_ble_eq_true rfl) ?_
 dsimp only [c259, envOf, Nat.reduceAdd]
 refine Cx.sk ?_
 exact Kr.none (.inl rfl) (Ent.refl _) ⟨rfl, rfl⟩
theorem rootsBack {g mp sb : Nat} {x : Cn} (slot : Nat) (hs : slot < x.sl) [c : Take L (some ⟨g, 0, none⟩) (RoO mp sb x) F] {F2 : St} [s : Take F (some ⟨sb, 0, none⟩) (SkO mp x.spare) F2] :
  Fx Tryz.prog 238 [.pointer (some ⟨g, 0, none⟩), .int .i64 slot] L (fun v L' => ∃ b, v = .tuple #[.pointer (some ⟨b, 0, none⟩), .int .i64 0] ∧ L' = pt (some ⟨b, 0, none⟩) (PushO sb x.spare (PushS.init [(slot : Int)])) :: L) := by
 refine Fx.mk Tryz.func238 k238 (Nat.le_of_ble_eq_true rfl) ?_
 dsimp only [c238, envOf, Nat.reduceAdd]
 refine Cx.ent (Ent.trans (Ent.of c.out) (Ent.cons (Ent.of s.out))) ?_
 refine go ?_
 refine Sx.bs (sz := 1) rfl rfl fun q => ?_
 refine Sx.ca rfl (stackPush (sb := sb) (mp := mp) (k := x.spare) (l := [(slot : Int)]) (Rd.row (b := q) (E := 3) (cap := 1) rfl) (by omega) (by omega)) ?_
 rintro v L' (⟨hn, _, _⟩ | ⟨_, b, rfl, rfl⟩)
 ·exact absurd ⟨by simp, fun z hz => by rw [List.mem_singleton.1 hz]; exact ⟨by omega, by show (slot : Int) < x.sl; omega⟩⟩ hn
 refine go ?_
 refine Kr.two (.inr rfl) rfl rfl ?_ ⟨b, rfl, rfl⟩
 refine Ent.cons (Ent.trans Ent.drop ?_)
 exact Ent.trans (Ent.cons (Ent.of s.back)) (Ent.of c.back)
theorem frLeave_ {b : Nat} {h : FrH} {x : Cn} {slot : Nat} {gen : Int} {v : FrV} {n1 n2 n3 ep wp : Value} {cnt : Int} (e : EndS) (w : WalkS) (hcnt : cnt = (v.cnt : Nat)) (hs : slot < x.sl) :
  Fx Tryz.prog 192 [.pointer (some ⟨b, 0, none⟩)] (frB b .nilFunc n1 n2 n3 h.eo h.u slot cnt v ep wp (.pointer none) :: pt (some ⟨h.eo, 0, none⟩) (EnO h.mp h.ro h.ch) :: pt (some ⟨h.ro, 0, none⟩) (RoO h.mp h.sp x) :: pt (some ⟨h.sp, 0, none⟩) (SkO h.mp x.spare) :: G)
   (fun _ L' => L' = pt (some ⟨b, 0, none⟩) (FrO h x slot gen (frLeave (x.fr slot gen) v e w)) :: pt (some ⟨h.eo, 0, none⟩) (EnO h.mp h.ro h.ch) :: pt (some ⟨h.ro, 0, none⟩) (RoO h.mp h.sp x) :: pt (some ⟨h.sp, 0, none⟩) (SkO h.mp x.spare) :: G) := by
 subst hcnt
 refine Fx.mk Tryz.func192 k192 (Nat.le_of_ble_eq_true rfl) ?_
 dsimp only [c192, envOf, Nat.reduceAdd]
 refine go ?_
 refine Cx.ordc rfl (by kernel_rfl) ?_
 refine ge ?_
 refine Ev.caH (by kernel_rfl) rfl rfl (rootsBack (g := h.ro) (mp := h.mp) (sb := h.sp) (x := x) slot hs) (Pres.deps (by kernel_rfl)) ?_
 rintro v' L' ⟨q, rfl, rfl⟩
 refine ge ?_
 refine go ?_
 refine Sx.ca rfl (machThrough (b := b) (machOnNo (b := b) (by kernel_rfl) (pushDoneC (b := q) (sb := h.sp) (k := x.spare) (p := PushS.init [(slot : Int)])))) ?_
 rintro v' L' ⟨rfl, w', rfl, rfl⟩
 refine go ?_
 refine Kr.none (.inl rfl) ?_ rfl
 refine Ent.trans (Ent.take (a := some ⟨b, 0, none⟩)) ?_
 refine Ent.trans (Ent.cons (Ent.take (a := some ⟨q, 0, none⟩))) ?_
 refine Ent.trans (FrO.closeP (gen := gen) (v := { v with chunk := -1 }) (frLeave (x.fr slot gen) v e w) rfl rfl rfl rfl rfl) (Ent.cons ?_)
 exact ent
set_option maxHeartbeats 1000000 in
theorem frEnded_ {b q : Nat} {h : FrH} {x : Cn} {slot : Nat} {gen : Int} {v : FrV} {e : EndS} {n1 n2 n3 : Value} {cnt : Int} (hcnt : cnt = (v.cnt : Nat)) (hs : slot < x.sl) (hd : e.done = true) :
  Fx Tryz.prog 120 [.pointer (some ⟨b, 0, none⟩)] (frB b .nilFunc n1 n2 n3 h.eo h.u slot cnt v (.pointer (some ⟨q, 0, none⟩)) (.pointer none) (.pointer none) :: pt (some ⟨q, 0, none⟩) (EndO h.ro slot gen e) :: pt (some ⟨h.eo, 0, none⟩) (EnO h.mp h.ro h.ch) :: pt (some ⟨h.ro, 0, none⟩) (RoO h.mp h.sp x) :: pt (some ⟨h.sp, 0, none⟩) (SkO h.mp x.spare) :: G)
   (fun _ L' => L' = pt (some ⟨b, 0, none⟩) (FrO h x slot gen (frEnded (x.fr slot gen) v e)) :: pt (some ⟨h.eo, 0, none⟩) (EnO h.mp h.ro h.ch) :: pt (some ⟨h.ro, 0, none⟩) (RoO h.mp h.sp x) :: pt (some ⟨h.sp, 0, none⟩) (SkO h.mp x.spare) :: G) := by
 subst hcnt
 refine Fx.mk Tryz.func120 k120 (Nat.le_of_ble_eq_true rfl) ?_
 dsimp only [c120, envOf, Nat.reduceAdd]
 refine go ?_
 refine Sx.ca rfl (machCount (b := b)) ?_
 rintro v' L' ⟨rfl, rfl⟩
 refine go ?_
 refine Sx.ca rfl (endCode (b := q) (r := h.ro) (slot := slot) (gen := gen) (e := e) hd) ?_
 rintro v' L' ⟨rfl, rfl⟩
 refine go ?_
 by_cases hc : e.code = 0
 case neg =>
  have e1 : frEnded (x.fr slot gen) v e = ⟨0, { v with point := v.cnt, code := e.code }, e, WalkS.zero, gNone, gNone, true⟩ := by unfold frEnded; rw [if_pos hc]
  rw [e1]
  refine Cx.cyes rfl (by simp; omega) ?_
  refine go ?_
  refine Kr.none (.inr rfl) ?_ rfl
  refine Ent.trans (Ent.take (a := some ⟨b, 0, none⟩)) ?_
  refine Ent.trans (FrO.closeS (gen := gen) (x := x) (v := { v with point := v.cnt, code := e.code }) ⟨0, { v with point := v.cnt, code := e.code }, e, WalkS.zero, gNone, gNone, true⟩ rfl (by show (0 : Nat) ≠ 4; omega) rfl rfl) (Ent.cons ?_)
  exact ent
 case pos =>
  rw [hc]
  refine Cx.cno rfl (by simp) ?_
  refine go ?_
  refine Sx.ca rfl (endChunk (b := q) (r := h.ro) (slot := slot) (gen := gen) (e := e) hd) ?_
  rintro v' L' ⟨rfl, rfl⟩
  refine go ?_
  by_cases hk : 0 ≤ e.chunk
  case pos =>
   have e1 : frEnded (x.fr slot gen) v e = ⟨1, { v with point := v.cnt, code := 0, slot := slot, chunk := e.chunk }, e, WalkS.zero, gNone, gNone, false⟩ := by unfold frEnded; rw [if_neg (by omega), if_pos hk]
   rw [e1]
   refine Cx.cyes rfl (decide_eq_true hk) ?_
   refine go ?_
   refine Sx.ca rfl (machGo (b := b)) ?_
   rintro v' L' ⟨rfl, rfl⟩
   refine go ?_
   refine Kr.none (.inl rfl) ?_ rfl
   refine Ent.trans (Ent.take (a := some ⟨b, 0, none⟩)) ?_
   refine Ent.trans (FrO.closeL (gen := gen) (x := x) (v := { v with point := v.cnt, code := 0, slot := slot, chunk := e.chunk }) ⟨1, { v with point := v.cnt, code := 0, slot := slot, chunk := e.chunk }, e, WalkS.zero, gNone, gNone, false⟩ rfl rfl rfl rfl) (Ent.cons ?_)
   exact ent
  case neg =>
   have e1 : frEnded (x.fr slot gen) v e = frLeave (x.fr slot gen) { v with point := v.cnt, code := 0, slot := slot, chunk := e.chunk } e WalkS.zero := by unfold frEnded; rw [if_neg (by omega), if_neg hk]; rfl
   rw [e1]
   refine Cx.cno rfl (decide_eq_false hk) ?_
   refine go ?_
   refine Sx.ent (Ent.take (a := some ⟨b, 0, none⟩)) ?_
   refine Sx.ent (M := frB b .nilFunc n1 n2 n3 h.eo h.u slot (v.cnt : Nat) { v with point := v.cnt, code := 0, slot := slot, chunk := e.chunk } (.pointer (some ⟨q, 0, none⟩)) (.pointer none) (.pointer none) :: pt (some ⟨h.eo, 0, none⟩) (EnO h.mp h.ro h.ch) :: pt (some ⟨h.ro, 0, none⟩) (RoO h.mp h.sp x) :: pt (some ⟨h.sp, 0, none⟩) (SkO h.mp x.spare) :: G) (Ent.cons (by exact ent)) ?_
   refine Sx.ca rfl (frLeave_ (gen := gen) (v := { v with point := v.cnt, code := 0, slot := slot, chunk := e.chunk }) e WalkS.zero rfl hs) ?_
   rintro v' L' rfl
   refine go ?_
   exact Kr.none (.inl rfl) (Ent.refl _) rfl
end
end Go.Proofs.YtflalhdofhobmaaGreat


namespace Go.Proofs.YtflalhdofhobmaaGreat
open Go
attribute [local irreducible] Sx Cx Rx Fx Krg Ksq Kbl Klp Kr
section
variable {L F G : St}
theorem supRetireC {u mp pb : Nat} {x : Cn} {s : SupS} {F : St} [t : Take L (some ⟨u, 0, none⟩) (SupO mp pb x s) F] {tag : Int} {ys : List Int} {ya : Option Addr} {n c : Nat} (hr : Rd F 1 ya n (ints ys)) (hb : s.lm.size + n ≤ 100000000) (hx : s.xs.length ≤ 100000000) :
  Fx Tryz.prog 256 [.pointer (some ⟨u, 0, none⟩), .int .i64 tag, .slice ya n c] L (fun v L' => (∃ k, v = .int .i64 k) ∧ L' = pt (some ⟨u, 0, none⟩) (SupO mp pb x (supRet s tag ys)) :: F) := by
 refine (supRetire (u := u) (mp := mp) (pb := pb) (x := x) (s := s) hr hb hx).mono ?_
 rintro v L' (⟨h, rfl, rfl⟩ | ⟨h, rfl, rfl⟩)
 ·exact ⟨⟨_, rfl⟩, by unfold supRet; rw [if_pos h]⟩
 ·exact ⟨⟨_, rfl⟩, by unfold supRet; rw [if_neg h]⟩
theorem frLook_ {b : Nat} {h : FrH} {x : Cn} {slot : Nat} {gen : Int} {m : Mm} {v : FrV} {n1 n2 n3 ep : Value} {cnt : Int} {pb2 : Nat} (e : EndS) (hcnt : cnt = (v.cnt : Nat)) (hm : m.ok) (hl : x.len ≤ m.ws.length) (h0 : 0 ≤ v.chunk) (h1 : v.chunk < x.c) :
  Fx Tryz.prog 191 [.pointer (some ⟨b, 0, none⟩)] (frB b .nilFunc n1 n2 n3 h.eo h.u slot cnt v ep (.pointer none) (.pointer none) :: pt (some ⟨h.eo, 0, none⟩) (EnO h.mp h.ro h.ch) :: pt (some ⟨h.mp, 0, none⟩) (MemO m) :: pt (some ⟨h.ch, 0, none⟩) (ChO h.mp pb2 x) :: G)
   (fun _ L' => L' = pt (some ⟨b, 0, none⟩) (FrO h x slot gen ⟨2, { v with tag := cutE (m.at_ 2) }, e, ⟨[v.chunk], false⟩, gNone, gNone, false⟩) :: pt (some ⟨h.eo, 0, none⟩) (EnO h.mp h.ro h.ch) :: pt (some ⟨h.mp, 0, none⟩) (MemO m.tick) :: pt (some ⟨h.ch, 0, none⟩) (ChO h.mp pb2 x) :: G) := by
 subst hcnt
 have hl3 : 3 ≤ x.len := by unfold Cn.len; omega
 have hw := Mm.at_lt hm 2
 refine Fx.mk Tryz.func191 k191 (Nat.le_of_ble_eq_true rfl) ?_
 dsimp only [c191, envOf, Nat.reduceAdd]
 refine go ?_
 refine Sx.ca rfl (cellsLoad (b := h.mp) (m := m) 2 (by omega)) ?_
 rintro v' L' ⟨rfl, rfl⟩
 refine go ?_
 refine Sx.ca rfl (epochCut (m.at_ 2) hw) ?_
 rintro v' L' ⟨rfl, rfl⟩
 refine go ?_
 refine Cx.ordc rfl (by kernel_rfl) ?_
 refine ge ?_
 refine Ev.caH (by kernel_rfl) rfl rfl (chainWalk (g := h.ch) (mp := h.mp) (sb := pb2) (x := x) v.chunk h0 h1) (Pres.deps (by kernel_rfl)) ?_
 rintro v' L' ⟨q, rfl, rfl⟩
 refine ge ?_
 refine go ?_
 refine Sx.ca rfl (machThrough (b := b) (machOnNo (b := b) (by kernel_rfl) (walkDone (b := q) (ch := h.ch) (c := x.c) (s := ⟨[v.chunk], false⟩)))) ?_
 rintro v' L' ⟨rfl, w', rfl, rfl⟩
 refine go ?_
 refine Kr.none (.inl rfl) ?_ rfl
 refine Ent.trans (Ent.take (a := some ⟨b, 0, none⟩)) ?_
 refine Ent.trans (Ent.cons (Ent.take (a := some ⟨q, 0, none⟩))) ?_
 refine Ent.trans (FrO.closeW (gen := gen) (v := { v with tag := cutE (m.at_ 2) }) ⟨2, { v with tag := cutE (m.at_ 2) }, e, ⟨[v.chunk], false⟩, gNone, gNone, false⟩ rfl rfl rfl rfl rfl) (Ent.cons ?_)
 exact ent
theorem frWalked_ {b q : Nat} {h : FrH} {x : Cn} {slot : Nat} {gen : Int} {v : FrV} {n1 n2 n3 ep : Value} {cnt : Int} {S : SupS} (e : EndS) (w : WalkS) (hcnt : cnt = (v.cnt : Nat)) (hs : slot < x.sl) (hd : w.done = true) (hc : x.c ≤ 4096) (hb : S.xs.length + S.lm.size ≤ 1000000) :
  Fx Tryz.prog 237 [.pointer (some ⟨b, 0, none⟩)] (frB b .nilFunc n1 n2 n3 h.eo h.u slot cnt v ep (.pointer (some ⟨q, 0, none⟩)) (.pointer none) :: pt (some ⟨q, 0, none⟩) (WalkO h.ch x.c w) :: pt (some ⟨h.u, 0, none⟩) (SupO h.mp h.pb x S) :: pt (some ⟨h.eo, 0, none⟩) (EnO h.mp h.ro h.ch) :: pt (some ⟨h.ro, 0, none⟩) (RoO h.mp h.sp x) :: pt (some ⟨h.sp, 0, none⟩) (SkO h.mp x.spare) :: G)
   (fun _ L' => L' = pt (some ⟨b, 0, none⟩) (FrO h x slot gen (frLeave (x.fr slot gen) v e w)) :: pt (some ⟨h.u, 0, none⟩) (SupO h.mp h.pb x (supRet S v.tag w.l)) :: pt (some ⟨h.eo, 0, none⟩) (EnO h.mp h.ro h.ch) :: pt (some ⟨h.ro, 0, none⟩) (RoO h.mp h.sp x) :: pt (some ⟨h.sp, 0, none⟩) (SkO h.mp x.spare) :: G) := by
 subst hcnt
 refine Fx.mk Tryz.func237 k237 (Nat.le_of_ble_eq_true rfl) ?_
 dsimp only [c237, envOf, Nat.reduceAdd]
 refine Cx.sq ?_
 refine Cx.ordc rfl (by kernel_rfl) ?_
 refine ge ?_
 refine Ev.caH (by kernel_rfl) rfl rfl (walkList (b := q) (ch := h.ch) (c := x.c) (s := w) hd hc) (.dep rfl (.keep (fun v L' ⟨_, _, _, _, e⟩ => by subst e; exact Has.cell rfl) (.keep (fun v L' ⟨_, _, _, _, e⟩ => by subst e; exact Has.cell rfl) .nil))) ?_
 rintro v' L' ⟨g, co, rfl, hwl, rfl⟩
 refine ge ?_
 refine Ev.caH (by kernel_rfl) rfl rfl (supRetireC (u := h.u) (mp := h.mp) (pb := h.pb) (x := x) (s := S) (tag := v.tag) (ys := w.l) (Rd.row (b := g) (E := 3) (cap := co) (by simp [ints])) (by omega) (by omega)) (Pres.deps (by kernel_rfl)) ?_
 rintro v' L' ⟨⟨k, rfl⟩, rfl⟩
 refine ge ?_
 refine go ?_
 refine Sx.ent (M := frB b .nilFunc n1 n2 n3 h.eo h.u slot (v.cnt : Nat) v ep (.pointer (some ⟨q, 0, none⟩)) (.pointer none) :: pt (some ⟨h.eo, 0, none⟩) (EnO h.mp h.ro h.ch) :: pt (some ⟨h.ro, 0, none⟩) (RoO h.mp h.sp x) :: pt (some ⟨h.sp, 0, none⟩) (SkO h.mp x.spare) :: pt (some ⟨h.u, 0, none⟩) (SupO h.mp h.pb x (supRet S v.tag w.l)) :: G) (by exact ent) ?_
 refine Sx.ca rfl (frLeave_ (gen := gen) (v := v) e w rfl hs) ?_
 rintro v' L' rfl
 refine go ?_
 refine Kr.none (.inl rfl) ?_ rfl
 exact ent
noncomputable def frLeft (k : Sk) (v : FrV) (S : SupS) (e : EndS) (w : WalkS) (p : PushS) : FrS := ⟨4, { v with back := v.cnt, slot := -1 }, e, w, p, giveInit k (S.xs.take (overK S.most S.xs)), (giveInit k (S.xs.take (overK S.most S.xs))).done⟩
theorem frLeft_ {b : Nat} {h : FrH} {x : Cn} {slot : Nat} {gen : Int} {v : FrV} {n1 n2 n3 ep wp : Value} {cnt : Int} {S : SupS} (e : EndS) (w : WalkS) (p : PushS) (hcnt : cnt = (v.cnt : Nat)) (hb : S.xs.length ≤ 1000000) (hm0 : 0 ≤ S.most) (hm2 : S.most ≤ 64) :
  Fx Tryz.prog 241 [.pointer (some ⟨b, 0, none⟩)] (frB b .nilFunc n1 n2 n3 h.eo h.u slot cnt v ep wp (.pointer none) :: pt (some ⟨h.u, 0, none⟩) (SupO h.mp h.pb x S) :: pt (some ⟨h.pb, 0, none⟩) (SkO h.mp x.pool) :: G)
   (fun _ L' => L' = pt (some ⟨b, 0, none⟩) (FrO h x slot gen (frLeft x.pool v S e w p)) :: pt (some ⟨h.u, 0, none⟩) (SupO h.mp h.pb x { S with xs := S.xs.drop (overK S.most S.xs) }) :: pt (some ⟨h.pb, 0, none⟩) (SkO h.mp x.pool) :: G) := by
 subst hcnt
 obtain ⟨V, hV⟩ : ∃ V : FrV, V = { v with back := v.cnt, slot := -1 } := ⟨_, rfl⟩
 obtain ⟨gi, hgi⟩ : ∃ gi, gi = giveInit x.pool (S.xs.take (overK S.most S.xs)) := ⟨_, rfl⟩
 have hcl : frLeft x.pool v S e w p = ⟨4, V, e, w, p, gi, gi.done⟩ := by unfold frLeft; rw [hgi, hV]
 rw [hcl]
 subst hV
 refine Fx.mk Tryz.func241 k241 (Nat.le_of_ble_eq_true rfl) ?_
 dsimp only [c241, envOf, Nat.reduceAdd]
 refine go ?_
 refine Sx.ca rfl (machCount (b := b)) ?_
 rintro v' L' ⟨rfl, rfl⟩
 refine go ?_
 refine Sx.ca rfl (supSpill (u := h.u) (mp := h.mp) (pb := h.pb) (x := x) (s := S) (by omega) (by omega) (by omega)) ?_
 rintro v' L' ⟨r, rfl, rfl⟩
 refine go ?_
 refine Cx.orde rfl (by kernel_rfl) ?_
 refine ge ?_
 rw [← hgi]
 cases hg : gi.done with
 | true =>
   refine Ev.caH (by kernel_rfl) rfl rfl (machThrough (b := b) (machOnYes (b := b) (by kernel_rfl) ((giveDone (b := r) (pb := h.pb) (k := x.pool) (p := gi)).mono (by rintro v L' ⟨rfl, rfl⟩; exact ⟨by rw [hg], rfl⟩)) (by kernel_rfl) frOver)) (Pres.deps (by kernel_rfl)) ?_
   rintro v' L' ⟨rfl, w', rfl, w2, rfl, rfl⟩
   refine ge ?_
   refine Kr.none (.inl rfl) ?_ rfl
   refine Ent.trans (Ent.take (a := some ⟨b, 0, none⟩)) ?_
   refine Ent.trans (Ent.cons (Ent.take (a := some ⟨r, 0, none⟩))) ?_
   refine Ent.trans (FrO.closeD (gen := gen) (v := { v with back := v.cnt, slot := -1 }) ⟨4, { v with back := v.cnt, slot := -1 }, e, w, p, gi, true⟩ rfl rfl rfl rfl rfl) (Ent.cons ?_)
   exact ent
 | false =>
   refine Ev.caH (by kernel_rfl) rfl rfl (machThrough (b := b) (machOnNo (b := b) (by kernel_rfl) ((giveDone (b := r) (pb := h.pb) (k := x.pool) (p := gi)).mono (by rintro v L' ⟨rfl, rfl⟩; exact ⟨by rw [hg], rfl⟩)))) (Pres.deps (by kernel_rfl)) ?_
   rintro v' L' ⟨rfl, w', rfl, rfl⟩
   refine ge ?_
   refine Kr.none (.inl rfl) ?_ rfl
   refine Ent.trans (Ent.take (a := some ⟨b, 0, none⟩)) ?_
   refine Ent.trans (Ent.cons (Ent.take (a := some ⟨r, 0, none⟩))) ?_
   refine Ent.trans (FrO.closeG (gen := gen) (v := { v with back := v.cnt, slot := -1 }) ⟨4, { v with back := v.cnt, slot := -1 }, e, w, p, gi, false⟩ rfl rfl rfl rfl rfl) (Ent.cons ?_)
   exact ent
end
end Go.Proofs.YtflalhdofhobmaaGreat


namespace Go.Proofs.YtflalhdofhobmaaGreat
open Go
attribute [local irreducible] Sx Cx Rx Fx Krg Ksq Kbl Klp Kr
structure FrOk (x : Cn) (f : FrS) : Prop where
 a : f.at_ ≤ 4
 n : f.v.cnt ≤ 1000000
 e : f.at_ = 0 → f.e.ok
 k : f.at_ = 0 → f.e.at_ = 1 → (rtOf f.e.was).mrk ≤ x.c + 1
 c : f.at_ = 1 → 0 ≤ f.v.chunk ∧ f.v.chunk < x.c
section
variable {L F G : St}
set_option maxHeartbeats 4000000 in
theorem frStepC {b : Nat} {h : FrH} {x : Cn} {slot : Nat} {gen : Int} {m : Mm} {S : SupS} {f : FrS} {pb2 : Nat} {F1 F2 F3 F4 F5 F6 F7 : St} (hx : x.ok) (hl : x.len ≤ m.ws.length) (hs : slot < x.sl) (hb : S.xs.length + S.lm.size ≤ 1000) (hm0 : 0 ≤ S.most) (hm2 : S.most ≤ 64) (hf : f.done = false → FrOk x f)
  [t1 : Take L (some ⟨b, 0, none⟩) (FrO h x slot gen f) F1] [t2 : Take F1 (some ⟨h.u, 0, none⟩) (SupO h.mp h.pb x S) F2] [t3 : Take F2 (some ⟨h.mp, 0, none⟩) (MemO m) F3] [t4 : Take F3 (some ⟨h.pb, 0, none⟩) (SkO h.mp x.pool) F4]
  [t5 : Take F4 (some ⟨h.eo, 0, none⟩) (EnO h.mp h.ro h.ch) F5] [t6 : Take F5 (some ⟨h.ro, 0, none⟩) (RoO h.mp h.sp x) F6] [t7 : Take F6 (some ⟨h.sp, 0, none⟩) (SkO h.mp x.spare) F7] [t8 : Take F7 (some ⟨h.ch, 0, none⟩) (ChO h.mp pb2 x) G] :
  Fx Tryz.prog 55 [.pointer (some ⟨b, 0, none⟩)] L
   (fun v L' => v = .bool (!f.done) ∧ L' = pt (some ⟨b, 0, none⟩) (FrO h x slot gen (frStep (x.fr slot gen) m S f).2.2) :: pt (some ⟨h.u, 0, none⟩) (SupO h.mp h.pb x (frStep (x.fr slot gen) m S f).2.1) :: pt (some ⟨h.mp, 0, none⟩) (MemO (frStep (x.fr slot gen) m S f).1) :: F3) := by
 have hback : Ent (pt (some ⟨h.pb, 0, none⟩) (SkO h.mp x.pool) :: pt (some ⟨h.eo, 0, none⟩) (EnO h.mp h.ro h.ch) :: pt (some ⟨h.ro, 0, none⟩) (RoO h.mp h.sp x) :: pt (some ⟨h.sp, 0, none⟩) (SkO h.mp x.spare) :: pt (some ⟨h.ch, 0, none⟩) (ChO h.mp pb2 x) :: G) F3 :=
  Ent.trans (Ent.cons (Ent.trans (Ent.cons (Ent.trans (Ent.cons (Ent.trans (Ent.cons (Ent.of t8.back)) (Ent.of t7.back))) (Ent.of t6.back))) (Ent.of t5.back))) (Ent.of t4.back)
 obtain ⟨b1, b2, b3, b4, b5, b6, b7⟩ := hx.b
 refine Fx.mk Tryz.func55 k55 (Nat.le_of_ble_eq_true rfl) ?_
 dsimp only [c55, envOf, Nat.reduceAdd]
 refine Cx.ent (Ent.trans (Ent.of t1.out) (Ent.cons (Ent.trans (Ent.of t2.out) (Ent.cons (Ent.trans (Ent.of t3.out) (Ent.cons (Ent.trans (Ent.of t4.out) (Ent.cons (Ent.trans (Ent.of t5.out) (Ent.cons (Ent.trans (Ent.of t6.out) (Ent.cons (Ent.trans (Ent.of t7.out) (Ent.cons (Ent.of t8.out))))))))))))))) ?_
 refine Cx.pure (memKey (b := h.mp) (m := m)) fun hm => ?_
 cases hd : f.done with
 | true =>
   have e1 : frStep (x.fr slot gen) m S f = (m, S, f) := by unfold frStep; rw [hd]; rfl
   rw [e1]
   by_cases h4 : f.at_ = 4
   ·refine Cx.openp (a := some ⟨b, 0, none⟩) (FrO.d_ hd h4) ?_
    rintro ⟨q, ⟨n1, n2, n3⟩, ep, wp⟩
    simp only [frDL, List.cons_append, List.nil_append]
    refine go ?_
    refine Sx.ca rfl (machStepDone (b := b)) ?_
    rintro v' L' ⟨rfl, rfl⟩
    refine go ?_
    exact Kr.one (.inr rfl) rfl (Ent.trans (FrO.closeD (v := f.v) f hd h4 rfl rfl rfl) (Ent.cons (Ent.cons (Ent.cons hback)))) ⟨rfl, rfl⟩
   ·refine Cx.openp (a := some ⟨b, 0, none⟩) (FrO.s_ hd h4) ?_
    rintro ⟨n1, n2, n3, ep⟩
    simp only [frSL, List.cons_append, List.nil_append]
    refine go ?_
    refine Sx.ca rfl (machStepDone (b := b)) ?_
    rintro v' L' ⟨rfl, rfl⟩
    refine go ?_
    exact Kr.one (.inr rfl) rfl (Ent.trans (FrO.closeS (v := f.v) f hd h4 rfl rfl) (Ent.cons (Ent.cons (Ent.cons hback)))) ⟨rfl, rfl⟩
 | false =>
   obtain ⟨ka, kn, ke, kk, kc⟩ := hf hd
   obtain ⟨V, hV⟩ : ∃ V : FrV, V = { f.v with cnt := f.v.cnt + 1 } := ⟨_, rfl⟩
   have hVc : IntKind.i64.wrap ((f.v.cnt : Int) + 1) = (V.cnt : Nat) := by rw [hV]; exact cntW kn
   have hVt : V.tag = f.v.tag := by rw [hV]
   have hVk : V.chunk = f.v.chunk := by rw [hV]
   rcases (show f.at_ = 0 ∨ f.at_ = 1 ∨ f.at_ = 2 ∨ f.at_ = 3 ∨ f.at_ = 4 by omega) with h0 | h0 | h0 | h0 | h0
   ·refine Cx.openp (a := some ⟨b, 0, none⟩) (FrO.e_ hd h0) ?_
    intro q
    simp only [frEL, List.cons_append, List.nil_append]
    have hke := ke h0
    obtain ⟨E, hE⟩ : ∃ E, endStep (x.root + slot) gen m f.e = E := ⟨_, rfl⟩
    have hes := endStepC (b := q) (r := h.ro) (mp := h.mp) (sp := h.sp) (slot := slot) (gen := gen) (x := x) (m := m) (e := f.e) hx hl hs hke
     (L := pt (some ⟨b, 0, none⟩) (Blk 200 (frF .nilFunc (mth 32 q) (mth 34 q) (mth 120 b) h.eo h.u slot (IntKind.i64.wrap ((f.v.cnt : Int) + 1)) f.v (.pointer (some ⟨q, 0, none⟩)) (.pointer none) (.pointer none))) :: pt (some ⟨q, 0, none⟩) (EndO h.ro slot gen f.e) :: pt (some ⟨h.u, 0, none⟩) (SupO h.mp h.pb x S) :: pt (some ⟨h.mp, 0, none⟩) (MemO m) :: pt (some ⟨h.pb, 0, none⟩) (SkO h.mp x.pool) :: pt (some ⟨h.eo, 0, none⟩) (EnO h.mp h.ro h.ch) :: pt (some ⟨h.ro, 0, none⟩) (RoO h.mp h.sp x) :: pt (some ⟨h.sp, 0, none⟩) (SkO h.mp x.spare) :: pt (some ⟨h.ch, 0, none⟩) (ChO h.mp pb2 x) :: G)
    have hea : E.1.at_ ≤ 1 := by rw [← hE]; unfold endStep; (repeat' split) <;> first | exact hke.a | (show 1 ≤ 1; omega) | (show 0 ≤ 1; omega)
    rw [hE] at hes
    cases hq : E.1.done with
    | true =>
      have e1 : frStep (x.fr slot gen) m S f = (E.2, S, frEnded (x.fr slot gen) V E.1) := by unfold frStep; rw [hd, h0, hV]; simp only [Bool.false_eq_true, if_false, hE, hq, if_true]
      rw [e1]
      refine go ?_
      refine Sx.ca rfl (machStep (b := b) (by kernel_rfl) (machGoes (b := b) (by kernel_rfl) hes
       (R2 := fun v L' => v = .tuple #[] ∧ ∃ w : Value, L' = pt (some ⟨b, 0, none⟩) (FrO h x slot gen (frEnded (x.fr slot gen) V E.1)) :: pt (some ⟨h.eo, 0, none⟩) (EnO h.mp h.ro h.ch) :: pt (some ⟨h.ro, 0, none⟩) (RoO h.mp h.sp x) :: pt (some ⟨h.sp, 0, none⟩) (SkO h.mp x.spare) :: pt (some ⟨h.u, 0, none⟩) (SupO h.mp h.pb x S) :: pt (some ⟨h.mp, 0, none⟩) (MemO E.2) :: pt (some ⟨h.pb, 0, none⟩) (SkO h.mp x.pool) :: pt (some ⟨h.ch, 0, none⟩) (ChO h.mp pb2 x) :: G) ?_)) ?_
      ·rintro v L1 ⟨rfl, rfl⟩
       have hon := machOnYes (b := b) (by kernel_rfl) (fd := 34) (ft := 120) (w := .pointer (some ⟨q, 0, none⟩)) (u := .pointer (some ⟨b, 0, none⟩))
        (L := pt (some ⟨q, 0, none⟩) (EndO h.ro slot gen E.1) :: pt (some ⟨h.mp, 0, none⟩) (MemO E.2) :: pt (some ⟨b, 0, none⟩) (Blk 200 (frF .nilFunc (mth 32 q) (mth 34 q) (mth 120 b) h.eo h.u slot (IntKind.i64.wrap ((f.v.cnt : Int) + 1)) f.v (.pointer (some ⟨q, 0, none⟩)) (.pointer none) (.pointer none))) :: pt (some ⟨h.u, 0, none⟩) (SupO h.mp h.pb x S) :: pt (some ⟨h.pb, 0, none⟩) (SkO h.mp x.pool) :: pt (some ⟨h.eo, 0, none⟩) (EnO h.mp h.ro h.ch) :: pt (some ⟨h.ro, 0, none⟩) (RoO h.mp h.sp x) :: pt (some ⟨h.sp, 0, none⟩) (SkO h.mp x.spare) :: pt (some ⟨h.ch, 0, none⟩) (ChO h.mp pb2 x) :: G)
        ((endDone (b := q) (r := h.ro) (slot := slot) (gen := gen) (e := E.1) hea).mono (by rintro v L' ⟨rfl, rfl⟩; exact ⟨by rw [hq], rfl⟩)) (by kernel_rfl)
        (Fx.ent (M := frB b .nilFunc (mth 32 q) (mth 34 q) (mth 120 b) h.eo h.u slot (IntKind.i64.wrap ((f.v.cnt : Int) + 1)) V (.pointer (some ⟨q, 0, none⟩)) (.pointer none) (.pointer none) :: pt (some ⟨q, 0, none⟩) (EndO h.ro slot gen E.1) :: pt (some ⟨h.eo, 0, none⟩) (EnO h.mp h.ro h.ch) :: pt (some ⟨h.ro, 0, none⟩) (RoO h.mp h.sp x) :: pt (some ⟨h.sp, 0, none⟩) (SkO h.mp x.spare) :: pt (some ⟨h.u, 0, none⟩) (SupO h.mp h.pb x S) :: pt (some ⟨h.mp, 0, none⟩) (MemO E.2) :: pt (some ⟨h.pb, 0, none⟩) (SkO h.mp x.pool) :: pt (some ⟨h.ch, 0, none⟩) (ChO h.mp pb2 x) :: G) (by rw [hV]; exact ent)
         (frEnded_ (b := b) (q := q) (h := h) (x := x) (slot := slot) (gen := gen) (v := V) (e := E.1) hVc hs hq))
       refine hon.mono ?_
       rintro v L' ⟨rfl, w, rfl⟩
       exact ⟨rfl, .tuple #[], rfl⟩
      ·rintro v L' ⟨rfl, w, _, w2, _, w3, rfl⟩
       refine go ?_
       refine Kr.one (.inr rfl) rfl (Ent.cons ?_) ⟨rfl, rfl⟩
       refine Ent.trans (M := pt (some ⟨h.u, 0, none⟩) (SupO h.mp h.pb x S) :: pt (some ⟨h.mp, 0, none⟩) (MemO E.2) :: _) (by exact ent) (Ent.cons (Ent.cons hback))
    | false =>
      have e1 : frStep (x.fr slot gen) m S f = (E.2, S, ⟨0, V, E.1, WalkS.zero, gNone, gNone, false⟩) := by unfold frStep; rw [hd, h0, hV]; simp only [Bool.false_eq_true, if_false, hE, hq]
      rw [e1]
      refine go ?_
      refine Sx.ca rfl (machStep (b := b) (by kernel_rfl) (machGoes (b := b) (by kernel_rfl) hes
       (R2 := fun v L' => v = .tuple #[] ∧ L' = frB b (mth 232 b) (mth 32 q) (mth 34 q) (mth 120 b) h.eo h.u slot (IntKind.i64.wrap ((f.v.cnt : Int) + 1)) f.v (.pointer (some ⟨q, 0, none⟩)) (.pointer none) (.pointer none) :: pt (some ⟨q, 0, none⟩) (EndO h.ro slot gen E.1) :: pt (some ⟨h.mp, 0, none⟩) (MemO E.2) :: pt (some ⟨h.u, 0, none⟩) (SupO h.mp h.pb x S) :: pt (some ⟨h.pb, 0, none⟩) (SkO h.mp x.pool) :: pt (some ⟨h.eo, 0, none⟩) (EnO h.mp h.ro h.ch) :: pt (some ⟨h.ro, 0, none⟩) (RoO h.mp h.sp x) :: pt (some ⟨h.sp, 0, none⟩) (SkO h.mp x.spare) :: pt (some ⟨h.ch, 0, none⟩) (ChO h.mp pb2 x) :: G) ?_)) ?_
      ·rintro v L1 ⟨rfl, rfl⟩
       refine (machOnNo (b := b) (by kernel_rfl) ((endDone (b := q) (r := h.ro) (slot := slot) (gen := gen) (e := E.1) hea).mono (by rintro v L' ⟨rfl, rfl⟩; exact ⟨by rw [hq], rfl⟩))).mono ?_
       rintro v L' ⟨rfl, rfl⟩
       exact ⟨rfl, rfl⟩
      ·rintro v L' ⟨rfl, w, _, w2, _, rfl⟩
       refine go ?_
       refine Kr.one (.inr rfl) rfl ?_ ⟨rfl, rfl⟩
       refine Ent.trans (FrO.closeE (h := h) (x := x) (gen := gen) (v := f.v) ⟨0, V, E.1, WalkS.zero, gNone, gNone, false⟩ rfl rfl hVc (by rw [hV]) rfl) (Ent.cons ?_)
       exact Ent.trans Ent.swap (Ent.cons (Ent.cons hback))
   ·obtain ⟨kc0, kc1⟩ := kc h0
    subst hV
    refine Cx.openp (a := some ⟨b, 0, none⟩) (FrO.l_ hd h0) ?_
    rintro ⟨n1, n2, n3, ep⟩
    simp only [frLL, List.cons_append, List.nil_append]
    have e1 : frStep (x.fr slot gen) m S f = (m.tick, S, ⟨2, { f.v with cnt := f.v.cnt + 1, tag := cutE (m.at_ 2) }, f.e, ⟨[f.v.chunk], false⟩, gNone, gNone, false⟩) := by unfold frStep; rw [hd, h0]; rfl
    rw [e1]
    refine Cx.ent (M := frB b (mth 191 b) n1 n2 n3 h.eo h.u slot (f.v.cnt : Nat) f.v ep (.pointer none) (.pointer none) :: pt (some ⟨h.eo, 0, none⟩) (EnO h.mp h.ro h.ch) :: pt (some ⟨h.mp, 0, none⟩) (MemO m) :: pt (some ⟨h.ch, 0, none⟩) (ChO h.mp pb2 x) :: pt (some ⟨h.u, 0, none⟩) (SupO h.mp h.pb x S) :: pt (some ⟨h.pb, 0, none⟩) (SkO h.mp x.pool) :: pt (some ⟨h.ro, 0, none⟩) (RoO h.mp h.sp x) :: pt (some ⟨h.sp, 0, none⟩) (SkO h.mp x.spare) :: G) (by exact ent) ?_
    refine go ?_
    refine Sx.ca rfl (machStep (b := b) (by kernel_rfl) (frLook_ (b := b) (h := h) (x := x) (slot := slot) (gen := gen) (m := m) (v := { f.v with cnt := f.v.cnt + 1 }) (pb2 := pb2) f.e hVc hm.1 hl kc0 kc1)) ?_
    rintro v' L' ⟨rfl, w, rfl⟩
    refine go ?_
    refine Kr.one (.inr rfl) rfl (Ent.cons ?_) ⟨rfl, rfl⟩
    refine Ent.trans (M := pt (some ⟨h.u, 0, none⟩) (SupO h.mp h.pb x S) :: pt (some ⟨h.mp, 0, none⟩) (MemO m.tick) :: _) (by exact ent) (Ent.cons (Ent.cons hback))
   ·subst hV
    refine Cx.openp (a := some ⟨b, 0, none⟩) (FrO.w_ hd h0) ?_
    rintro ⟨q, ep⟩
    simp only [frWL, List.cons_append, List.nil_append]
    obtain ⟨T, hT⟩ : ∃ T, walkStep x.link x.c m f.w = T := ⟨_, rfl⟩
    have hts := walkStepC (b := q) (ch := h.ch) (mp := h.mp) (sb := pb2) (x := x) (m := m) (s := f.w) hx hl
     (L := pt (some ⟨b, 0, none⟩) (Blk 200 (frF .nilFunc (mth 235 q) (mth 236 q) (mth 237 b) h.eo h.u slot (IntKind.i64.wrap ((f.v.cnt : Int) + 1)) f.v ep (.pointer (some ⟨q, 0, none⟩)) (.pointer none))) :: pt (some ⟨q, 0, none⟩) (WalkO h.ch x.c f.w) :: pt (some ⟨h.u, 0, none⟩) (SupO h.mp h.pb x S) :: pt (some ⟨h.mp, 0, none⟩) (MemO m) :: pt (some ⟨h.pb, 0, none⟩) (SkO h.mp x.pool) :: pt (some ⟨h.eo, 0, none⟩) (EnO h.mp h.ro h.ch) :: pt (some ⟨h.ro, 0, none⟩) (RoO h.mp h.sp x) :: pt (some ⟨h.sp, 0, none⟩) (SkO h.mp x.spare) :: pt (some ⟨h.ch, 0, none⟩) (ChO h.mp pb2 x) :: G)
    rw [hT] at hts
    cases hq : T.1.done with
    | true =>
      have e1 : frStep (x.fr slot gen) m S f = (T.2, supRet S f.v.tag T.1.l, frLeave (x.fr slot gen) { f.v with cnt := f.v.cnt + 1 } f.e T.1) := by unfold frStep; rw [hd, h0]; simp only [Bool.false_eq_true, if_false, hT, hq, if_true]
      rw [e1]
      refine go ?_
      refine Sx.ca rfl (machStep (b := b) (by kernel_rfl) (machGoes (b := b) (by kernel_rfl) hts
       (R2 := fun v L' => v = .tuple #[] ∧ ∃ w : Value, L' = pt (some ⟨b, 0, none⟩) (FrO h x slot gen (frLeave (x.fr slot gen) { f.v with cnt := f.v.cnt + 1 } f.e T.1)) :: pt (some ⟨h.u, 0, none⟩) (SupO h.mp h.pb x (supRet S f.v.tag T.1.l)) :: pt (some ⟨h.eo, 0, none⟩) (EnO h.mp h.ro h.ch) :: pt (some ⟨h.ro, 0, none⟩) (RoO h.mp h.sp x) :: pt (some ⟨h.sp, 0, none⟩) (SkO h.mp x.spare) :: pt (some ⟨h.mp, 0, none⟩) (MemO T.2) :: pt (some ⟨h.pb, 0, none⟩) (SkO h.mp x.pool) :: pt (some ⟨h.ch, 0, none⟩) (ChO h.mp pb2 x) :: G) ?_)) ?_
      ·rintro v L1 ⟨rfl, rfl⟩
       have hon := machOnYes (b := b) (by kernel_rfl) (fd := 236) (ft := 237) (w := .pointer (some ⟨q, 0, none⟩)) (u := .pointer (some ⟨b, 0, none⟩))
        (L := pt (some ⟨q, 0, none⟩) (WalkO h.ch x.c T.1) :: pt (some ⟨h.mp, 0, none⟩) (MemO T.2) :: pt (some ⟨b, 0, none⟩) (Blk 200 (frF .nilFunc (mth 235 q) (mth 236 q) (mth 237 b) h.eo h.u slot (IntKind.i64.wrap ((f.v.cnt : Int) + 1)) f.v ep (.pointer (some ⟨q, 0, none⟩)) (.pointer none))) :: pt (some ⟨h.u, 0, none⟩) (SupO h.mp h.pb x S) :: pt (some ⟨h.pb, 0, none⟩) (SkO h.mp x.pool) :: pt (some ⟨h.eo, 0, none⟩) (EnO h.mp h.ro h.ch) :: pt (some ⟨h.ro, 0, none⟩) (RoO h.mp h.sp x) :: pt (some ⟨h.sp, 0, none⟩) (SkO h.mp x.spare) :: pt (some ⟨h.ch, 0, none⟩) (ChO h.mp pb2 x) :: G)
        ((walkDone (b := q) (ch := h.ch) (c := x.c) (s := T.1)).mono (by rintro v L' ⟨rfl, rfl⟩; exact ⟨by rw [hq], rfl⟩)) (by kernel_rfl)
        (Fx.ent (M := frB b .nilFunc (mth 235 q) (mth 236 q) (mth 237 b) h.eo h.u slot (IntKind.i64.wrap ((f.v.cnt : Int) + 1)) { f.v with cnt := f.v.cnt + 1 } ep (.pointer (some ⟨q, 0, none⟩)) (.pointer none) :: pt (some ⟨q, 0, none⟩) (WalkO h.ch x.c T.1) :: pt (some ⟨h.u, 0, none⟩) (SupO h.mp h.pb x S) :: pt (some ⟨h.eo, 0, none⟩) (EnO h.mp h.ro h.ch) :: pt (some ⟨h.ro, 0, none⟩) (RoO h.mp h.sp x) :: pt (some ⟨h.sp, 0, none⟩) (SkO h.mp x.spare) :: pt (some ⟨h.mp, 0, none⟩) (MemO T.2) :: pt (some ⟨h.pb, 0, none⟩) (SkO h.mp x.pool) :: pt (some ⟨h.ch, 0, none⟩) (ChO h.mp pb2 x) :: G) (by exact ent)
         (frWalked_ (b := b) (q := q) (h := h) (x := x) (slot := slot) (gen := gen) (v := { f.v with cnt := f.v.cnt + 1 }) (S := S) f.e T.1 hVc hs hq b2 (by omega)))
       refine hon.mono ?_
       rintro v L' ⟨rfl, w, rfl⟩
       exact ⟨rfl, .tuple #[], rfl⟩
      ·rintro v L' ⟨rfl, w, _, w2, _, w3, rfl⟩
       refine go ?_
       refine Kr.one (.inr rfl) rfl (Ent.cons ?_) ⟨rfl, rfl⟩
       refine Ent.trans (M := pt (some ⟨h.u, 0, none⟩) (SupO h.mp h.pb x (supRet S f.v.tag T.1.l)) :: pt (some ⟨h.mp, 0, none⟩) (MemO T.2) :: _) (by exact ent) (Ent.cons (Ent.cons hback))
    | false =>
      have e1 : frStep (x.fr slot gen) m S f = (T.2, S, ⟨2, { f.v with cnt := f.v.cnt + 1 }, f.e, T.1, gNone, gNone, false⟩) := by unfold frStep; rw [hd, h0]; simp only [Bool.false_eq_true, if_false, hT, hq]
      rw [e1]
      refine go ?_
      refine Sx.ca rfl (machStep (b := b) (by kernel_rfl) (machGoes (b := b) (by kernel_rfl) hts
       (R2 := fun v L' => v = .tuple #[] ∧ L' = frB b (mth 232 b) (mth 235 q) (mth 236 q) (mth 237 b) h.eo h.u slot (IntKind.i64.wrap ((f.v.cnt : Int) + 1)) f.v ep (.pointer (some ⟨q, 0, none⟩)) (.pointer none) :: pt (some ⟨q, 0, none⟩) (WalkO h.ch x.c T.1) :: pt (some ⟨h.mp, 0, none⟩) (MemO T.2) :: pt (some ⟨h.u, 0, none⟩) (SupO h.mp h.pb x S) :: pt (some ⟨h.pb, 0, none⟩) (SkO h.mp x.pool) :: pt (some ⟨h.eo, 0, none⟩) (EnO h.mp h.ro h.ch) :: pt (some ⟨h.ro, 0, none⟩) (RoO h.mp h.sp x) :: pt (some ⟨h.sp, 0, none⟩) (SkO h.mp x.spare) :: pt (some ⟨h.ch, 0, none⟩) (ChO h.mp pb2 x) :: G) ?_)) ?_
      ·rintro v L1 ⟨rfl, rfl⟩
       refine (machOnNo (b := b) (by kernel_rfl) ((walkDone (b := q) (ch := h.ch) (c := x.c) (s := T.1)).mono (by rintro v L' ⟨rfl, rfl⟩; exact ⟨by rw [hq], rfl⟩))).mono ?_
       rintro v L' ⟨rfl, rfl⟩
       exact ⟨rfl, rfl⟩
      ·rintro v L' ⟨rfl, w, _, w2, _, rfl⟩
       refine go ?_
       refine Kr.one (.inr rfl) rfl ?_ ⟨rfl, rfl⟩
       refine Ent.trans (FrO.closeW (h := h) (x := x) (gen := gen) (v := f.v) ⟨2, { f.v with cnt := f.v.cnt + 1 }, f.e, T.1, gNone, gNone, false⟩ rfl rfl hVc rfl rfl) (Ent.cons ?_)
       exact Ent.trans Ent.swap (Ent.cons (Ent.cons hback))
   ·subst hV
    refine Cx.openp (a := some ⟨b, 0, none⟩) (FrO.p_ hd h0) ?_
    rintro ⟨q, ep, wp⟩
    simp only [frPL, List.cons_append, List.nil_append]
    obtain ⟨T, hT⟩ : ∃ T, pushStep x.spare m f.p = T := ⟨_, rfl⟩
    have hts := pushStepC (b := q) (sb := h.sp) (mp := h.mp) (k := x.spare) (m := m) (p := f.p) (hx.spare (n := m.ws.length) hl hm.2)
     (L := pt (some ⟨b, 0, none⟩) (Blk 200 (frF .nilFunc (mth 239 q) (mth 240 q) (mth 241 b) h.eo h.u slot (IntKind.i64.wrap ((f.v.cnt : Int) + 1)) f.v ep wp (.pointer none))) :: pt (some ⟨q, 0, none⟩) (PushO h.sp x.spare f.p) :: pt (some ⟨h.u, 0, none⟩) (SupO h.mp h.pb x S) :: pt (some ⟨h.mp, 0, none⟩) (MemO m) :: pt (some ⟨h.pb, 0, none⟩) (SkO h.mp x.pool) :: pt (some ⟨h.eo, 0, none⟩) (EnO h.mp h.ro h.ch) :: pt (some ⟨h.ro, 0, none⟩) (RoO h.mp h.sp x) :: pt (some ⟨h.sp, 0, none⟩) (SkO h.mp x.spare) :: pt (some ⟨h.ch, 0, none⟩) (ChO h.mp pb2 x) :: G)
    rw [hT] at hts
    cases hq : T.1.done with
    | true =>
      have e1 : frStep (x.fr slot gen) m S f = (T.2, { S with xs := S.xs.drop (overK S.most S.xs) }, frLeft x.pool { f.v with cnt := f.v.cnt + 1 } S f.e f.w T.1) := by unfold frStep; rw [hd, h0]; simp only [Bool.false_eq_true, if_false, hT, hq, if_true]; rfl
      rw [e1]
      refine go ?_
      refine Sx.ca rfl (machStep (b := b) (by kernel_rfl) (machGoes (b := b) (by kernel_rfl) hts
       (R2 := fun v L' => v = .tuple #[] ∧ ∃ w : Value, L' = pt (some ⟨b, 0, none⟩) (FrO h x slot gen (frLeft x.pool { f.v with cnt := f.v.cnt + 1 } S f.e f.w T.1)) :: pt (some ⟨h.u, 0, none⟩) (SupO h.mp h.pb x { S with xs := S.xs.drop (overK S.most S.xs) }) :: pt (some ⟨h.pb, 0, none⟩) (SkO h.mp x.pool) :: pt (some ⟨h.mp, 0, none⟩) (MemO T.2) :: pt (some ⟨h.eo, 0, none⟩) (EnO h.mp h.ro h.ch) :: pt (some ⟨h.ro, 0, none⟩) (RoO h.mp h.sp x) :: pt (some ⟨h.sp, 0, none⟩) (SkO h.mp x.spare) :: pt (some ⟨h.ch, 0, none⟩) (ChO h.mp pb2 x) :: G) ?_)) ?_
      ·rintro v L1 ⟨rfl, rfl⟩
       have hon := machOnYes (b := b) (by kernel_rfl) (fd := 240) (ft := 241) (w := .pointer (some ⟨q, 0, none⟩)) (u := .pointer (some ⟨b, 0, none⟩))
        (L := pt (some ⟨q, 0, none⟩) (PushO h.sp x.spare T.1) :: pt (some ⟨h.mp, 0, none⟩) (MemO T.2) :: pt (some ⟨b, 0, none⟩) (Blk 200 (frF .nilFunc (mth 239 q) (mth 240 q) (mth 241 b) h.eo h.u slot (IntKind.i64.wrap ((f.v.cnt : Int) + 1)) f.v ep wp (.pointer none))) :: pt (some ⟨h.u, 0, none⟩) (SupO h.mp h.pb x S) :: pt (some ⟨h.pb, 0, none⟩) (SkO h.mp x.pool) :: pt (some ⟨h.eo, 0, none⟩) (EnO h.mp h.ro h.ch) :: pt (some ⟨h.ro, 0, none⟩) (RoO h.mp h.sp x) :: pt (some ⟨h.sp, 0, none⟩) (SkO h.mp x.spare) :: pt (some ⟨h.ch, 0, none⟩) (ChO h.mp pb2 x) :: G)
        ((pushDoneC (b := q) (sb := h.sp) (k := x.spare) (p := T.1)).mono (by rintro v L' ⟨rfl, rfl⟩; exact ⟨by rw [hq], rfl⟩)) (by kernel_rfl)
        (Fx.ent (M := frB b .nilFunc (mth 239 q) (mth 240 q) (mth 241 b) h.eo h.u slot (IntKind.i64.wrap ((f.v.cnt : Int) + 1)) { f.v with cnt := f.v.cnt + 1 } ep wp (.pointer none) :: pt (some ⟨h.u, 0, none⟩) (SupO h.mp h.pb x S) :: pt (some ⟨h.pb, 0, none⟩) (SkO h.mp x.pool) :: pt (some ⟨h.mp, 0, none⟩) (MemO T.2) :: pt (some ⟨h.eo, 0, none⟩) (EnO h.mp h.ro h.ch) :: pt (some ⟨h.ro, 0, none⟩) (RoO h.mp h.sp x) :: pt (some ⟨h.sp, 0, none⟩) (SkO h.mp x.spare) :: pt (some ⟨h.ch, 0, none⟩) (ChO h.mp pb2 x) :: G) (by exact ent)
         (frLeft_ (b := b) (h := h) (x := x) (slot := slot) (gen := gen) (v := { f.v with cnt := f.v.cnt + 1 }) (S := S) f.e f.w T.1 hVc (by omega) hm0 hm2))
       refine hon.mono ?_
       rintro v L' ⟨rfl, w, rfl⟩
       exact ⟨rfl, .tuple #[], rfl⟩
      ·rintro v L' ⟨rfl, w, _, w2, _, w3, rfl⟩
       refine go ?_
       refine Kr.one (.inr rfl) rfl (Ent.cons ?_) ⟨rfl, rfl⟩
       refine Ent.trans (M := pt (some ⟨h.u, 0, none⟩) (SupO h.mp h.pb x { S with xs := S.xs.drop (overK S.most S.xs) }) :: pt (some ⟨h.mp, 0, none⟩) (MemO T.2) :: _) (by exact ent) (Ent.cons (Ent.cons hback))
    | false =>
      have e1 : frStep (x.fr slot gen) m S f = (T.2, S, ⟨3, { f.v with cnt := f.v.cnt + 1 }, f.e, f.w, T.1, gNone, false⟩) := by unfold frStep; rw [hd, h0]; simp only [Bool.false_eq_true, if_false, hT, hq]
      rw [e1]
      refine go ?_
      refine Sx.ca rfl (machStep (b := b) (by kernel_rfl) (machGoes (b := b) (by kernel_rfl) hts
       (R2 := fun v L' => v = .tuple #[] ∧ L' = frB b (mth 232 b) (mth 239 q) (mth 240 q) (mth 241 b) h.eo h.u slot (IntKind.i64.wrap ((f.v.cnt : Int) + 1)) f.v ep wp (.pointer none) :: pt (some ⟨q, 0, none⟩) (PushO h.sp x.spare T.1) :: pt (some ⟨h.mp, 0, none⟩) (MemO T.2) :: pt (some ⟨h.u, 0, none⟩) (SupO h.mp h.pb x S) :: pt (some ⟨h.pb, 0, none⟩) (SkO h.mp x.pool) :: pt (some ⟨h.eo, 0, none⟩) (EnO h.mp h.ro h.ch) :: pt (some ⟨h.ro, 0, none⟩) (RoO h.mp h.sp x) :: pt (some ⟨h.sp, 0, none⟩) (SkO h.mp x.spare) :: pt (some ⟨h.ch, 0, none⟩) (ChO h.mp pb2 x) :: G) ?_)) ?_
      ·rintro v L1 ⟨rfl, rfl⟩
       refine (machOnNo (b := b) (by kernel_rfl) ((pushDoneC (b := q) (sb := h.sp) (k := x.spare) (p := T.1)).mono (by rintro v L' ⟨rfl, rfl⟩; exact ⟨by rw [hq], rfl⟩))).mono ?_
       rintro v L' ⟨rfl, rfl⟩
       exact ⟨rfl, rfl⟩
      ·rintro v L' ⟨rfl, w, _, w2, _, rfl⟩
       refine go ?_
       refine Kr.one (.inr rfl) rfl ?_ ⟨rfl, rfl⟩
       refine Ent.trans (FrO.closeP (h := h) (x := x) (gen := gen) (v := f.v) ⟨3, { f.v with cnt := f.v.cnt + 1 }, f.e, f.w, T.1, gNone, false⟩ rfl rfl hVc rfl rfl) (Ent.cons ?_)
       exact Ent.trans Ent.swap (Ent.cons (Ent.cons hback))
   ·subst hV
    refine Cx.openp (a := some ⟨b, 0, none⟩) (FrO.g_ hd h0) ?_
    rintro ⟨q, ep, wp⟩
    simp only [frGL, List.cons_append, List.nil_append]
    obtain ⟨T, hT⟩ : ∃ T, pushStep x.pool m f.g = T := ⟨_, rfl⟩
    have hts := giveStep (b := q) (mp := h.mp) (pb := h.pb) (k := x.pool) (m := m) (p := f.g) (hx.pool (n := m.ws.length) hl hm.2)
     (L := pt (some ⟨b, 0, none⟩) (Blk 200 (frF .nilFunc (mth 208 q) (mth 188 q) (mth 259 b) h.eo h.u slot (IntKind.i64.wrap ((f.v.cnt : Int) + 1)) f.v ep wp (.pointer (some ⟨q, 0, none⟩)))) :: pt (some ⟨q, 0, none⟩) (GiveO h.pb x.pool f.g) :: pt (some ⟨h.u, 0, none⟩) (SupO h.mp h.pb x S) :: pt (some ⟨h.mp, 0, none⟩) (MemO m) :: pt (some ⟨h.pb, 0, none⟩) (SkO h.mp x.pool) :: pt (some ⟨h.eo, 0, none⟩) (EnO h.mp h.ro h.ch) :: pt (some ⟨h.ro, 0, none⟩) (RoO h.mp h.sp x) :: pt (some ⟨h.sp, 0, none⟩) (SkO h.mp x.spare) :: pt (some ⟨h.ch, 0, none⟩) (ChO h.mp pb2 x) :: G)
    have e1 : frStep (x.fr slot gen) m S f = (T.2, S, ⟨4, { f.v with cnt := f.v.cnt + 1 }, f.e, f.w, f.p, T.1, T.1.done⟩) := by unfold frStep; rw [hd, h0]; simp only [Bool.false_eq_true, if_false, hT]
    rw [hT] at hts
    rw [e1]
    refine go ?_
    cases hq : T.1.done with
    | true =>
      refine Sx.ca rfl (machStep (b := b) (by kernel_rfl) (machGoes (b := b) (by kernel_rfl) hts
       (R2 := fun v L' => v = .tuple #[] ∧ ∃ w : Value, w = .tuple #[] ∧ pt (some ⟨q, 0, none⟩) (GiveO h.pb x.pool T.1) :: pt (some ⟨h.mp, 0, none⟩) (MemO T.2) :: pt (some ⟨b, 0, none⟩) (Blk 200 (frF .nilFunc (mth 208 q) (mth 188 q) (mth 259 b) h.eo h.u slot (IntKind.i64.wrap ((f.v.cnt : Int) + 1)) f.v ep wp (.pointer (some ⟨q, 0, none⟩)))) :: pt (some ⟨h.u, 0, none⟩) (SupO h.mp h.pb x S) :: pt (some ⟨h.pb, 0, none⟩) (SkO h.mp x.pool) :: pt (some ⟨h.eo, 0, none⟩) (EnO h.mp h.ro h.ch) :: pt (some ⟨h.ro, 0, none⟩) (RoO h.mp h.sp x) :: pt (some ⟨h.sp, 0, none⟩) (SkO h.mp x.spare) :: pt (some ⟨h.ch, 0, none⟩) (ChO h.mp pb2 x) :: G = L') ?_)) ?_
      ·rintro v L1 ⟨rfl, rfl⟩
       exact machOnYes (b := b) (by kernel_rfl) ((giveDone (b := q) (pb := h.pb) (k := x.pool) (p := T.1)).mono (by rintro v L' ⟨rfl, rfl⟩; exact ⟨by rw [hq], rfl⟩)) (by kernel_rfl) frOver
      ·rintro v L' ⟨rfl, w, _, w2, _, w3, _, rfl⟩
       refine go ?_
       refine Kr.one (.inr rfl) rfl ?_ ⟨rfl, rfl⟩
       refine Ent.trans (Ent.take (a := some ⟨b, 0, none⟩)) ?_
       refine Ent.trans (FrO.closeD (h := h) (x := x) (gen := gen) (v := f.v) ⟨4, { f.v with cnt := f.v.cnt + 1 }, f.e, f.w, f.p, T.1, true⟩ rfl rfl hVc rfl rfl) (Ent.cons ?_)
       exact Ent.trans Ent.swap (Ent.cons (Ent.cons hback))
    | false =>
      refine Sx.ca rfl (machStep (b := b) (by kernel_rfl) (machGoes (b := b) (by kernel_rfl) hts
       (R2 := fun v L' => v = .tuple #[] ∧ L' = frB b (mth 232 b) (mth 208 q) (mth 188 q) (mth 259 b) h.eo h.u slot (IntKind.i64.wrap ((f.v.cnt : Int) + 1)) f.v ep wp (.pointer (some ⟨q, 0, none⟩)) :: pt (some ⟨q, 0, none⟩) (GiveO h.pb x.pool T.1) :: pt (some ⟨h.mp, 0, none⟩) (MemO T.2) :: pt (some ⟨h.u, 0, none⟩) (SupO h.mp h.pb x S) :: pt (some ⟨h.pb, 0, none⟩) (SkO h.mp x.pool) :: pt (some ⟨h.eo, 0, none⟩) (EnO h.mp h.ro h.ch) :: pt (some ⟨h.ro, 0, none⟩) (RoO h.mp h.sp x) :: pt (some ⟨h.sp, 0, none⟩) (SkO h.mp x.spare) :: pt (some ⟨h.ch, 0, none⟩) (ChO h.mp pb2 x) :: G) ?_)) ?_
      ·rintro v L1 ⟨rfl, rfl⟩
       refine (machOnNo (b := b) (by kernel_rfl) ((giveDone (b := q) (pb := h.pb) (k := x.pool) (p := T.1)).mono (by rintro v L' ⟨rfl, rfl⟩; exact ⟨by rw [hq], rfl⟩))).mono ?_
       rintro v L' ⟨rfl, rfl⟩
       exact ⟨rfl, rfl⟩
      ·rintro v L' ⟨rfl, w, _, w2, _, rfl⟩
       refine go ?_
       refine Kr.one (.inr rfl) rfl ?_ ⟨rfl, rfl⟩
       refine Ent.trans (FrO.closeG (h := h) (x := x) (gen := gen) (v := f.v) ⟨4, { f.v with cnt := f.v.cnt + 1 }, f.e, f.w, f.p, T.1, false⟩ rfl rfl hVc rfl rfl) (Ent.cons ?_)
       exact Ent.trans Ent.swap (Ent.cons (Ent.cons hback))
end
end Go.Proofs.YtflalhdofhobmaaGreat


namespace Go.Proofs.YtflalhdofhobmaaGreat
open Go
attribute [local irreducible] Sx Cx Rx Fx Krg Ksq Kbl Klp Kr
section
variable {L F G : St}
theorem endsFree {h : FrH} {x : Cn} (slot : Nat) (gen : Int) (hs : slot < x.sl) [t : Take L (some ⟨h.eo, 0, none⟩) (EnO h.mp h.ro h.ch) F] {F2 : St} [c : Take F (some ⟨h.ro, 0, none⟩) (RoO h.mp h.sp x) F2] :
  Fx Tryz.prog 48 [.pointer (some ⟨h.eo, 0, none⟩), .pointer (some ⟨h.u, 0, none⟩), .int .i64 slot, .int .i64 gen] L (fun v L' => ∃ b, v = .tuple #[.pointer (some ⟨b, 0, none⟩), .int .i64 0] ∧ L' = pt (some ⟨b, 0, none⟩) (FrO h x slot gen FrS.init) :: L) := by
 refine Fx.mk Tryz.func48 k48 (Nat.le_of_ble_eq_true rfl) ?_
 dsimp only [c48, envOf, Nat.reduceAdd]
 refine Cx.ent (Ent.trans (Ent.of t.out) (Ent.cons (Ent.of c.out))) ?_
 refine go ?_
 refine Sx.ca rfl (rootsEnd (g := h.ro) (mp := h.mp) (sb := h.sp) (x := x) slot gen hs) ?_
 rintro v L' ⟨e, rfl, rfl⟩
 refine go ?_
 refine Sx.bx rfl rfl fun b => ?_
 refine Sx.re (frF .nilFunc .nilFunc .nilFunc .nilFunc h.eo h.u slot 0 ⟨0, 0, -1, -1, 0, 0, 0⟩ (.pointer (some ⟨e, 0, none⟩)) (.pointer none) (.pointer none)) rfl ?_
 refine go ?_
 refine Sx.ca rfl (machThrough (b := b) (machOnNo (b := b) (by kernel_rfl) (endDone (b := e) (r := h.ro) (slot := slot) (gen := gen) (e := EndS.init) (by show 0 ≤ 1; omega)))) ?_
 rintro v' L' ⟨rfl, w', rfl, rfl⟩
 refine go ?_
 refine Kr.two (.inr rfl) rfl rfl ?_ ⟨b, rfl, rfl⟩
 refine Ent.trans (Ent.take (a := some ⟨b, 0, none⟩)) ?_
 refine Ent.trans (Ent.cons (Ent.take (a := some ⟨e, 0, none⟩))) ?_
 refine Ent.trans (FrO.closeE (h := h) (x := x) (gen := gen) (v := ⟨0, 0, -1, -1, 0, 0, 0⟩) FrS.init rfl rfl rfl rfl rfl) (Ent.cons ?_)
 exact Ent.trans (Ent.cons (Ent.of c.back)) (Ent.of t.back)
theorem frDoneY {b : Nat} {h : FrH} {x : Cn} {slot : Nat} {gen : Int} {s : FrS} {F1 : St} (hd : s.done = true) [t1 : Take L (some ⟨b, 0, none⟩) (FrO h x slot gen s) F1] : Fx Tryz.prog 56 [.pointer (some ⟨b, 0, none⟩)] L (fun v L' => v = .bool true ∧ L = L') := by
 refine Fx.kept (t := t1) ?_
 refine Fx.mk Tryz.func56 k56 (Nat.le_of_ble_eq_true rfl) ?_
 dsimp only [c56, envOf, Nat.reduceAdd]
 refine Cx.ent (Ent.of t1.out) ?_
 by_cases h4 : s.at_ = 4
 ·refine Cx.openp (a := some ⟨b, 0, none⟩) (FrO.d_ hd h4) ?_
  rintro ⟨q, ⟨n1, n2, n3⟩, ep, wp⟩
  simp only [frDL, List.cons_append, List.nil_append]
  refine go ?_
  refine Sx.ca rfl (machDoneYes (b := b)) ?_
  rintro v' L' ⟨rfl, rfl⟩
  refine go ?_
  exact Kr.one (.inr rfl) rfl (FrO.closeD (v := s.v) s hd h4 rfl rfl rfl) ⟨rfl, rfl⟩
 ·refine Cx.openp (a := some ⟨b, 0, none⟩) (FrO.s_ hd h4) ?_
  rintro ⟨n1, n2, n3, ep⟩
  simp only [frSL, List.cons_append, List.nil_append]
  refine go ?_
  refine Sx.ca rfl (machDoneYes (b := b)) ?_
  rintro v' L' ⟨rfl, rfl⟩
  refine go ?_
  exact Kr.one (.inr rfl) rfl (FrO.closeS (v := s.v) s hd h4 rfl rfl) ⟨rfl, rfl⟩
theorem frCodeD {b : Nat} {h : FrH} {x : Cn} {slot : Nat} {gen : Int} {s : FrS} {F1 : St} (hd : s.done = true) [t1 : Take L (some ⟨b, 0, none⟩) (FrO h x slot gen s) F1] : Fx Tryz.prog 50 [.pointer (some ⟨b, 0, none⟩)] L (fun v L' => v = .int .i64 (s.v.code : Nat) ∧ L = L') := by
 refine Fx.kept (t := t1) ?_
 refine Fx.mk Tryz.func50 k50 (Nat.le_of_ble_eq_true rfl) ?_
 dsimp only [c50, envOf, Nat.reduceAdd]
 refine Cx.ent (Ent.of t1.out) ?_
 refine go ?_
 refine Sx.ca rfl (frDoneY (b := b) (h := h) (x := x) (slot := slot) (gen := gen) (s := s) hd) ?_
 rintro v L' ⟨rfl, rfl⟩
 refine go ?_
 by_cases h4 : s.at_ = 4
 ·refine Sx.openp (a := some ⟨b, 0, none⟩) (FrO.d_ hd h4) ?_
  rintro ⟨q, ⟨n1, n2, n3⟩, ep, wp⟩
  simp only [frDL, List.cons_append, List.nil_append]
  refine go ?_
  exact Kr.one (.inr rfl) rfl (FrO.closeD (v := s.v) s hd h4 rfl rfl rfl) ⟨rfl, rfl⟩
 ·refine Sx.openp (a := some ⟨b, 0, none⟩) (FrO.s_ hd h4) ?_
  rintro ⟨n1, n2, n3, ep⟩
  simp only [frSL, List.cons_append, List.nil_append]
  refine go ?_
  exact Kr.one (.inr rfl) rfl (FrO.closeS (v := s.v) s hd h4 rfl rfl) ⟨rfl, rfl⟩
theorem frPointD {b : Nat} {h : FrH} {x : Cn} {slot : Nat} {gen : Int} {s : FrS} {F1 : St} (hd : s.done = true) [t1 : Take L (some ⟨b, 0, none⟩) (FrO h x slot gen s) F1] : Fx Tryz.prog 51 [.pointer (some ⟨b, 0, none⟩)] L (fun v L' => v = .int .i64 (s.v.point : Nat) ∧ L = L') := by
 refine Fx.kept (t := t1) ?_
 refine Fx.mk Tryz.func51 k51 (Nat.le_of_ble_eq_true rfl) ?_
 dsimp only [c51, envOf, Nat.reduceAdd]
 refine Cx.ent (Ent.of t1.out) ?_
 by_cases h4 : s.at_ = 4
 ·refine Cx.openp (a := some ⟨b, 0, none⟩) (FrO.d_ hd h4) ?_
  rintro ⟨q, ⟨n1, n2, n3⟩, ep, wp⟩
  simp only [frDL, List.cons_append, List.nil_append]
  refine go ?_
  exact Kr.one (.inr rfl) rfl (FrO.closeD (v := s.v) s hd h4 rfl rfl rfl) ⟨rfl, rfl⟩
 ·refine Cx.openp (a := some ⟨b, 0, none⟩) (FrO.s_ hd h4) ?_
  rintro ⟨n1, n2, n3, ep⟩
  simp only [frSL, List.cons_append, List.nil_append]
  refine go ?_
  exact Kr.one (.inr rfl) rfl (FrO.closeS (v := s.v) s hd h4 rfl rfl) ⟨rfl, rfl⟩
theorem frBackD {b : Nat} {h : FrH} {x : Cn} {slot : Nat} {gen : Int} {s : FrS} {F1 : St} (hd : s.done = true) [t1 : Take L (some ⟨b, 0, none⟩) (FrO h x slot gen s) F1] : Fx Tryz.prog 52 [.pointer (some ⟨b, 0, none⟩)] L (fun v L' => v = .int .i64 (s.v.back : Nat) ∧ L = L') := by
 refine Fx.kept (t := t1) ?_
 refine Fx.mk Tryz.func52 k52 (Nat.le_of_ble_eq_true rfl) ?_
 dsimp only [c52, envOf, Nat.reduceAdd]
 refine Cx.ent (Ent.of t1.out) ?_
 by_cases h4 : s.at_ = 4
 ·refine Cx.openp (a := some ⟨b, 0, none⟩) (FrO.d_ hd h4) ?_
  rintro ⟨q, ⟨n1, n2, n3⟩, ep, wp⟩
  simp only [frDL, List.cons_append, List.nil_append]
  refine go ?_
  exact Kr.one (.inr rfl) rfl (FrO.closeD (v := s.v) s hd h4 rfl rfl rfl) ⟨rfl, rfl⟩
 ·refine Cx.openp (a := some ⟨b, 0, none⟩) (FrO.s_ hd h4) ?_
  rintro ⟨n1, n2, n3, ep⟩
  simp only [frSL, List.cons_append, List.nil_append]
  refine go ?_
  exact Kr.one (.inr rfl) rfl (FrO.closeS (v := s.v) s hd h4 rfl rfl) ⟨rfl, rfl⟩
theorem frSlotD {b : Nat} {h : FrH} {x : Cn} {slot : Nat} {gen : Int} {s : FrS} {F1 : St} (hd : s.done = true) [t1 : Take L (some ⟨b, 0, none⟩) (FrO h x slot gen s) F1] : Fx Tryz.prog 60 [.pointer (some ⟨b, 0, none⟩)] L (fun v L' => v = .int .i64 s.v.slot ∧ L = L') := by
 refine Fx.kept (t := t1) ?_
 refine Fx.mk Tryz.func60 k60 (Nat.le_of_ble_eq_true rfl) ?_
 dsimp only [c60, envOf, Nat.reduceAdd]
 refine Cx.ent (Ent.of t1.out) ?_
 by_cases h4 : s.at_ = 4
 ·refine Cx.openp (a := some ⟨b, 0, none⟩) (FrO.d_ hd h4) ?_
  rintro ⟨q, ⟨n1, n2, n3⟩, ep, wp⟩
  simp only [frDL, List.cons_append, List.nil_append]
  refine go ?_
  exact Kr.one (.inr rfl) rfl (FrO.closeD (v := s.v) s hd h4 rfl rfl rfl) ⟨rfl, rfl⟩
 ·refine Cx.openp (a := some ⟨b, 0, none⟩) (FrO.s_ hd h4) ?_
  rintro ⟨n1, n2, n3, ep⟩
  simp only [frSL, List.cons_append, List.nil_append]
  refine go ?_
  exact Kr.one (.inr rfl) rfl (FrO.closeS (v := s.v) s hd h4 rfl rfl) ⟨rfl, rfl⟩
theorem giveHandN {b pb : Nat} {k : Sk} {p : PushS} {F1 : St} (hd : p.done = true) [t1 : Take L (some ⟨b, 0, none⟩) (GiveO pb k p) F1] : Fx Tryz.prog 117 [.pointer (some ⟨b, 0, none⟩)] L (fun v L' => v = .slice none 0 0 ∧ L = L') := by
 refine Fx.mk Tryz.func117 k117 (Nat.le_of_ble_eq_true rfl) ?_
 dsimp only [c117, envOf, Nat.reduceAdd]
 refine go ?_
 refine Sx.ca rfl (giveDone (b := b) (pb := pb) (k := k) (p := p)) ?_
 rintro v L' ⟨rfl, rfl⟩
 rw [hd]
 refine go ?_
 exact Kr.one (.inr rfl) rfl (Ent.refl _) ⟨rfl, rfl⟩
theorem frHandD {b : Nat} {h : FrH} {x : Cn} {slot : Nat} {gen : Int} {s : FrS} {F1 : St} (hd : s.done = true) (h4 : s.at_ = 4) (hg : s.g.done = true) [t1 : Take L (some ⟨b, 0, none⟩) (FrO h x slot gen s) F1] : Fx Tryz.prog 63 [.pointer (some ⟨b, 0, none⟩)] L (fun v L' => v = .slice none 0 0 ∧ L = L') := by
 refine Fx.kept (t := t1) ?_
 refine Fx.mk Tryz.func63 k63 (Nat.le_of_ble_eq_true rfl) ?_
 dsimp only [c63, envOf, Nat.reduceAdd]
 refine Cx.ent (Ent.of t1.out) ?_
 refine Cx.openp (a := some ⟨b, 0, none⟩) (FrO.d_ hd h4) ?_
 rintro ⟨q, ⟨n1, n2, n3⟩, ep, wp⟩
 simp only [frDL, List.cons_append, List.nil_append]
 refine go ?_
 refine Sx.ca rfl (giveHandN (b := q) (pb := h.pb) (k := x.pool) (p := s.g) hg) ?_
 rintro v L' ⟨rfl, rfl⟩
 refine go ?_
 exact Kr.one (.inr rfl) rfl (FrO.closeD (v := s.v) s hd h4 rfl rfl rfl) ⟨rfl, rfl⟩
end
end Go.Proofs.YtflalhdofhobmaaGreat


namespace Go.Proofs.YtflalhdofhobmaaGreat
open Go
attribute [local irreducible] Sx Cx Rx Fx Krg Ksq Kbl Klp Kr
section
variable {L F G : St}
theorem endingNew {mp : Nat} {m : Mm} {x : Cn} (hx : x.ok) (hl : x.len ≤ m.ws.length) [t : Take L (some ⟨mp, 0, none⟩) (MemO m) F] :
  Fx Tryz.prog 47 [.pointer (some ⟨mp, 0, none⟩), x.v] L (fun v L' => ∃ eo ro sp ch pb, v = .tuple #[.pointer (some ⟨eo, 0, none⟩), .int .i64 0] ∧
   L' = pt (some ⟨eo, 0, none⟩) (EnO mp ro ch) :: pt (some ⟨ch, 0, none⟩) (ChO mp pb x) :: pt (some ⟨pb, 0, none⟩) (SkO mp x.pool) :: pt (some ⟨ro, 0, none⟩) (RoO mp sp x) :: pt (some ⟨sp, 0, none⟩) (SkO mp x.spare) :: L) := by
 refine Fx.mk Tryz.func47 k47 (Nat.le_of_ble_eq_true rfl) ?_
 dsimp only [c47, envOf, Nat.reduceAdd]
 refine Cx.sq ?_
 refine Cx.rg ?_
 refine Sx.bx rfl rfl fun g0 => ?_
 refine go ?_
 refine Sx.ca rfl (rootsNew (mp := mp) (m := m) hx hl) ?_
 rintro v L' ⟨ro, sp, rfl, rfl⟩
 refine go ?_
 refine Sx.ca rfl (chainNew (mp := mp) (m := m) hx hl) ?_
 rintro v L' ⟨ch, pb, rfl, rfl⟩
 refine go ?_
 refine Sx.bx rfl rfl fun eo => ?_
 refine Sx.re [.pointer (some ⟨mp, 0, none⟩), .pointer (some ⟨ro, 0, none⟩), .pointer (some ⟨ch, 0, none⟩)] rfl ?_
 refine go ?_
 refine Kr.two (.inr rfl) rfl rfl ?_ ⟨eo, ro, sp, ch, pb, rfl, rfl⟩
 refine Ent.cons (Ent.cons (Ent.cons (Ent.cons (Ent.cons ?_))))
 exact Ent.drop
structure He where
 eo : Nat
 ro : Nat
 sp : Nat
 ch : Nat
 pb : Nat
abbrev ehV (x : Cn) (n : Hn) (e : He) (r r2 : Option Addr) (k c c2 : Nat) : List Value :=
 [.int .i64 x.w, .int .i64 x.c, .int .i64 x.wd, .int .i64 x.sl, .int .i64 x.ca, .int .i64 x.ba, .pointer (some ⟨n.mp, 0, none⟩), .pointer (some ⟨n.ro, 0, none⟩), .pointer (some ⟨n.g, 0, none⟩), .pointer (some ⟨e.eo, 0, none⟩), .pointer (some ⟨n.pb, 0, none⟩), .slice r k c, .pointer (some ⟨n.w, 0, none⟩), .slice r2 k c2]
abbrev ehF (x : Cn) (n : Hn) (e : He) (r r2 : Option Addr) (k c c2 : Nat) (Q : Nat → Who) (S S2 : Nat → SupS) (m m2 : Mm) (G : St) : St :=
 pt (some ⟨n.a, 0, none⟩) (Blk 97 (ehV x n e r r2 k c c2)) :: pt r (Row 47 1 k c (ptrs k fun i => (Q i).u)) :: pt r2 (Row 81 1 k c2 (ptrs k fun i => (Q i).s)) ::
 pt (some ⟨n.mp, 0, none⟩) (MemO m) :: pt (some ⟨n.pb, 0, none⟩) (SkO n.mp x.pool) :: pt (some ⟨n.ro, 0, none⟩) (RoO n.mp n.sp x) :: pt (some ⟨n.sp, 0, none⟩) (SkO n.mp x.spare) :: pt (some ⟨n.g, 0, none⟩) (GrO n.mp x) ::
 pt (some ⟨n.w, 0, none⟩) (RWO x n.rm n.rp n.rs n.re) :: pt (some ⟨n.rm, 0, none⟩) (RMemO m2) :: pt (some ⟨n.rp, 0, none⟩) (RSkO n.rm x.pool) :: pt (some ⟨n.rs, 0, none⟩) (RSkO n.rm x.spare) :: pt (some ⟨n.re, 0, none⟩) (REpO x n.rm) ::
 pt (some ⟨e.eo, 0, none⟩) (EnO n.mp e.ro e.ch) :: pt (some ⟨e.ro, 0, none⟩) (RoO n.mp e.sp x) :: pt (some ⟨e.sp, 0, none⟩) (SkO n.mp x.spare) :: pt (some ⟨e.ch, 0, none⟩) (ChO n.mp e.pb x) :: pt (some ⟨e.pb, 0, none⟩) (SkO n.mp x.pool) ::
 (many k (fun i => whoL n.mp n.w x (Q i) (S i) (S2 i)) ++ G)
set_option maxHeartbeats 4000000 in
theorem enMade {x : Cn} (hx : x.ok) : Fx Tryz.prog 46 [x.v] L (fun v L' => ∃ (n : Hn) (e : He) (r r2 c c2 : Nat) (Q : Nat → Who), v = .pointer (some ⟨n.a, 0, none⟩) ∧
  L' = ehF x n e (some ⟨r, 0, none⟩) (some ⟨r2, 0, none⟩) 3 c c2 Q (fun _ => SupS.nil x.ca) (fun _ => SupS.nil x.ca) (allM x) (allM x) L) := by
 obtain ⟨b1, b2, b3, b4, b5, b6, b7⟩ := hx.b
 have hlen := hx.len_le
 have hl1 : 1 ≤ x.len := by unfold Cn.len; omega
 have hpl := poolM_len x
 have hzl := zeroM_len x
 have hal := allM_len x
 have hroot : x.root + x.sl = x.slot := by unfold Cn.root Cn.slot; omega
 have hslot : x.slot + x.sl = x.link := by unfold Cn.slot Cn.link; omega
 have hzr : zeroRt x (fillM x.spare (fillM x.pool (zeroM x))) x.sl = allM x := by
  refine zeroRt_same (m := allM x) (by rw [hal]; have : x.link ≤ x.len := by unfold Cn.link Cn.len; omega
                                       omega) (fun i hi => ?_) x.sl (Nat.le_refl _)
  exact allM_at hx (by unfold Cn.root; omega) (by unfold Cn.root; omega) (by omega) (by omega)
 refine Fx.mk Tryz.func46 k46 (Nat.le_of_ble_eq_true rfl) ?_
 dsimp only [c46, envOf, Nat.reduceAdd]
 refine Cx.sq ?_
 refine Cx.rg ?_
 refine Sx.bx rfl rfl fun g0 => ?_
 refine go ?_
 refine Sx.ca rfl (layLen (x.w : Int) x.c x.wd x.sl x.ca x.ba hx) ?_
 rintro v L' ⟨rfl, rfl⟩
 rw [x.lenC]
 refine go ?_
 refine Sx.ca rfl (cellsNew x.len hl1 hlen) ?_
 rintro v L' ⟨mp, rfl, rfl⟩
 refine go ?_
 refine Sx.ca rfl (chainNew (mp := mp) (m := zeroM x) hx (by omega)) ?_
 rintro v L' ⟨ch, pb, rfl, rfl⟩
 refine go ?_
 refine Sx.ca rfl (rootsNew (mp := mp) (m := zeroM x) hx (by omega)) ?_
 rintro v L' ⟨ro, sp, rfl, rfl⟩
 refine go ?_
 refine Sx.ca rfl (grantNew (mp := mp) (m := zeroM x) hx (by omega)) ?_
 rintro v L' ⟨g, rfl, rfl⟩
 refine go ?_
 refine Sx.ca rfl (endingNew (mp := mp) (m := zeroM x) hx (by omega)) ?_
 rintro v L' ⟨eo, ro2, sp2, ch2, pb3, rfl, rfl⟩
 refine go ?_
 refine Sx.ca rfl (chainPool (g := ch) (mp := mp) (sb := pb) (x := x)) ?_
 rintro v L' ⟨rfl, rfl⟩
 refine go ?_
 refine Sx.ca rfl (chainFill (g := ch) (mp := mp) (sb := pb) (x := x) (m := zeroM x) (hx.pool (by omega) (by omega))) ?_
 rintro v L' rfl
 refine go ?_
 refine Sx.ca rfl (rootsFill (g := ro) (mp := mp) (sb := sp) (x := x) (m := fillM x.pool (zeroM x)) hx (by rw [fillM_len]; omega)) ?_
 rintro v L' rfl
 rw [hzr]
 refine go ?_
 refine Cx.ordc rfl (by kernel_rfl) ?_
 refine ge ?_
 refine Ev.cakH (by kernel_rfl) rfl rfl (chainPool (g := ch) (mp := mp) (sb := pb) (x := x)) ?_
 refine ge ?_
 refine Ev.caH (by kernel_rfl) rfl rfl (refWNew hx) (.dep rfl (.dep rfl (.keep (fun v L' ⟨_, _, _, _, _, _, e⟩ => by subst e; exact Has.blk) .nil))) ?_
 rintro v L' ⟨w, rm, rp, rs, re, rfl, rfl⟩
 refine ge ?_
 refine Ev.bxH (by kernel_rfl) rfl rfl rfl (Pres.deps (by kernel_rfl)) fun a => ?_
 refine ge ?_
 refine go ?_
 refine Cx.lp (α := {p : Nat × (Nat → Who) × (Option Addr × Nat) × (Option Addr × Nat) // p.1 ≤ 3})
  (fun p => [(1, .pointer (some ⟨g0, 0, none⟩)), (3, .pointer (some ⟨mp, 0, none⟩)), (13, .pointer (some ⟨a, 0, none⟩)), (14, .int .i64 (p.1.1 : Nat))])
  (fun p => pt (some ⟨g0, 0, none⟩) (Blk 24 x.l) :: ehF x ⟨a, mp, ro, sp, g, pb, w, rm, rp, rs, re⟩ ⟨eo, ro2, sp2, ch2, pb3⟩ p.1.2.2.1.1 p.1.2.2.2.1 p.1.1 p.1.2.2.1.2 p.1.2.2.2.2 p.1.2.1 (fun _ => SupS.nil x.ca) (fun _ => SupS.nil x.ca) (allM x) (allM x) L)
  (fun p => 3 - p.1.1) ⟨(0, fun _ => ⟨0, 0, 0⟩, (none, 0), (none, 0)), Nat.zero_le _⟩ (sub.cons rfl (sub.cons rfl (sub.cons rfl (sub.cons rfl sub.nil)))) ?_ ?_
 ·dsimp only [ehF]
  rw [many_zero]
  refine Ent.trans (Ent.take (a := some ⟨g0, 0, none⟩)) (Ent.cons ?_)
  refine Ent.trans (Ent.take (a := some ⟨a, 0, none⟩)) (Ent.cons ?_)
  refine Ent.trans (Ent.rownil 81 1) (Ent.trans (Ent.rownil 47 1) (Ent.cons (Ent.cons ?_)))
  simp only [List.nil_append]
  rw [show allM x = fillM x.spare (fillM x.pool (zeroM x)) from rfl]
  exact ent
 rintro ⟨⟨j, Q, ⟨r, c⟩, ⟨r2, c2⟩⟩, hj⟩
 dsimp only [ehF] at hj ⊢
 refine go ?_
 refine Cx.ifp rfl (fun h => ?_) (fun h => ?_)
 ·refine go ?_
  refine Sx.ca rfl (supNew (mp := mp) (m := allM x) hx (by omega)) ?_
  rintro v L' ⟨u, pb2, rfl, rfl⟩
  refine go ?_
  refine Sx.bs (sz := 1) rfl rfl fun q => ?_
  refine Sx.ap (ra := r) rfl rfl (Rd.row (b := q) (E := 47) (cap := 1) rfl) rfl (by simp [maxLen]; omega) (by omega) fun r' c' hc => ?_
  refine go ?_
  refine Cx.orde rfl (by kernel_rfl) ?_
  refine ge ?_
  refine Ev.caH (by kernel_rfl) rfl rfl (refSupply (w := w) (rm := rm) (rp := rp) (rs := rs) (re := re) (x := x)) (.dep rfl (.keep (fun v L' ⟨_, _, _, _, e⟩ => by subst e; exact Has.cell rfl) .nil)) ?_
  rintro v L' ⟨s, st, lm, rfl, rfl⟩
  refine ge ?_
  refine Ev.bsH (sz := 1) (by kernel_rfl) rfl rfl rfl (.dep rfl (.keep (fun v L' ⟨_, _, e⟩ => by subst e; exact Has.cell rfl) .nil)) fun q2 => ?_
  refine ge ?_
  refine Ev.apH (ra := r2) (by kernel_rfl) rfl rfl rfl (Rd.row (b := q2) (E := 81) (cap := 1) rfl) rfl (by simp [maxLen]; omega) (by omega) (Pres.deps (by kernel_rfl)) fun r2' c2' hc2 hk2 => ?_
  refine ge ?_
  refine Ev.stbH (b := a) (by kernel_rfl) rfl rfl rfl rfl rfl (by rfl) rfl (Pres.deps (by kernel_rfl)) ?_
  refine ge ?_
  refine go ?_
  rw [w64 (n := (j : Int) + 1) (by omega) (by omega)]
  refine Klp.nm ⟨(j + 1, updQ Q j ⟨u, pb2, s⟩, (r', c'), (r2', c2')), by dsimp only; omega⟩ (sub.cons rfl (sub.cons rfl (sub.cons rfl (sub.cons rfl sub.nil)))) ?_ (by dsimp only; omega)
  have eu : ptrs j (fun i => (updQ Q j ⟨u, pb2, s⟩ i).u) = ptrs j fun i => (Q i).u := ptrs_congr fun i hi => by simp [updQ, show i ≠ j by omega]
  have es : ptrs j (fun i => (updQ Q j ⟨u, pb2, s⟩ i).s) = ptrs j fun i => (Q i).s := ptrs_congr fun i hi => by simp [updQ, show i ≠ j by omega]
  have em : many j (fun i => whoL mp w x (updQ Q j ⟨u, pb2, s⟩ i) (SupS.nil x.ca) (SupS.nil x.ca)) = many j fun i => whoL mp w x (Q i) (SupS.nil x.ca) (SupS.nil x.ca) := many_congr fun i hi => by simp [updQ, show i ≠ j by omega]
  dsimp only [ehF]
  rw [ptrs_succ, ptrs_succ, many_succ, eu, es, em]
  simp only [updQ, if_true, List.append_assoc]
  refine Ent.trans (Ent.take (a := some ⟨g0, 0, none⟩)) (Ent.cons ?_)
  refine Ent.trans (RSupO.close (a := some ⟨s, 0, none⟩) (st := st) (lm := lm) (w := w) (SupS.nil x.ca) rfl rfl rfl) ?_
  iterate 18 (refine Ent.take1 ?_)
  refine Ent.trans ?_ (Ent.deep (N := whoL mp w x ⟨u, pb2, s⟩ (SupS.nil x.ca) (SupS.nil x.ca)))
  simp only [whoL, List.cons_append, List.nil_append]
  exact ent
 ·obtain rfl : j = 3 := by omega
  refine Cx.rowkey (a := r) fun _ _ _ hk1 => ?_
  refine Cx.rowkey (a := r2) fun _ _ _ hk2 => ?_
  obtain ⟨ra, rfl⟩ : ∃ g, r = some ⟨g, 0, none⟩ := by
   rcases hk1 with h | h
   ·omega
   ·exact h
  obtain ⟨rb, rfl⟩ : ∃ g, r2 = some ⟨g, 0, none⟩ := by
   rcases hk2 with h | h
   ·omega
   ·exact h
  refine go ?_
  exact Kr.one (.inr rfl) rfl Ent.drop ⟨⟨a, mp, ro, sp, g, pb, w, rm, rp, rs, re⟩, ⟨eo, ro2, sp2, ch2, pb3⟩, ra, rb, c, c2, Q, rfl, rfl⟩
end
end Go.Proofs.YtflalhdofhobmaaGreat


namespace Go.Proofs.YtflalhdofhobmaaGreat
open Go
attribute [local irreducible] Sx Cx Rx Fx Krg Ksq Kbl Klp Kr
def tkIt (k : Sk) (ba : Int) : Nat → Mm × SupS × TakeS → Mm × SupS × TakeS
 | 0, r => r
 | n + 1, r => takeStep k ba (tkIt k ba n r).1 (tkIt k ba n r).2.1 (tkIt k ba n r).2.2
theorem takeStep_len {k : Sk} {ba : Int} {m : Mm} {s : SupS} {t : TakeS} : (takeStep k ba m s t).1.ws.length = m.ws.length := by
 unfold takeStep
 split
 ·rfl
 ·split
  ·dsimp only
   split <;> rfl
  ·dsimp only
   have : (popStep k m t.q).2.ws.length = m.ws.length := by
    unfold popStep
    split
    ·rfl
    ·split
     ·split <;> rfl
     ·split <;> rfl
     ·exact Mm.len_cas
   split <;> exact this
section
variable {L F G : St}
end
end Go.Proofs.YtflalhdofhobmaaGreat


namespace Go.Proofs.YtflalhdofhobmaaGreat
structure ColS where
 at_ : Nat
 a : AdvS
 g : PushS
 done : Bool
def ColS.init : ColS := ⟨0, AdvS.init, ⟨[], 0, 0, true⟩, false⟩
end Go.Proofs.YtflalhdofhobmaaGreat


namespace Go.Proofs.YtflalhdofhobmaaGreat
open Go
attribute [local irreducible] Sx Cx Rx Fx Krg Ksq Kbl Klp Kr
def TakeR (ba : Int) (s : SupS) (l : List Int) (ch : Int) (is_ : Bool) (N : Nat) (s' : SupS) (l' : List Int) : Prop :=
 (s.xs ≠ [] ∧ ch = lastI s.xs ∧ is_ = true ∧ N = 0 ∧ s' = s.kept ∧ l' = l) ∨
 (s.xs = [] ∧ l ≠ [] ∧ ∃ c : Nat, (c : Int) = min ba l.length ∧ ch = l.headD 0 ∧ is_ = true ∧ N = c + 2 ∧ s' = s.give (l.take c).tail ∧ l' = l.drop c) ∨
 (s.xs = [] ∧ l = [] ∧ ch = 0 ∧ is_ = false ∧ N = 1 ∧ s' = s ∧ l' = [])
theorem TakeR.size {ba : Int} {s s' : SupS} {l l' : List Int} {ch : Int} {is_ : Bool} {N : Nat} (h8 : ba ≤ 8) (h : TakeR ba s l ch is_ N s' l') : s'.xs.length ≤ s.xs.length + 8 ∧ s'.lm = s.lm ∧ s'.most = s.most := by
 rcases h with ⟨_, _, _, _, rfl, _⟩ | ⟨h0, _, c, hc, _, _, _, rfl, _⟩ | ⟨_, _, _, _, _, rfl, _⟩
 ·exact ⟨by simp [SupS.kept]; omega, rfl, rfl⟩
 ·refine ⟨?_, rfl, rfl⟩
  simp only [SupS.give, List.length_append, List.length_tail, List.length_take]
  omega
 ·exact ⟨by omega, rfl, rfl⟩
section
variable {L F G : St}
end
end Go.Proofs.YtflalhdofhobmaaGreat


namespace Go.Proofs.YtflalhdofhobmaaGreat
theorem Pool.congr {k : Sk} {m m' : Mm} {l : List Int} (h : Pool k m l) (h0 : m'.at_ k.head = m.at_ k.head) (hl : ∀ i, i < k.n → m'.at_ (k.links + i) = m.at_ (k.links + i)) : Pool k m' l := by
 refine ⟨?_, h.nd⟩
 rw [h0]
 refine h.c.congr fun x hx => hl _ ?_
 have := h.c.mem x hx
 omega
end Go.Proofs.YtflalhdofhobmaaGreat


namespace Go.Proofs.YtflalhdofhobmaaGreat
structure Agree (A : Nat → Prop) (m m2 : Mm) : Prop where
 len : m2.ws.length = m.ws.length
 n : m2.n = m.n
 at_ : ∀ a, A a → m2.at_ a = m.at_ a
theorem Agree.refl (A : Nat → Prop) (m : Mm) : Agree A m m := ⟨rfl, rfl, fun _ _ => rfl⟩
theorem Agree.tick {A : Nat → Prop} {m m2 : Mm} (h : Agree A m m2) : Agree A m.tick m2.tick := ⟨h.len, congrArg (· + 1) h.n, h.at_⟩
theorem Agree.put {A : Nat → Prop} {m m2 : Mm} (h : Agree A m m2) {i v : Nat} (hi : i < m.ws.length) : Agree A (m.put i v) (m2.put i v) := by
 refine ⟨by rw [Mm.len_put, Mm.len_put, h.len], congrArg (· + 1) h.n, fun a ha => ?_⟩
 rw [Mm.at_put _ (by rw [h.len]; exact hi), Mm.at_put _ hi, h.at_ a ha]
theorem Agree.cas {A : Nat → Prop} {m m2 : Mm} (h : Agree A m m2) {i o v : Nat} (hi : i < m.ws.length) (ha : A i) : Agree A (m.cas i o v) (m2.cas i o v) := by
 unfold Mm.cas
 rw [h.at_ i ha]
 split
 ·exact h.put hi
 ·exact h.tick
structure Covers (A : Nat → Prop) (k : Sk) : Prop where
 h : A k.head
 l : ∀ i, i < k.n → A (k.links + i)
structure TkOk (k : Sk) (len : Nat) (r : Mm × SupS × TakeS) : Prop where
 m : r.1.ok
 l : r.1.ws.length = len
 t : r.2.2.ok
 q : r.2.2.done = false → r.2.2.at_ = 1 → r.2.2.q.ok k
theorem popStep_mok {k : Sk} {m : Mm} {q : PopS} (hm : m.ok) (hq : q.ok k) (hn : k.n ≤ 4096) : (popStep k m q).2.ok := by
 have hu := hq.u2
 unfold popStep
 (repeat' split) <;> first | exact hm | exact Mm.ok_tick hm | exact Mm.ok_cas hm (nextW_lt hq.w (by omega))
theorem TkOk.step {k : Sk} {ba : Int} {len : Nat} {r : Mm × SupS × TakeS} (hk : k.ok len) (h : TkOk k len r) : TkOk k len (takeStep k ba r.1 r.2.1 r.2.2) := by
 obtain ⟨m, s, t⟩ := r
 have hm := h.m
 have hl := h.l
 simp only at hm hl ⊢
 refine ⟨?_, by rw [takeStep_len]; exact hl, takeStep_ok h.t, ?_⟩
 ·unfold takeStep
  split
  ·exact hm
  ·rename_i hd
   split
   ·dsimp only; split <;> exact hm
   ·rename_i hne
    have ha := h.t.a
    have := popStep_mok (k := k) (q := t.q) hm (h.q (by simpa using hd) (by simp only at ha; have : t.at_ ≠ 0 := hne; simp only; omega)) hk.n2
    dsimp only; split <;> exact this
 ·unfold takeStep
  split
  ·exact h.q
  ·rename_i hd
   split
   ·dsimp only
    split
    ·rename_i r' hr
     unfold keepT at hr
     split at hr
     ·cases hr
     ·cases hr; intro h; cases h
    ·exact fun _ _ => PopS.ok_init hk.n1 ba
   ·rename_i hne
    have ha := h.t.a
    have hq := popStep_ok (m := m) hk hm (h.q (by simpa using hd) (by simp only at ha; have : t.at_ ≠ 0 := hne; simp only; omega))
    dsimp only
    split
    ·intro h
     unfold popped at h
     split at h <;> cases h
    ·exact fun _ _ => hq
theorem TkOk.init {k : Sk} {ba : Int} {m : Mm} {s : SupS} (hk : k.ok m.ws.length) (hm : m.ok) : TkOk k m.ws.length (m, takeInit ba s) := by
 refine ⟨hm, rfl, takeInit_ok, ?_⟩
 unfold takeInit keepT
 split
 ·rename_i r hr
  split at hr
  ·cases hr
  ·cases hr; intro h; cases h
 ·split
  ·intro _ h; cases h
  ·exact fun _ _ => PopS.ok_init hk.n1 ba
theorem TkOk.it {k : Sk} {ba : Int} {len : Nat} {r : Mm × SupS × TakeS} (hk : k.ok len) (h : TkOk k len r) : ∀ j, TkOk k len (tkIt k ba j r)
 | 0 => h
 | j + 1 => (TkOk.it hk h j).step hk
def SupS.size (s : SupS) : Nat := s.xs.length + s.lm.size
end Go.Proofs.YtflalhdofhobmaaGreat


namespace Go.Proofs.YtflalhdofhobmaaGreat
theorem alIt_idle {p : AlP} {r : Mm × SupS × AlS} {j : Nat} (h : (alIt p j r).2.2.done = true) : ∀ i, alIt p (j + i) r = alIt p j r
 | 0 => rfl
 | i + 1 => by
   show alStep p (alIt p (j + i) r).1 (alIt p (j + i) r).2.1 (alIt p (j + i) r).2.2 = _
   rw [alIt_idle h i]
   unfold alStep
   rw [if_pos h]
structure AlGood (x : Cn) (slot : Nat) (r : Mm × SupS × AlS) : Prop where
 l : r.1.ws.length = x.len
 m : r.1.ok
 k : (rtOf (r.1.at_ (x.root + slot))).ok
 s : r.2.1.xs.length + r.2.1.lm.size ≤ 1000
 m0 : 0 ≤ r.2.1.most
 m2 : r.2.1.most ≤ 64
 a : r.2.2.done = false → AlOk x r.2.2
structure AlRun (x : Cn) (p : AlP) (r : Mm × SupS × AlS) (N : Nat) : Prop where
 good : ∀ j, j ≤ N → AlGood x p.slot (alIt p j r)
 nd : ∀ j, j < N → (alIt p j r).2.2.done = false
 d : (alIt p N r).2.2.done = true
structure RefOk (k : Sk) (a : AlS) : Prop where
 code : a.v.code = 0
 obj : a.v.obj = Hd.zero
 hd : a.at_ ≤ 2 → a.v.hand = -1
 z : a.at_ ≤ 2 → a.v.zat = 0
 a5 : a.at_ ≤ 5
 ask : a.at_ = 2 → a.v.asked = true
 q : a.at_ = 2 → a.t.q.ok k
 t1 : a.at_ = 2 → a.t.at_ = 1 ∧ a.t.done = false
 n1 : a.at_ ≠ 1
 ti : a.at_ = 2 → a.t.is_ = false
theorem giveInit_nil (k : Sk) : giveInit k [] = PushS.init [] := giveInit_yes ⟨List.nodup_nil, fun _ h => (by cases h)⟩
theorem alClose_none {k : Sk} {S : SupS} {v : AlV} {t : TakeS} {code : Nat} {o : Hd} (hh : v.hand = -1) (hs : (S.xs.length : Int) ≤ S.most) :
  alClose k S v t code o = (S, ⟨6, { v with code := code, obj := o, point := v.cnt, ends := true, hand := -1 }, t, PushS.init [], true⟩) := by
 unfold alClose
 rw [if_neg (by omega)]
 have h0 : overK S.most S.xs = 0 := by unfold overK; omega
 simp only [h0, List.take_zero, List.drop_zero, giveInit_nil]
 simp [PushS.init]
section
variable {x : Cn} {slot : Nat} {gen : Int} {n : Nat} {m : Mm} {S : SupS}
abbrev alR (m : Mm) (S : SupS) : Mm × SupS × AlS := (m, S, AlS.init)
theorem good0 (hl : m.ws.length = x.len) (hm : m.ok) (hk : (rtOf (m.at_ (x.root + slot))).ok) (hs : S.xs.length + S.lm.size ≤ 1000) (hm0 : 0 ≤ S.most) (hm2 : S.most ≤ 64) : AlGood x slot (alR m S) :=
 ⟨hl, hm, hk, hs, hm0, hm2, fun _ => ⟨by show 0 ≤ 6; omega, by show 0 ≤ 1000000; omega, by show (-1 : Int) ≤ -1; omega, by show (-1 : Int) < x.c; omega, rt_zero_ok, (fun h => by cases h), (fun h => by cases h), (fun h => by rcases h with h | h | h <;> cases h), (fun h => by cases h), (fun h => by cases h)⟩⟩
end
end Go.Proofs.YtflalhdofhobmaaGreat


namespace Go.Proofs.YtflalhdofhobmaaGreat
def clrM (m : Mm) (a : Nat) : Nat → Mm
 | 0 => m
 | i + 1 => (clrM m a i).put (a + i) 0
theorem clrM_len (m : Mm) (a : Nat) : ∀ i, (clrM m a i).ws.length = m.ws.length
 | 0 => rfl
 | i + 1 => by show ((clrM m a i).put (a + i) 0).ws.length = _; rw [Mm.len_put]; exact clrM_len m a i
theorem clrM_ok {m : Mm} (h : m.ok) (a : Nat) : ∀ i, (clrM m a i).ok
 | 0 => h
 | i + 1 => Mm.ok_put (clrM_ok h a i) (by omega)
theorem clrM_at {m : Mm} {a : Nat} : ∀ {i : Nat}, a + i ≤ m.ws.length → ∀ b, (clrM m a i).at_ b = if a ≤ b ∧ b < a + i then 0 else m.at_ b
 | 0, _, b => by rw [if_neg (by omega)]; rfl
 | i + 1, h, b => by
   show ((clrM m a i).put (a + i) 0).at_ b = _
   rw [Mm.at_put _ (by rw [clrM_len]; omega), clrM_at (by omega) b]
   by_cases h1 : a + i = b
   ·rw [if_pos h1, if_pos (by omega)]
   ·rw [if_neg h1]
    by_cases h2 : a ≤ b ∧ b < a + i
    ·rw [if_pos h2, if_pos (by omega)]
    ·rw [if_neg h2, if_neg (by omega)]
section
variable {x : Cn} {slot : Nat} {gen : Int} {n : Nat} {m : Mm} {S : SupS}
def TakeS.ask1 : TakeS := ⟨1, 0, false, -1, PopS.init 1, false⟩
theorem takeInit_ask (hba : x.ba = 1) (hxs : S.xs = []) (hlm : S.lm.size = 0) : takeInit x.ba S = (S, TakeS.ask1) := by
 unfold takeInit keepT
 rw [if_pos hxs]
 dsimp only
 rw [if_neg (by omega), hba]
 rfl
theorem al_first (hba : x.ba = 1) (hxs : S.xs = []) (hlm : S.lm.size = 0) (hlv : (rtOf (m.at_ (x.root + slot))).live gen) (need : Nat) (hneed : roundS (rtOf (m.at_ (x.root + slot))).cl n = need) (hf : ¬ (2 ≤ (rtOf (m.at_ (x.root + slot))).mrk ∧ fitsS x.wd (rtOf (m.at_ (x.root + slot))).off need)) :
  alIt (x.al slot gen n) 1 (alR m S) = (m.tick, S, ⟨2, ⟨1, -1, 0, true, false, need, 0, m.at_ (x.root + slot), 0, Hd.zero⟩, TakeS.ask1, gNone, false⟩) := by
 show (m.tick, alSeen (x.al slot gen n) S { AlV.init with cnt := 1, was := m.at_ (x.root + slot) } TakeS.zero) = _
 unfold alSeen
 rw [if_pos hlv]
 dsimp only
 rw [hneed, if_neg hf, if_neg (by show ¬ (0 : Int) ≤ -1; omega), if_neg (by show ¬ false = true; decide), takeInit_ask hba hxs hlm, if_neg (by show ¬ false = true; decide)]
 rfl
theorem al_none (hx : x.ok) (hl : m.ws.length = x.len) (hm : m.ok) (hsl : slot < x.sl) (hk : (rtOf (m.at_ (x.root + slot))).ok) (hs : S.xs.length + S.lm.size ≤ 1000) (hm0 : 0 ≤ S.most) (hm2 : S.most ≤ 64) (hba : x.ba = 1) (hxs : S.xs = []) (hlm : S.lm.size = 0)
  (hlv : (rtOf (m.at_ (x.root + slot))).live gen) (need : Nat) (hneed : roundS (rtOf (m.at_ (x.root + slot))).cl n = need) (hf : ¬ (2 ≤ (rtOf (m.at_ (x.root + slot))).mrk ∧ fitsS x.wd (rtOf (m.at_ (x.root + slot))).off need)) (hp : Pool x.pool m []) :
  ∃ t, alIt (x.al slot gen n) 3 (alR m S) = (m.tick.tick.tick, S, ⟨6, ⟨3, -1, 0, true, true, need, 3, m.at_ (x.root + slot), 6, Hd.zero⟩, t, PushS.init [], true⟩) ∧ AlRun x (x.al slot gen n) (alR m S) 3 := by
 have hwl := Mm.at_lt hm (x.root + slot)
 have e1 := al_first (x := x) (slot := slot) (gen := gen) (n := n) (m := m) (S := S) hba hxs hlm hlv need hneed hf
 obtain ⟨W, hW⟩ : ∃ W, m.at_ (x.root + slot) = W := ⟨_, rfl⟩
 have hk' := hk
 rw [hW] at hk hlv hneed hf hwl e1 ⊢
 have hx0 : (S.xs.length : Int) ≤ S.most := by rw [hxs]; exact hm0
 obtain ⟨Q, hQ⟩ : ∃ Q : PopS, Q = ⟨min (max 1 1) 8, 0, 0, m.tick.at_ x.pool.head, [], true⟩ := ⟨_, rfl⟩
 have hps : popStep x.pool m.tick (PopS.init 1) = (Q, m.tick.tick) := by
  have hp1 : Pool x.pool m.tick [] := ⟨hp.c.congr fun _ _ => rfl, hp.nd⟩
  rw [pop_none hp1 1, hQ]
 have hts : takeStep x.pool x.ba m.tick S TakeS.ask1 = (m.tick.tick, S, ⟨1, 0, false, -1, Q, true⟩) := by
  unfold takeStep TakeS.ask1
  simp only [Bool.false_eq_true, if_false]
  rw [hps]
  dsimp only
  rw [if_pos (by rw [hQ])]
  unfold popped
  rw [show (Q.got : List Int) = [] by rw [hQ]]
 have e2 : alIt (x.al slot gen n) 2 (alR m S) = (m.tick.tick, S, ⟨0, ⟨2, -1, 0, true, false, need, 0, W, 0, Hd.zero⟩, ⟨1, 0, false, -1, Q, true⟩, gNone, false⟩) := by
  show alStep (x.al slot gen n) (alIt (x.al slot gen n) 1 (alR m S)).1 (alIt (x.al slot gen n) 1 (alR m S)).2.1 (alIt (x.al slot gen n) 1 (alR m S)).2.2 = _
  rw [e1]
  unfold alStep
  simp only [Bool.false_eq_true, if_false]
  rw [hts]
  rfl
 have e3 : alIt (x.al slot gen n) 3 (alR m S) = (m.tick.tick.tick, S, ⟨6, ⟨3, -1, 0, true, true, need, 3, W, 6, Hd.zero⟩, ⟨1, 0, false, -1, Q, true⟩, PushS.init [], true⟩) := by
  show alStep (x.al slot gen n) (alIt (x.al slot gen n) 2 (alR m S)).1 (alIt (x.al slot gen n) 2 (alR m S)).2.1 (alIt (x.al slot gen n) 2 (alR m S)).2.2 = _
  rw [e2]
  unfold alStep
  simp only [Bool.false_eq_true, if_false]
  rw [show m.tick.tick.at_ (x.root + slot) = W from hW]
  unfold alSeen
  rw [if_pos hlv]
  dsimp only
  rw [hneed, if_neg hf, if_neg (by omega), if_pos rfl, alClose_none rfl hx0]
 refine ⟨_, e3, fun j hj => ?_, fun j hj => ?_, by rw [e3]⟩
 ·rcases (show j = 0 ∨ j = 1 ∨ j = 2 ∨ j = 3 by omega) with rfl | rfl | rfl | rfl
  ·exact good0 hl hm hk' hs hm0 hm2
  ·rw [e1]
   exact ⟨hl, hm, hk', hs, hm0, hm2, fun _ => ⟨by show 2 ≤ 6; omega, by show 1 ≤ 1000000; omega, by show (-1 : Int) ≤ -1; omega, by show (-1 : Int) < x.c; omega, hk, (fun h => by cases h), (fun h => by cases h), (fun h => by rcases h with h | h | h <;> cases h), (fun h => by cases h), fun _ => ⟨by show 1 ≤ 1; omega, fun _ => ⟨rfl, rfl⟩⟩⟩⟩
  ·rw [e2]
   exact ⟨hl, hm, hk', hs, hm0, hm2, fun _ => ⟨by show 0 ≤ 6; omega, by show 2 ≤ 1000000; omega, by show (-1 : Int) ≤ -1; omega, by show (-1 : Int) < x.c; omega, hk, (fun h => by cases h), (fun h => by cases h), (fun h => by rcases h with h | h | h <;> cases h), (fun h => by cases h), (fun h => by cases h)⟩⟩
  ·rw [e3]
   exact ⟨hl, hm, hk', hs, hm0, hm2, fun h => (by cases h)⟩
 ·rcases (show j = 0 ∨ j = 1 ∨ j = 2 by omega) with rfl | rfl | rfl
  ·rfl
  ·rw [e1]
  ·rw [e2]
end
end Go.Proofs.YtflalhdofhobmaaGreat


namespace Go.Proofs.YtflalhdofhobmaaGreat
section
variable {x : Cn} {slot : Nat} {gen : Int} {n : Nat} {m : Mm} {S : SupS}
theorem ok_mid {a need cnt was : Nat} {hand : Int} {zat : Nat} {t : TakeS} (ha : a = 3 ∨ a = 4 ∨ a = 5) (hc : cnt ≤ 1000000) (h1 : 0 ≤ hand) (h2 : hand < x.c) (hr : (rtOf was).ok) (hn1 : 1 ≤ need) (hn2 : need ≤ x.wd) (hz : a = 3 → zat < x.wd) :
  AlOk x ⟨a, ⟨cnt, hand, zat, true, false, need, 0, was, 0, Hd.zero⟩, t, gNone, false⟩ :=
 ⟨by show a ≤ 6; omega, hc, by show -1 ≤ hand; omega, h2, hr, fun h => absurd (show a = 1 from h) (by omega), fun _ => ⟨hn1, hn2⟩, fun _ => h1, hz, fun h => absurd (show a = 2 from h) (by omega)⟩
set_option maxHeartbeats 1000000 in
theorem al_new (hx : x.ok) (hl : m.ws.length = x.len) (hm : m.ok) (hsl : slot < x.sl) (hk : (rtOf (m.at_ (x.root + slot))).ok) (hs : S.xs.length + S.lm.size ≤ 1000) (hm0 : 0 ≤ S.most) (hm2 : S.most ≤ 64) (hba : x.ba = 1) (hxs : S.xs = []) (hlm : S.lm.size = 0) (hw8 : x.wd % 8 = 0) (hn : 1 ≤ n) (hnw : n ≤ x.wd)
  (hlv : (rtOf (m.at_ (x.root + slot))).live gen) (need : Nat) (hneed : roundS (rtOf (m.at_ (x.root + slot))).cl n = need) (hf : ¬ (2 ≤ (rtOf (m.at_ (x.root + slot))).mrk ∧ fitsS x.wd (rtOf (m.at_ (x.root + slot))).off need)) (y : Nat) (l : List Int) (hp : Pool x.pool m ((y : Int) :: l)) :
  ∃ M t, alIt (x.al slot gen n) (x.wd + 6) (alR m S) = (M, S, ⟨6, ⟨x.wd + 6, -1, x.wd, true, true, need, x.wd + 6, m.at_ (x.root + slot), 0, ⟨slot, gen, y, 0, n⟩⟩, t, PushS.init [], true⟩) ∧ AlRun x (x.al slot gen n) (alR m S) (x.wd + 6) ∧
   M.ws.length = x.len ∧ M.ok ∧ Pool x.pool M l ∧ M.at_ (x.root + slot) = Rt.w ⟨(rtOf (m.at_ (x.root + slot))).gen, 2 + y, (rtOf (m.at_ (x.root + slot))).cl, afterS x.wd need⟩ ∧
   (∀ a, a ≠ 0 → a ≠ x.link + y → a ≠ x.root + slot → ¬ (x.word + y * x.wd ≤ a ∧ a < x.word + y * x.wd + x.wd) → M.at_ a = m.at_ a) ∧ (∀ a, x.word + y * x.wd ≤ a → a < x.word + y * x.wd + x.wd → M.at_ a = 0) ∧
   (∀ j, j < 4 → (alIt (x.al slot gen n) j (alR m S)).2.2.v.hand = -1 ∧ (alIt (x.al slot gen n) j (alR m S)).2.1 = S ∧ Pool x.pool (alIt (x.al slot gen n) j (alR m S)).1 ((y : Int) :: l)) ∧
   (∀ j, 4 ≤ j → j < x.wd + 6 → (alIt (x.al slot gen n) j (alR m S)).2.2.v.hand = y ∧ (alIt (x.al slot gen n) j (alR m S)).2.1 = S ∧ Pool x.pool (alIt (x.al slot gen n) j (alR m S)).1 l) ∧
   (∀ j, j < x.wd + 6 → (alIt (x.al slot gen n) j (alR m S)).1.at_ (x.root + slot) = m.at_ (x.root + slot)) ∧
   (∀ j, 1 ≤ j → j < 4 → (alIt (x.al slot gen n) j (alR m S)).2.2.at_ = 2 ∧ (alIt (x.al slot gen n) j (alR m S)).2.2.t.at_ = 1 ∧ (alIt (x.al slot gen n) j (alR m S)).2.2.t.q.ok x.pool) ∧
   (∀ j, 4 ≤ j → j < x.wd + 5 → (alIt (x.al slot gen n) j (alR m S)).2.2.at_ = 3 ∨ (alIt (x.al slot gen n) j (alR m S)).2.2.at_ = 4) ∧
   (∃ T, (alIt (x.al slot gen n) (x.wd + 5) (alR m S)).2.2 = ⟨5, ⟨x.wd + 5, y, x.wd, true, false, need, 0, m.at_ (x.root + slot), 0, Hd.zero⟩, T, gNone, false⟩) ∧
   (∀ j, j < x.wd + 6 → RefOk x.pool (alIt (x.al slot gen n) j (alR m S)).2.2 ∧ (alIt (x.al slot gen n) j (alR m S)).2.1 = S) ∧ M.at_ (x.link + y) = ((rtOf (m.at_ (x.root + slot))).chunk + 1).toNat := by
 have hlen := hx.len_le
 obtain ⟨b1, b2, b3, b4, b5, b6, b7⟩ := show MayC (x.w : Int) x.c x.wd x.sl x.ca x.ba from hx
 have hpk := hx.pool (n := m.ws.length) (by omega) (by omega)
 obtain ⟨_, hy0, hy1, hpc⟩ := hp.c
 have hyc : y < x.c := by have : (y : Int) < x.c := hy1; omega
 have hwl := Mm.at_lt hm (x.root + slot)
 have hwd : x.word + y * x.wd + x.wd ≤ x.len := by
  have := word_lt (x := x) (k := y) (j := x.wd - 1) hyc (by omega); omega
 have g1 : x.root + x.sl ≤ x.link := by unfold Cn.root Cn.link; omega
 have g2 : x.link + x.c = x.word := by unfold Cn.link Cn.word; omega
 have g3 : 3 ≤ x.root := by unfold Cn.root; omega
 have e1 := al_first (x := x) (slot := slot) (gen := gen) (n := n) (m := m) (S := S) hba hxs hlm hlv need hneed hf
 have hcl := hk.c
 obtain ⟨W, hW⟩ : ∃ W, m.at_ (x.root + slot) = W := ⟨_, rfl⟩
 have hk' := hk
 rw [hW] at hk hlv hneed hf hwl e1 hcl ⊢
 have hn1 : 1 ≤ need := by have := roundS_ge (cl := (rtOf W).cl) (n := n) hcl; omega
 have hn2 : need ≤ x.wd := by rw [← hneed]; exact roundS_le hcl hnw hw8
 have hx0 : (S.xs.length : Int) ≤ S.most := by rw [hxs]; exact hm0
 -- the Pop
 have hp1 : Pool x.pool m.tick ((y : Int) :: l) := ⟨hp.c.congr fun _ _ => rfl, hp.nd⟩
 obtain ⟨m1, p1, n1, l1, po1, a1, d1⟩ := pop_alone (k := x.pool) (m := m.tick) (len := m.ws.length) hpk rfl hp1 1 (by omega) (by omega) (by simp) 1 (by simp; omega)
 simp only [List.drop_succ_cons, List.drop_zero, List.take_succ_cons, List.take_zero] at p1 po1
 have hin : ∀ j, (popIt x.pool j (PopS.init 1, m.tick)).2.ok ∧ (popIt x.pool j (PopS.init 1, m.tick)).1.ok x.pool ∧ (popIt x.pool j (PopS.init 1, m.tick)).2.ws.length = m.ws.length := by
  intro j
  induction j with
  | zero => exact ⟨hm, PopS.ok_init hpk.n1 1, rfl⟩
  | succ j ih =>
    rw [popIt_succ]
    exact ⟨(popStep_mem hpk ih.1 ih.2.1).1, popStep_ok hpk ih.1 ih.2.1, (popStep_mem hpk ih.1 ih.2.1).2.trans ih.2.2⟩
 have hm1 : m1.ok := by have := (hin (1 + 2)).1; rw [p1] at this; exact this
 -- the first two of its accesses look only
 have hlook : ∀ j, j ≤ 2 → ∃ q : PopS, popIt x.pool j (PopS.init 1, m.tick) = (q, m.tick.add j) ∧ q.done = false := by
  intro j hj
  rcases (show j = 0 ∨ j = 1 ∨ j = 2 by omega) with rfl | rfl | rfl
  ·exact ⟨PopS.init 1, rfl, rfl⟩
  ·obtain ⟨u, hu⟩ := pop_links hp1 1 (by omega) (by omega) (by simp) 1 (by omega) (by omega) (by simp)
   exact ⟨_, hu, rfl⟩
  ·have hu := pop_cas hp1 1 (by omega) (by omega) (by simp) 1 (by simp; omega)
   exact ⟨_, hu, rfl⟩
 have e2 : ∀ j, j ≤ 2 → ∃ q : PopS, alIt (x.al slot gen n) (1 + j) (alR m S) = (m.tick.add j, S, ⟨2, ⟨1 + j, -1, 0, true, false, need, 0, W, 0, Hd.zero⟩, ⟨1, 0, false, -1, q, false⟩, gNone, false⟩) ∧ popIt x.pool j (PopS.init 1, m.tick) = (q, m.tick.add j) := by
  intro j
  induction j with
  | zero => intro _; exact ⟨PopS.init 1, e1, rfl⟩
  | succ j ih =>
    intro hj
    obtain ⟨q, h1, h2⟩ := ih (by omega)
    obtain ⟨q2, h3, h4⟩ := hlook (j + 1) hj
    have h5 := h3
    rw [popIt_succ, h2] at h5
    refine ⟨q2, ?_, h3⟩
    show alStep (x.al slot gen n) (alIt (x.al slot gen n) (1 + j) (alR m S)).1 (alIt (x.al slot gen n) (1 + j) (alR m S)).2.1 (alIt (x.al slot gen n) (1 + j) (alR m S)).2.2 = _
    rw [h1]
    have ht : takeStep x.pool x.ba (m.tick.add j) S ⟨1, 0, false, -1, q, false⟩ = (m.tick.add (j + 1), S, ⟨1, 0, false, -1, q2, false⟩) := by
     unfold takeStep
     simp only [Bool.false_eq_true, if_false]
     rw [h5]
     dsimp only
     rw [h4]
     rfl
    unfold alStep
    simp only [Bool.false_eq_true, if_false]
    rw [ht]
    rfl
 obtain ⟨q2, e3, h32⟩ := e2 2 (by omega)
 obtain ⟨Q, hQ⟩ : ∃ Q, Q = (popStep x.pool (m.tick.add 2) q2).1 := ⟨_, rfl⟩
 have p2 : popStep x.pool (m.tick.add 2) q2 = (⟨1, 0, l.headD (-1), m.tick.at_ x.pool.head, [(y : Int)], true⟩, m1) := by
  have := p1
  rw [show 1 + 2 = 2 + 1 from rfl, popIt_succ, h32] at this
  exact this
 obtain ⟨T, hT⟩ : ∃ T : TakeS, T = ⟨1, y, true, -1, ⟨1, 0, l.headD (-1), m.tick.at_ x.pool.head, [(y : Int)], true⟩, true⟩ := ⟨_, rfl⟩
 have e4 : alIt (x.al slot gen n) 4 (alR m S) = (m1, S, ⟨3, ⟨4, y, 0, true, false, need, 0, W, 0, Hd.zero⟩, T, gNone, false⟩) := by
  show alStep (x.al slot gen n) (alIt (x.al slot gen n) (1 + 2) (alR m S)).1 (alIt (x.al slot gen n) (1 + 2) (alR m S)).2.1 (alIt (x.al slot gen n) (1 + 2) (alR m S)).2.2 = _
  rw [e3]
  have ht : takeStep x.pool x.ba (m.tick.add 2) S ⟨1, 0, false, -1, q2, false⟩ = (m1, S, T) := by
   unfold takeStep
   simp only [Bool.false_eq_true, if_false]
   rw [p2]
   dsimp only
   unfold popped
   dsimp only
   rw [if_pos rfl, hT]
   have : S.give [] = S := by unfold SupS.give; rw [List.append_nil]
   rw [this]
  unfold alStep
  simp only [Bool.false_eq_true, if_false]
  rw [ht]
  dsimp only
  rw [show T.done = true by rw [hT], if_pos rfl]
  unfold alTaken
  rw [show T.is_ = true by rw [hT], if_pos rfl, show T.chunk = y by rw [hT]]
 have hwk : 1 ≤ x.wd := by omega
 have e5 : ∀ i, i ≤ x.wd → alIt (x.al slot gen n) (4 + i) (alR m S) = (clrM m1 (x.word + y * x.wd) i, S, ⟨if i < x.wd then 3 else 4, ⟨4 + i, y, i, true, false, need, 0, W, 0, Hd.zero⟩, T, gNone, false⟩) := by
  intro i
  induction i with
  | zero => intro _; rw [if_pos (by omega)]; exact e4
  | succ i ih =>
    intro hi
    show alStep (x.al slot gen n) (alIt (x.al slot gen n) (4 + i) (alR m S)).1 (alIt (x.al slot gen n) (4 + i) (alR m S)).2.1 (alIt (x.al slot gen n) (4 + i) (alR m S)).2.2 = _
    rw [ih (by omega), if_pos (by omega)]
    unfold alStep
    simp only [Bool.false_eq_true, if_false, Int.toNat_natCast]
    rfl
 have e6 : alIt (x.al slot gen n) (x.wd + 5) (alR m S) = ((clrM m1 (x.word + y * x.wd) x.wd).put (x.link + y) ((rtOf W).chunk + 1).toNat, S, ⟨5, ⟨x.wd + 5, y, x.wd, true, false, need, 0, W, 0, Hd.zero⟩, T, gNone, false⟩) := by
  have := e5 x.wd (Nat.le_refl _)
  rw [if_neg (by omega)] at this
  show alStep (x.al slot gen n) (alIt (x.al slot gen n) (x.wd + 4) (alR m S)).1 (alIt (x.al slot gen n) (x.wd + 4) (alR m S)).2.1 (alIt (x.al slot gen n) (x.wd + 4) (alR m S)).2.2 = _
  rw [show x.wd + 4 = 4 + x.wd by omega, this]
  unfold alStep
  simp only [Bool.false_eq_true, if_false, Int.toNat_natCast]
  rw [show 4 + x.wd + 1 = x.wd + 5 by omega]
  rfl
 have hl1 : m1.ws.length = x.len := l1.trans hl
 have hlc : ∀ i, (clrM m1 (x.word + y * x.wd) i).ws.length = x.len := fun i => (clrM_len _ _ _).trans hl1
 have hcat : ∀ i, i ≤ x.wd → ∀ a, (clrM m1 (x.word + y * x.wd) i).at_ a = if x.word + y * x.wd ≤ a ∧ a < x.word + y * x.wd + i then 0 else m1.at_ a := fun i hi a => clrM_at (by omega) a
 obtain ⟨v5, hv5⟩ : ∃ v5, v5 = ((rtOf W).chunk + 1).toNat := ⟨_, rfl⟩
 have hv5l : v5 < 18446744073709551616 := by
  have := Rt.chunk_lt (rtOf_mrk W); have := (rtOf W).chunk_ge; omega
 rw [← hv5] at e6
 have hat5 : ∀ a, ((clrM m1 (x.word + y * x.wd) x.wd).put (x.link + y) v5).at_ a = if x.link + y = a then v5 else if x.word + y * x.wd ≤ a ∧ a < x.word + y * x.wd + x.wd then 0 else m1.at_ a := fun a => by
  rw [Mm.at_put _ (by rw [hlc]; omega), hcat _ (Nat.le_refl _)]
 obtain ⟨m5, hm5⟩ : ∃ m5, m5 = (clrM m1 (x.word + y * x.wd) x.wd).put (x.link + y) v5 := ⟨_, rfl⟩
 rw [← hm5] at e6 hat5
 have hl5 : m5.ws.length = x.len := by rw [hm5, Mm.len_put]; exact hlc _
 have hok5 : m5.ok := by rw [hm5]; exact Mm.ok_put (clrM_ok hm1 _ _) hv5l
 have hr1 : m1.at_ (x.root + slot) = W := by rw [a1 _ (by show x.root + slot ≠ 0; omega)]; exact hW
 have hr5 : m5.at_ (x.root + slot) = W := by rw [hat5, if_neg (by omega), if_neg (by omega), hr1]
 have hR : Rt.ok ⟨(rtOf W).gen, 2 + y, (rtOf W).cl, afterS x.wd need⟩ := ⟨hk.g, by show 2 + y ≤ 4097; omega, hk.c, by have := afterS_le hn2; show afterS x.wd need ≤ 1024; omega⟩
 have e7 : alIt (x.al slot gen n) (x.wd + 6) (alR m S) = (m5.put (x.root + slot) (Rt.w ⟨(rtOf W).gen, 2 + y, (rtOf W).cl, afterS x.wd need⟩), S, ⟨6, ⟨x.wd + 6, -1, x.wd, true, true, need, x.wd + 6, W, 0, ⟨slot, gen, y, 0, n⟩⟩, T, PushS.init [], true⟩) := by
  show alStep (x.al slot gen n) (alIt (x.al slot gen n) (x.wd + 5) (alR m S)).1 (alIt (x.al slot gen n) (x.wd + 5) (alR m S)).2.1 (alIt (x.al slot gen n) (x.wd + 5) (alR m S)).2.2 = _
  rw [e6]
  unfold alStep
  simp only [Bool.false_eq_true, if_false, Int.toNat_natCast]
  rw [if_pos hr5, alClose_none rfl hx0]
 -- the pool
 have hnl : ∀ z ∈ l, z ≠ (y : Int) := fun z hz e => by
  have := hp.nd
  rw [List.nodup_cons] at this
  exact this.1 (e ▸ hz)
 have pool1 : ∀ i, i ≤ x.wd → Pool x.pool (clrM m1 (x.word + y * x.wd) i) l := fun i hi => by
  refine ⟨?_, po1.nd⟩
  rw [hcat i hi, if_neg (by show ¬ (_ ≤ 0 ∧ 0 < _); omega)]
  refine po1.c.congr fun z hz => ?_
  have hz2 := po1.c.mem z hz
  have hz3 : z < x.c := hz2.2
  rw [hcat i hi, if_neg (by show ¬ (_ ≤ x.link + z.toNat ∧ _); omega)]
 have pool5 : Pool x.pool m5 l := by
  refine ⟨?_, po1.nd⟩
  rw [hat5, if_neg (by show ¬ x.link + y = 0; omega), if_neg (by show ¬ (_ ≤ 0 ∧ 0 < _); omega)]
  refine po1.c.congr fun z hz => ?_
  have hz2 := po1.c.mem z hz
  have hz3 : z < x.c := hz2.2
  have := hnl z hz
  rw [hat5, if_neg (by show ¬ x.link + y = x.link + z.toNat; omega), if_neg (by show ¬ (_ ≤ x.link + z.toNat ∧ _); omega)]
 have hput : ∀ a v, (m5.put (x.root + slot) v).at_ a = if x.root + slot = a then v else m5.at_ a := fun a v => Mm.at_put a (by omega)
 have poolM : Pool x.pool (m5.put (x.root + slot) (Rt.w ⟨(rtOf W).gen, 2 + y, (rtOf W).cl, afterS x.wd need⟩)) l := by
  refine ⟨?_, po1.nd⟩
  rw [hput, if_neg (by show ¬ x.root + slot = 0; omega)]
  refine pool5.c.congr fun z hz => ?_
  rw [hput, if_neg (by show ¬ x.root + slot = x.link + z.toNat; omega)]
 have hall : ∀ j, j < x.wd + 6 → (j = 0) ∨ (∃ i, i ≤ 2 ∧ j = 1 + i) ∨ (∃ i, i ≤ x.wd ∧ j = 4 + i) ∨ j = x.wd + 5 := fun j hj => by
  rcases (show j = 0 ∨ (1 ≤ j ∧ j ≤ 3) ∨ (4 ≤ j ∧ j ≤ 4 + x.wd) ∨ j = x.wd + 5 by omega) with h | h | h | h
  ·exact .inl h
  ·exact .inr (.inl ⟨j - 1, by omega, by omega⟩)
  ·exact .inr (.inr (.inl ⟨j - 4, by omega, by omega⟩))
  ·exact .inr (.inr (.inr h))
 have hwok : (rtOf W).ok := hk
 have hnd : ∀ j, j < x.wd + 6 → (alIt (x.al slot gen n) j (alR m S)).2.2.done = false := fun j hj => by
  rcases hall j hj with rfl | ⟨i, hi, rfl⟩ | ⟨i, hi, rfl⟩ | rfl
  ·rfl
  ·obtain ⟨q, h, _⟩ := e2 i hi; rw [h]
  ·rw [e5 i hi]
  ·rw [e6]
 have hroot : ∀ j, j < x.wd + 6 → (alIt (x.al slot gen n) j (alR m S)).1.at_ (x.root + slot) = W := fun j hj => by
  rcases hall j hj with rfl | ⟨i, hi, rfl⟩ | ⟨i, hi, rfl⟩ | rfl
  ·exact hW
  ·obtain ⟨q, h, _⟩ := e2 i hi; rw [h]; exact hW
  ·rw [e5 i hi]
   show (clrM m1 (x.word + y * x.wd) i).at_ _ = W
   rw [hcat i hi, if_neg (by omega), hr1]
  ·rw [e6]; exact hr5
 refine ⟨_, _, e7, ⟨fun j hj => ?_, hnd, by rw [e7]⟩, by rw [Mm.len_put]; exact hl5, Mm.ok_put hok5 (Rt.w_lt hR), poolM, by rw [hput, if_pos rfl], fun a h0 h1 h2 h3 => ?_, fun a h1 h2 => ?_, fun j hj => ?_, fun j hj1 hj2 => ?_, hroot, fun j hj1 hj2 => ?_, fun j hj1 hj2 => ?_, ⟨T, by rw [e6]⟩, fun j hj => ?_, by rw [hput, if_neg (by omega), hat5, if_pos rfl, hv5]⟩
 ·by_cases hj6 : j = x.wd + 6
  ·subst hj6
   rw [e7]
   refine ⟨by rw [Mm.len_put]; exact hl5, Mm.ok_put hok5 (Rt.w_lt hR), ?_, hs, hm0, hm2, fun h => (by cases h)⟩
   show (rtOf ((m5.put (x.root + slot) _).at_ (x.root + slot))).ok
   rw [hput, if_pos rfl, rtOf_w hR]; exact hR
  ·have hr := hroot j (by omega)
   rcases hall j (by omega) with rfl | ⟨i, hi, rfl⟩ | ⟨i, hi, rfl⟩ | rfl
   ·exact good0 hl hm hk' hs hm0 hm2
   ·obtain ⟨q, h, _⟩ := e2 i hi
    rw [h] at hr ⊢
    refine ⟨hl, hm, by show (rtOf ((m.tick.add i).at_ _)).ok; rw [hr]; exact hk, hs, hm0, hm2, fun _ => ⟨by show 2 ≤ 6; omega, by show 1 + i ≤ 1000000; omega, by show (-1 : Int) ≤ -1; omega, by show (-1 : Int) < x.c; omega, hk, (fun h => by cases h), (fun h => by cases h), (fun h => by rcases h with h | h | h <;> cases h), (fun h => by cases h), fun _ => ⟨by show 1 ≤ 1; omega, fun _ => ⟨rfl, rfl⟩⟩⟩⟩
   ·rw [e5 i hi] at hr ⊢
    refine ⟨hlc i, clrM_ok hm1 _ _, by show (rtOf ((clrM m1 (x.word + y * x.wd) i).at_ _)).ok; rw [hr]; exact hk, hs, hm0, hm2, fun _ => ok_mid (by split <;> omega) (by omega) (by omega) (by omega) hk hn1 hn2 (fun h => by split at h <;> omega)⟩
   ·rw [e6] at hr ⊢
    refine ⟨hl5, hok5, by show (rtOf (m5.at_ _)).ok; rw [hr]; exact hk, hs, hm0, hm2, fun _ => ok_mid (by omega) (by omega) (by omega) (by omega) hk hn1 hn2 (fun h => by omega)⟩
 ·rw [hput, if_neg (fun h => h2 h.symm), hat5, if_neg (fun h => h1 h.symm), if_neg h3]
  exact a1 a h0
 ·rw [hput, if_neg (by omega), hat5, if_neg (by omega), if_pos ⟨h1, h2⟩]
 ·rcases (show j = 0 ∨ 1 ≤ j by omega) with rfl | h1
  ·exact ⟨rfl, rfl, hp⟩
  ·obtain ⟨q, h, _⟩ := e2 (j - 1) (by omega)
   rw [show 1 + (j - 1) = j by omega] at h
   rw [h]
   exact ⟨rfl, rfl, ⟨hp.c.congr fun _ _ => rfl, hp.nd⟩⟩
 ·rcases hall j hj2 with h0 | ⟨i, hi, h0⟩ | ⟨i, hi, rfl⟩ | rfl
  ·omega
  ·omega
  ·rw [e5 i hi]; exact ⟨rfl, rfl, pool1 i hi⟩
  ·rw [e6]; exact ⟨rfl, rfl, pool5⟩
 ·obtain ⟨q, h, h2⟩ := e2 (j - 1) (by omega)
  rw [show 1 + (j - 1) = j by omega] at h
  rw [h]
  refine ⟨rfl, rfl, ?_⟩
  have := (hin (j - 1)).2.1
  rw [h2] at this
  exact this
 ·have h := e5 (j - 4) (by omega)
  rw [show 4 + (j - 4) = j by omega] at h
  rw [h]
  show (if j - 4 < x.wd then 3 else 4) = 3 ∨ (if j - 4 < x.wd then 3 else 4) = 4
  split
  ·exact .inl rfl
  ·exact .inr rfl
 ·rcases hall j hj with rfl | ⟨i, hi, rfl⟩ | ⟨i, hi, rfl⟩ | rfl
  ·exact ⟨⟨rfl, rfl, fun _ => rfl, fun _ => rfl, by show 0 ≤ 5; omega, (fun h => by cases h), (fun h => by cases h), (fun h => by cases h), by show 0 ≠ 1; omega, (fun h => by cases h)⟩, rfl⟩
  ·obtain ⟨q, h, h2⟩ := e2 i hi
   rw [h]
   refine ⟨⟨rfl, rfl, fun _ => rfl, fun _ => rfl, by show 2 ≤ 5; omega, fun _ => rfl, fun _ => ?_, fun _ => ⟨rfl, rfl⟩, by show 2 ≠ 1; omega, fun _ => rfl⟩, rfl⟩
   have := (hin i).2.1
   rw [h2] at this
   exact this
  ·rw [e5 i hi]
   refine ⟨⟨rfl, rfl, fun h => ?_, fun h => ?_, ?_, fun h => ?_, fun h => ?_, fun h => ?_, ?_, fun h => ?_⟩, rfl⟩
   ·have h' : (if i < x.wd then 3 else 4) ≤ 2 := h
    split at h' <;> omega
   ·have h' : (if i < x.wd then 3 else 4) ≤ 2 := h
    split at h' <;> omega
   ·show (if i < x.wd then 3 else 4) ≤ 5
    split <;> omega
   ·rfl
   ·have h' : (if i < x.wd then 3 else 4) = 2 := h
    split at h' <;> omega
   ·have h' : (if i < x.wd then 3 else 4) = 2 := h
    split at h' <;> omega
   ·show (if i < x.wd then 3 else 4) ≠ 1
    split <;> omega
   ·have h' : (if i < x.wd then 3 else 4) = 2 := h
    split at h' <;> omega
  ·rw [e6]
   exact ⟨⟨rfl, rfl, fun h => absurd (show 5 ≤ 2 from h) (by omega), fun h => absurd (show 5 ≤ 2 from h) (by omega), Nat.le_refl _, fun _ => rfl, fun h => absurd (show 5 = 2 from h) (by omega), fun h => absurd (show 5 = 2 from h) (by omega), by show 5 ≠ 1; omega, fun h => absurd (show 5 = 2 from h) (by omega)⟩, rfl⟩
end
end Go.Proofs.YtflalhdofhobmaaGreat


namespace Go.Proofs.YtflalhdofhobmaaGreat
open Go
attribute [local irreducible] Sx Cx Rx Fx Krg Ksq Kbl Klp Kr
theorem crStep_ok {k : Sk} {ro cl len : Nat} {m : Mm} {c : CreS} (hk : k.ok len) (hm : m.ok) (hcl : cl ≤ 3) (h : c.ok k) (hn : c.cnt + 1 ≤ 1000000) : (crStep k ro cl m c).1.ok k ∧ (crStep k ro cl m c).2.ok ∧ (crStep k ro cl m c).2.ws.length = m.ws.length ∧ (crStep k ro cl m c).1.cnt ≤ c.cnt + 1 := by
 obtain ⟨h1, h2, h3, h4, h5⟩ := h
 have hq := popStep_ok hk hm h2
 have hpm := popStep_mem hk hm h2
 unfold crStep
 split
 ·exact ⟨⟨h1, h2, h3, h4, h5⟩, hm, rfl, by show c.cnt ≤ c.cnt + 1; omega⟩
 ·split
  ·rename_i ha
   split
   ·unfold crPopped
    split
    ·exact ⟨⟨by show c.at_ ≤ 2; omega, hq, h3, fun h => absurd ha h, hn⟩, hpm.1, hpm.2, Nat.le_refl _⟩
    ·rename_i s l hg
     exact ⟨⟨by show 1 ≤ 2; omega, hq, h3, fun _ => hq.g s (by dsimp only at hg; rw [hg]; simp), hn⟩, hpm.1, hpm.2, Nat.le_refl _⟩
   ·exact ⟨⟨h1, hq, h3, fun h => absurd ha h, hn⟩, hpm.1, hpm.2, Nat.le_refl _⟩
  ·rename_i ha
   exact ⟨⟨by show 2 ≤ 2; omega, h2, Mm.at_lt hm _, fun _ => h4 (by omega), hn⟩, hm, rfl, Nat.le_refl _⟩
  ·rename_i ha _
   exact ⟨⟨h1, h2, h3, h4, hn⟩, Mm.ok_put hm (Rt.w_lt (nextRt_ok h3 hcl)), Mm.len_put, Nat.le_refl _⟩
theorem crIt_ok {k : Sk} {ro cl len : Nat} {m : Mm} (hk : k.ok len) (hm : m.ok) (hcl : cl ≤ 3) : ∀ j, j ≤ 100000 → (crIt k ro cl j (CreS.init, m)).1.ok k ∧ (crIt k ro cl j (CreS.init, m)).2.ok ∧ (crIt k ro cl j (CreS.init, m)).2.ws.length = m.ws.length ∧ (crIt k ro cl j (CreS.init, m)).1.cnt ≤ j
 | 0, _ => ⟨⟨by show 0 ≤ 2; omega, PopS.ok_init hk.n1 1, by show 0 < 18446744073709551616; omega, fun h => absurd rfl h, by show 0 ≤ 1000000; omega⟩, hm, rfl, Nat.le_refl _⟩
 | j + 1, hj => by
   obtain ⟨a, b, c, d⟩ := crIt_ok hk hm hcl j (by omega)
   have := crStep_ok (ro := ro) hk b hcl a (by omega)
   exact ⟨this.1, this.2.1, this.2.2.1.trans c, by have := this.2.2.2; show (crStep k ro cl (crIt k ro cl j (CreS.init, m)).2 (crIt k ro cl j (CreS.init, m)).1).1.cnt ≤ j + 1; omega⟩
section
variable {L F G : St}
theorem alDone {b g u pb : Nat} {x : Cn} {slot : Nat} {gen : Int} {n : Nat} {s : AlS} {F1 : St} (hd : s.done = true) [t1 : Take L (some ⟨b, 0, none⟩) (AlO g u pb x slot gen n s) F1] : Fx Tryz.prog 27 [.pointer (some ⟨b, 0, none⟩)] L (fun v L' => v = .bool true ∧ L = L') := by
 refine Fx.kept (t := t1) ?_
 refine Fx.mk Tryz.func27 k27 (Nat.le_of_ble_eq_true rfl) ?_
 dsimp only [c27, envOf, Nat.reduceAdd]
 refine Cx.ent (Ent.of t1.out) ?_
 refine Cx.openp (a := some ⟨b, 0, none⟩) (AlO.dd_ hd) ?_
 rintro ⟨q, n1, n2, n3, tp⟩
 simp only [alDL, List.cons_append, List.nil_append]
 refine go ?_
 refine Sx.ca rfl (machDoneYes (b := b)) ?_
 rintro v L' ⟨rfl, rfl⟩
 refine go ?_
 exact Kr.one (.inr rfl) rfl (AlO.closeD (v := s.v) (rt := rtOf s.v.was) s hd rfl rfl rfl rfl) ⟨rfl, rfl⟩
end
end Go.Proofs.YtflalhdofhobmaaGreat


namespace Go.Proofs.YtflalhdofhobmaaGreat
open Go
attribute [local irreducible] Sx Cx Rx Fx Krg Ksq Kbl Klp Kr
theorem region0 {x : Cn} (hx : x.ok) (cl : Nat) (hcl : cl ≤ 3) : ∃ M, (crIt x.spare x.root cl 10 (CreS.init, allM x)).2 = M ∧ M.n = 5 ∧ M.ws.length = x.len ∧ M.ok ∧ Pool x.pool M (iotaI x.c) ∧ rtOf (M.at_ (x.root + 0)) = ⟨1, 1, cl, 0⟩ ∧ (∀ a, a ≠ 1 → a ≠ x.root → M.at_ a = (allM x).at_ a) ∧
  Pool x.spare (allM x) (((0 : Nat) : Int) :: (iotaI x.sl).tail) ∧ laterT (rtOf ((allM x).at_ (x.root + 0))).gen = 1 := by
 obtain ⟨b1, b2, b3, b4, b5, b6, b7⟩ := hx.b
 have hlen := hx.len_le
 have hl := allM_len x
 have hk := hx.spare (n := (allM x).ws.length) (by omega) (by omega)
 have hroot : x.root + x.sl = x.slot := by unfold Cn.root Cn.slot; omega
 have hslot : x.slot + x.sl = x.link := by unfold Cn.slot Cn.link; omega
 have g3 : 3 ≤ x.root := by unfold Cn.root; omega
 have hsp := allM_spare hx
 have hio : iotaI x.sl = ((0 : Nat) : Int) :: (iotaI x.sl).tail := by
  have h0 := iota_get (n := x.sl) (i := 0) (by omega)
  have hl0 : (iotaI x.sl).length = x.sl := by simp [iotaI]
  cases he : iotaI x.sl with
  | nil => rw [he] at hl0; simp at hl0; omega
  | cons z l => rw [he] at h0; simp only [itI, List.getD_cons_zero] at h0; rw [h0]; rfl
 rw [hio] at hsp
 have h0 : (allM x).at_ (x.root + 0) = 0 := allM_at hx (by omega) (by omega) (by omega) (by omega)
 have hroot0 : (allM x).at_ (x.root + 0) < 18446744073709551616 := by omega
 obtain ⟨C, M, e10, _, _, _, _, _, hn, hml, hmo, _, hrv, hoth⟩ := cr_alone (k := x.spare) (ro := x.root) (cl := cl) (m := allM x) hk rfl (allM_ok hx) hsp (by show x.root + x.sl ≤ x.slot; omega) (by show 1 < x.root; omega) hcl
 rw [Int.toNat_natCast] at hrv hoth
 refine ⟨M, by rw [e10], ?_, hml.trans hl, hmo, ?_, ?_, fun a ha hb => hoth a ha (by omega), hsp, by rw [h0]; rfl⟩
 ·rw [hn]; unfold allM poolM; rw [fillM_n, fillM_n]; rfl
 ·have hp := allM_pool hx
  refine ⟨?_, hp.nd⟩
  rw [hoth _ (by show (0 : Nat) ≠ 1; omega) (by show 0 ≠ x.root + 0; omega)]
  refine hp.c.congr fun z hz => ?_
  have hz2 := hp.c.mem z hz
  exact hoth _ (by show x.link + z.toNat ≠ 1; omega) (by show x.link + z.toNat ≠ x.root + 0; omega)
 ·rw [hrv, rtOf_w (nextRt_ok hroot0 hcl), h0]; rfl
section
variable {L F G : St}
end
end Go.Proofs.YtflalhdofhobmaaGreat


namespace Go.Proofs.YtflalhdofhobmaaGreat
open Go
attribute [local irreducible] Sx Cx Rx Fx Krg Ksq Kbl Klp Kr
section
variable {L F G : St}
abbrev rhF (x : Cn) (n : Hn) (e : He) (r r2 : Option Addr) (k c c2 : Nat) (m : Mm) (G : St) : St :=
 pt (some ⟨n.a, 0, none⟩) (Blk 97 (ehV x n e r r2 k c c2)) :: pt (some ⟨n.mp, 0, none⟩) (MemO m) :: pt (some ⟨n.ro, 0, none⟩) (RoO n.mp n.sp x) :: pt (some ⟨n.sp, 0, none⟩) (SkO n.mp x.spare) ::
 pt (some ⟨n.rm, 0, none⟩) (RMemO m) :: pt (some ⟨n.w, 0, none⟩) (RWO x n.rm n.rp n.rs n.re) :: pt (some ⟨n.rs, 0, none⟩) (RSkO n.rm x.spare) :: G
set_option maxHeartbeats 4000000 in
theorem enRegion0 {x : Cn} {n : Hn} {e : He} {r r2 : Option Addr} {k c c2 : Nat} {m : Mm} (who words : Int) (hx : x.ok) (hl : m.ws.length = x.len) (hm : m.ok) {s : Nat} {l : List Int} (hp : Pool x.spare m ((s : Int) :: l)) :
  Fx Tryz.prog 54 [.pointer (some ⟨n.a, 0, none⟩), .int .i64 who, .int .i64 0, .int .i64 words] (rhF x n e r r2 k c c2 m G)
   (fun v L' => v = .tuple #[.int .i64 s, .int .i64 (laterT (rtOf (m.at_ (x.root + s))).gen : Nat), .bool true] ∧ L' = rhF x n e r r2 k c c2 (crIt x.spare x.root 0 10 (CreS.init, m)).2 G) := by
 have hlen := hx.len_le
 have hk := hx.spare (n := m.ws.length) (by omega) (by omega)
 have hroot : x.root + x.sl = x.slot := by unfold Cn.root Cn.slot; omega
 obtain ⟨C, M, e10, hd, hcode, hslot, hat, hwas, _⟩ := cr_alone (k := x.spare) (ro := x.root) (cl := 0) (m := m) hk rfl hm hp (by show x.root + x.sl ≤ x.slot; omega) (by show 1 < x.root; unfold Cn.root; omega) (by omega)
 rw [Int.toNat_natCast] at hwas
 refine Fx.mk Tryz.func54 k54 (Nat.le_of_ble_eq_true rfl) ?_
 dsimp only [c54, envOf, Nat.reduceAdd]
 refine go ?_
 refine Cx.ordc rfl (by kernel_rfl) ?_
 refine ge ?_
 iterate 4 (refine Ev.bring 1 rfl ?_; refine ge ?_)
 refine Ev.caH (by kernel_rfl) rfl rfl (rootsCreate (g := n.ro) (mp := n.mp) (sb := n.sp) (x := x) 0 (by omega) hx) (.keep (fun v L' ⟨_, _, e⟩ => by subst e; exact Has.cell rfl) (.dep rfl .nil)) ?_
 rintro v L' ⟨b, rfl, rfl⟩
 refine ge ?_
 refine Ev.caH (by kernel_rfl) rfl rfl (refCreate (w := n.w) (rm := n.rm) (rp := n.rp) (rs := n.rs) (re := n.re) (x := x) 0 (by omega)) (Pres.deps (by kernel_rfl)) ?_
 rintro v L' ⟨bb, rfl, rfl⟩
 refine ge ?_
 refine go ?_
 refine Cx.lp (α := {j : Nat // j ≤ 10}) (fun j => [(0, .pointer (some ⟨n.a, 0, none⟩)), (2, .int .i64 0), (11, .pointer (some ⟨b, 0, none⟩)), (12, .pointer (some ⟨bb, 0, none⟩)), (13, .int .i64 j.1)])
  (fun j => pt (some ⟨b, 0, none⟩) (CreO n.ro n.sp x.spare 0 (crIt x.spare x.root 0 j.1 (CreS.init, m)).1) :: pt (some ⟨bb, 0, none⟩) (RCreO n.w n.rs 0 (crIt x.spare x.root 0 j.1 (CreS.init, m)).1) :: rhF x n e r r2 k c c2 (crIt x.spare x.root 0 j.1 (CreS.init, m)).2 G)
  (fun j => 10 - j.1) ⟨0, by omega⟩ (sub.cons rfl (sub.cons rfl (sub.cons rfl (sub.cons rfl (sub.cons rfl sub.nil))))) ?_ ?_
 ·dsimp only [rhF, crIt]
  exact ent
 rintro ⟨j, hj⟩
 dsimp only [rhF]
 obtain ⟨k1, k2, k3, k4⟩ := crIt_ok (ro := x.root) (cl := 0) (m := m) hk hm (by omega) j (by omega)
 refine go ?_
 refine Cx.ifp rfl (fun h => ?_) (fun h => ?_)
 ·refine go ?_
  refine Sx.ca rfl (crStepC (b := b) (r := n.ro) (mp := n.mp) (sp := n.sp) (x := x) (m := (crIt x.spare x.root 0 j (CreS.init, m)).2) (cl := 0) (c := (crIt x.spare x.root 0 j (CreS.init, m)).1) hx (by omega) (by omega) k1) ?_
  rintro v L' ⟨rfl, rfl⟩
  refine go ?_
  refine Sx.ca rfl (refCrStep (b := bb) (w := n.w) (rm := n.rm) (rp := n.rp) (rs := n.rs) (re := n.re) (x := x) (m := (crIt x.spare x.root 0 j (CreS.init, m)).2) (cl := 0) (c := (crIt x.spare x.root 0 j (CreS.init, m)).1) hx (by omega) (by omega) k1) ?_
  rintro v L' ⟨rfl, rfl⟩
  refine go ?_
  rw [w64 (n := (j : Int) + 1) (by omega) (by omega)]
  refine Klp.nm ⟨j + 1, by omega⟩ (sub.cons rfl (sub.cons rfl (sub.cons rfl (sub.cons rfl (sub.cons rfl sub.nil))))) ?_ (by dsimp only; omega)
  dsimp only [rhF, crIt]
  refine Ent.trans (Ent.take (a := some ⟨b, 0, none⟩)) (Ent.cons ?_)
  exact ent
 ·obtain rfl : j = 10 := by omega
  rw [e10]
  dsimp only
  refine go ?_
  refine Sx.ca rfl (crRegion (b := b) (r := n.ro) (sp := n.sp) (k := x.spare) (cl := 0) (c := C) hd hat hcode) ?_
  rintro v L' ⟨rfl, rfl⟩
  rw [hslot, hwas]
  refine go ?_
  refine Sx.ca rfl (crDone (b := b) (r := n.ro) (sp := n.sp) (k := x.spare) (cl := 0) (c := C) hd) ?_
  rintro v L' ⟨rfl, rfl⟩
  refine go ?_
  refine Sx.ca rfl (crCode (b := b) (r := n.ro) (sp := n.sp) (k := x.spare) (cl := 0) (c := C) hd) ?_
  rintro v L' ⟨rfl, rfl⟩
  rw [hcode]
  refine go ?_
  refine Sx.ent (Ent.take (a := some ⟨bb, 0, none⟩)) ?_
  refine Sx.openp (a := some ⟨bb, 0, none⟩) rfl ?_
  intro p
  have er : C.rslot = s := by unfold CreS.rslot; rw [if_neg (by omega), hslot]
  have eg : C.rgen = laterT (rtOf (m.at_ (x.root + s))).gen := by unfold CreS.rgen; rw [if_pos ⟨hd, hat⟩, hwas]
  simp only [rcrL, List.cons_append, List.nil_append, er, eg, hd, hcode]
  refine go ?_
  refine Sx.gyes rfl (by simp) ?_
  refine go ?_
  refine Cx.cno rfl (by simp) ?_
  refine go ?_
  refine Cx.lp (α := Unit) (fun _ => [(14, .int .i64 (s : Nat)), (15, .int .i64 (laterT (rtOf (m.at_ (x.root + s))).gen : Nat)), (2, .int .i64 0), (16, .int .i64 0)])
   (fun _ => rhF x n e r r2 k c c2 M G) (fun _ => 0) () (sub.cons rfl (sub.cons rfl (sub.cons rfl (sub.cons rfl sub.nil)))) ?_ ?_
  ·dsimp only [rhF]
   refine Ent.trans Ent.drop ?_
   exact ent
  rintro ⟨⟩
  refine go ?_
  refine Kr.three (.inr rfl) rfl rfl rfl (Ent.refl _) ⟨rfl, rfl⟩
abbrev frH (n : Hn) (e : He) (Q : Nat → Who) (i : Nat) : FrH := ⟨e.eo, (Q i).u, n.mp, e.ro, e.sp, e.ch, (Q i).pb⟩
abbrev fgF (x : Cn) (n : Hn) (e : He) (r : Nat) (r2 : Option Addr) (k c c2 : Nat) (Q : Nat → Who) (i : Nat) (S : SupS) (m : Mm) (G : St) : St :=
 pt (some ⟨n.a, 0, none⟩) (Blk 97 (ehV x n e (some ⟨r, 0, none⟩) r2 k c c2)) :: pt (some ⟨r, 0, none⟩) (Row 47 1 k c (ptrs k fun i => (Q i).u)) :: pt (some ⟨(Q i).u, 0, none⟩) (SupO n.mp (Q i).pb x S) ::
 pt (some ⟨n.mp, 0, none⟩) (MemO m) :: pt (some ⟨(Q i).pb, 0, none⟩) (SkO n.mp x.pool) :: pt (some ⟨e.eo, 0, none⟩) (EnO n.mp e.ro e.ch) :: pt (some ⟨e.ro, 0, none⟩) (RoO n.mp e.sp x) :: pt (some ⟨e.sp, 0, none⟩) (SkO n.mp x.spare) :: pt (some ⟨e.ch, 0, none⟩) (ChO n.mp e.pb x) :: G
structure FrGood (x : Cn) (slot : Nat) (r : Mm × SupS × FrS) : Prop where
 l : r.1.ws.length = x.len
 m : r.1.ok
 s : r.2.1.xs.length + r.2.1.lm.size ≤ 1000
 m0 : 0 ≤ r.2.1.most
 m2 : r.2.1.most ≤ 64
 a : r.2.2.done = false → FrOk x r.2.2
structure FrRun (x : Cn) (p : FrP) (r : Mm × SupS × FrS) (N : Nat) : Prop where
 good : ∀ j, j ≤ N → FrGood x p.slot (frIt p j r)
 nd : ∀ j, j < N → (frIt p j r).2.2.done = false
 d : (frIt p N r).2.2.done = true
set_option maxHeartbeats 4000000 in
theorem enFrees {x : Cn} {n : Hn} {e : He} {r : Nat} {r2 : Option Addr} {k c c2 : Nat} {Q : Nat → Who} {i : Nat} {S : SupS} {m : Mm} {slot : Nat} {gen : Int} (N : Nat) (hN : N < 400) (hi : i < k) (hk : k ≤ 64) (hx : x.ok) (hs : slot < x.sl) (hr : FrRun x (x.fr slot gen) (m, S, FrS.init) N) :
  Fx Tryz.prog 49 [.pointer (some ⟨n.a, 0, none⟩), .int .i64 i, .int .i64 slot, .int .i64 gen] (fgF x n e r r2 k c c2 Q i S m G)
   (fun v L' => ∃ b, v = .tuple #[.pointer (some ⟨b, 0, none⟩), .int .i64 N] ∧ L' = pt (some ⟨b, 0, none⟩) (FrO (frH n e Q i) x slot gen (frIt (x.fr slot gen) N (m, S, FrS.init)).2.2) ::
    fgF x n e r r2 k c c2 Q i (frIt (x.fr slot gen) N (m, S, FrS.init)).2.1 (frIt (x.fr slot gen) N (m, S, FrS.init)).1 G) := by
 obtain ⟨hgood, hnd, hd⟩ := hr
 refine Fx.mk Tryz.func49 k49 (Nat.le_of_ble_eq_true rfl) ?_
 dsimp only [c49, envOf, Nat.reduceAdd]
 refine go ?_
 refine Cx.ordc rfl (by kernel_rfl) ?_
 refine ge ?_
 refine Ev.ldrH (b := r) (v := .pointer (some ⟨(Q i).u, 0, none⟩)) (by kernel_rfl) rfl rfl (by rw [show 0 + (i : Int).toNat * 1 = i by omega]; exact ptrs_get (U := fun i => (Q i).u) hi) ?_
 refine ge ?_
 refine Ev.caH (by kernel_rfl) rfl rfl (endsFree (h := frH n e Q i) (x := x) slot gen hs) (Pres.deps (by kernel_rfl)) ?_
 rintro v L' ⟨b, rfl, rfl⟩
 refine ge ?_
 refine go ?_
 refine Cx.lp (α := {j : Nat // j ≤ N}) (fun j => [(10, .pointer (some ⟨b, 0, none⟩)), (12, .int .i64 j.1), (13, .int .i64 j.1)])
  (fun j => pt (some ⟨b, 0, none⟩) (FrO (frH n e Q i) x slot gen (frIt (x.fr slot gen) j.1 (m, S, FrS.init)).2.2) :: fgF x n e r r2 k c c2 Q i (frIt (x.fr slot gen) j.1 (m, S, FrS.init)).2.1 (frIt (x.fr slot gen) j.1 (m, S, FrS.init)).1 G)
  (fun j => N - j.1) ⟨0, by omega⟩ (sub.cons rfl (sub.cons rfl (sub.cons rfl sub.nil))) ?_ ?_
 ·dsimp only [fgF, frIt]
  exact ent
 rintro ⟨j, hj⟩
 dsimp only [fgF]
 obtain ⟨g1, g2, g3, g4, g5, g6⟩ := hgood j hj
 repeat' (first|refine Zo0 rfl ?_|refine Zo1 ?_|refine Zo2 ?_|refine Zo3 ?_|refine Zo4 ?_|refine Zo5 ?_|refine Zo6 ?_|refine Zo7 ?_|refine Zo8 rfl ?_|refine Zo9 rfl ?_|refine Zoa ?_|refine Zob ?_|refine Zoc ?_|refine Zod ?_|refine Zoe ?_|refine Zof ?_|refine Zog ?_|refine Zoh ?_|refine Zom rfl (by rfl) ?_|refine Zon rfl rfl ?_|refine Zoo rfl rfl rfl rfl (by rfl) (by rfl) ?_|refine Zop rfl trivial ?_|refine Zoq rfl rfl rfl ?_)
 rw [decide_eq_true (show (j : Int) < 400 by omega)]
 refine go ?_
 refine Sx.ca rfl (frStepC (b := b) (h := frH n e Q i) (x := x) (slot := slot) (gen := gen) (S := (frIt (x.fr slot gen) j (m, S, FrS.init)).2.1) (m := (frIt (x.fr slot gen) j (m, S, FrS.init)).1) (f := (frIt (x.fr slot gen) j (m, S, FrS.init)).2.2) (pb2 := e.pb) hx (by omega) hs g3 g4 g5 g6) ?_
 rintro v L' ⟨rfl, rfl⟩
 by_cases hjn : j = N
 ·subst hjn
  have ee : frStep (x.fr slot gen) (frIt (x.fr slot gen) j (m, S, FrS.init)).1 (frIt (x.fr slot gen) j (m, S, FrS.init)).2.1 (frIt (x.fr slot gen) j (m, S, FrS.init)).2.2 = frIt (x.fr slot gen) j (m, S, FrS.init) := by
   unfold frStep; rw [if_pos hd]
  rw [hd, ee]
  refine go ?_
  refine Kr.two (.inr rfl) rfl rfl ?_ ⟨b, rfl, rfl⟩
  exact ent
 ·rw [hnd j (by omega)]
  refine go ?_
  rw [w64 (n := (j : Int) + 1) (by omega) (by omega)]
  refine Klp.nm ⟨j + 1, by omega⟩ (sub.cons rfl (sub.cons rfl (sub.cons rfl sub.nil))) ?_ (by dsimp only; omega)
  dsimp only [fgF, frIt]
  exact ent
end
end Go.Proofs.YtflalhdofhobmaaGreat
