/-
  Parts of the proof, merged: what the statement leans on.
-/
import Derived.Test.YtflalhdofhobmaaGreatZHiG
set_option linter.unusedVariables false
set_option linter.unusedSimpArgs false

namespace Go.Proofs.YtflalhdofhobmaaGreat
section
open Go
attribute [local irreducible] Sx Cx Rx Fx Krg Ksq Kbl Klp Kr
def rwalkL (T : TypeId) (w : Nat) (s : WalkS) (a : OA) (y : OA × Nat) : St :=
 [pt a (Blk T [zp w, .slice y.1 s.l.length y.2, .bool s.done]), pt y.1 (Row 3 1 s.l.length y.2 (ints s.l))]
def RWalkT (T : TypeId) (w : Nat) (s : WalkS) (a : OA) : As := exs (rwalkL T w s a)
abbrev RWalkO := RWalkT 204
section
variable {L F G : St}
theorem RWalkO.close {T : TypeId} {w : Nat} {a r : OA} {c n : Nat} {v0 v2 : Value} {vs : List Value} {F G : St} (s : WalkS) [t : Take L a (Blk T [v0, .slice r n c, v2]) F] [u : Take F r (Row 3 1 n c vs) G]
  (h0 : v0 = zp w) (h1 : n = s.l.length) (h2 : v2 = .bool s.done) (hw : vs = ints s.l) : Ent L (pt a (RWalkT T w s) :: G) := by
 subst h0 h1 h2 hw
 refine Et (Em (t := t) (Eo u.out)) ?_
 exact Ent.close (f := rwalkL T w s a) rfl (r, c)
theorem refWalkNew {w : Nat} (k : Int) : FX 124 [zp w, ii k] L (fun v L' => ∃ b, v = zp b ∧ L' = pt (ad b) (RWalkO w ⟨[k], false⟩) :: L) := by
 refine Fm Tryz.func124 k124 ?_
 dsimp only [c124, eL]
 refine go ?_
 refine Sx.bs (sz := 1) rfl rfl fun q => (go ?_)
 refine Sx.bx rfl rfl fun b => ?_
 refine Sr [zp w, .slice (ad q) 1 1, .bool false] rfl (go ?_)
 refine Ko rfl ?_ ⟨b, rfl, rfl⟩
 exact RWalkO.close (a := ad b) (r := ad q) (w := w) ⟨[k], false⟩ rfl rfl rfl rfl
set_option maxHeartbeats 1000000 in
theorem refWalkStep {b w rm rp rs re : Nat} {x : Cn} {m : Mm} {s : WalkS} {F1 F2 F3 : St} (hx : x.ok) (hl : x.len ≤ m.ws.length) (hs : s.ok x.c) (hd : s.done = false) [t1 : Take L (ad b) (RWalkO w s) F1] [t2 : Take F1 (ad rm) (RMemO m) F2] [t3 : Take F2 (ad w) (RWO x rm rp rs re) F3] [t4 : Take F3 (ad rp) (RSkO rm x.pool) G] :
  FX 125 [zp b] L (fun v L' => v = .bool true ∧ L' = pt (ad b) (RWalkO w (walkStep x.link x.c m s).1) :: pt (ad rm) (RMemO (walkStep x.link x.c m s).2) :: F2) := by
 obtain ⟨b1, b2, b3, b4, b5, b6, b7⟩ := hx.b
 have hlen := hx.len_le
 have hback : Ent (pt (ad w) (RWO x rm rp rs re) :: pt (ad rp) (RSkO rm x.pool) :: G) F2 := Et (Ec (Eo t4.back)) (Eo t3.back)
 obtain ⟨hne, hrg, hll⟩ := hs
 have hlp := List.length_pos_iff.2 hne
 have hr1 := hrg _ (lastI_mem hne)
 have hsz : x.link + x.c ≤ x.len := by unfold Cn.link Cn.len; omega
 have hx0 : (ints s.l)[s.l.length - 1]? = some (ii (lastI s.l)) := by simp only [ints, List.getElem?_map, lastI_get hne]; rfl
 obtain ⟨y, hy⟩ : ∃ y : Nat, lastI s.l = y := ⟨(lastI s.l).toNat, by omega⟩
 have hstep : walkStep x.link x.c m s = if 0 ≤ behindN x.c (m.at_ (x.link + y)) ∧ s.l.length < x.c then (⟨s.l ++ [behindN x.c (m.at_ (x.link + y))], false⟩, m.tick) else (⟨s.l, true⟩, m.tick) := by
  unfold walkStep; rw [hd, hy, tn]; simp only [bf, if_false]
 refine Fm Tryz.func125 k125 ?_
 dsimp only [c125, eL]
 refine Xe (Et (Eo t1.out) (Ec (Et (Eo t2.out) (Ec (Et (Eo t3.out) (Ec (Eo t4.out))))))) ?_
 refine Cx.pure (rmemKey (rm := rm) (m := m)) fun hm => ?_
 have hlt := Ml hm.1 (x.link + y)
 refine Xo (a := ad b) rfl ?_
 rintro ⟨r, c⟩
 simp only [rwalkL, lc, ln]
 rw [hd]
 refine Cx.rowkey (a := r) fun hxl _ _ hkr => ?_
 obtain ⟨rg, rfl⟩ : ∃ g, r = ad g := by
  rcases hkr with h | h
  ·omega
  ·exact h
 refine go ?_
 refine Xd rfl kr_ (ge ?_)
 rw [w64 (n := (s.l.length : Int) - 1) (by omega) (by omega)]
 refine Ev.pvH kr_ rfl rfl ⟨by omega, by omega⟩ ?_
 refine El (b := rg) kr_ rfl rfl (v := ii (lastI s.l)) (by rw [show 0 + ((s.l.length : Int) - 1).toNat * 1 = s.l.length - 1 by omega]; exact hx0) (ge ?_)
 rw [hy]
 refine Eb kr_ rfl rfl (refLink hx y (by omega)) (ge ?_)
 refine Ea kr_ rfl rfl (refLoad (rm := rm) (m := m) (x.link + y) (by omega)) (.dep rfl (.dep rfl (.dep rfl (.dep rfl (.dep rfl (.dep rfl (.dep rfl (.dep rfl (.keep (fun v L' ⟨_, e⟩ => by subst e; exact Has.cell rfl) (.keep (fun v L' ⟨_, e⟩ => by subst e; exact Has.cell rfl) .nil)))))))))) ?_
 rintro v L' ⟨rfl, rfl⟩
 refine ge ?_
 refine Eb kr_ rfl rfl (refBelow (sb := rp) (rm := rm) (k := x.pool) (m.at_ (x.link + y)) hlt b2) (ge ?_)
 obtain ⟨Y, hY⟩ : ∃ Y, behindN x.c (m.at_ (x.link + y)) = Y := ⟨_, rfl⟩
 rw [hY] at hstep
 rw [show x.pool.below (m.at_ (x.link + y)) = Y from hY]
 refine go ?_
 refine Xd rfl kr_ (ge ?_)
 have no : ¬ (0 ≤ Y ∧ s.l.length < x.c) → Ent (pt (ad b) (Blk 204 [zp w, .slice (ad rg) s.l.length c, .bool true]) :: pt (ad rg) (Row 3 1 s.l.length c (ints s.l)) :: pt (ad rm) (RMemO m.tick) :: pt (ad w) (RWO x rm rp rs re) :: pt (ad rp) (RSkO rm x.pool) :: G)
   (pt (ad b) (RWalkO w (walkStep x.link x.c m s).1) :: pt (ad rm) (RMemO (walkStep x.link x.c m s).2) :: F2) := fun h => by
  rw [hstep, if_neg h]
  exact Et (RWalkO.close (a := ad b) (r := ad rg) (w := w) ⟨s.l, true⟩ rfl rfl rfl rfl) (Ec (Ec hback))
 by_cases h0 : 0 ≤ Y
 ·refine Ev.no 46 rfl (dz (by omega)) (ge ?_)
  refine Xi rfl (fun h1 => ?_) (fun h1 => ?_)
  ·refine go ?_
   refine Ko rfl ?_ ⟨rfl, rfl⟩
   refine Et ?_ (no (fun h => by omega))
   exact ent
  ·have e : walkStep x.link x.c m s = (⟨s.l ++ [Y], false⟩, m.tick) := by rw [hstep, if_pos ⟨h0, by omega⟩]
   rw [e]
   refine go ?_
   refine Sx.bs (sz := 1) rfl rfl fun g => ?_
   refine Sx.ap (ra := ad rg) rfl rfl (Rd.row (b := g) (E := 3) (cap := 1) rfl) rfl (by simp [maxLen]; omega) (by omega) fun ra ca hc => (go ?_)
   refine Ko rfl ?_ ⟨rfl, rfl⟩
   refine Et (RWalkO.close (a := ad b) (r := ra) (w := w) ⟨s.l ++ [Y], false⟩ rfl (by simp) rfl (by simp [ints_append]; rfl)) (Ec ?_)
   refine Et ?_ (Ec hback)
   exact ent
 ·refine Ev.yes 46 rfl (dt (by omega)) (ge ?_)
  refine go ?_
  refine Ko rfl ?_ ⟨rfl, rfl⟩
  refine Et ?_ (no (fun h => h0 h.1))
  exact ent
set_option maxHeartbeats 1000000 in
theorem refBehind {w rm rp rs re : Nat} {x : Cn} {m : Mm} (first : Int) (h0 : 0 ≤ first) (h1 : first < x.c) (hx : x.ok) (hl : x.len ≤ m.ws.length) {F1 F2 : St} [t1 : Take L (ad rm) (RMemO m) F1] [t2 : Take F1 (ad w) (RWO x rm rp rs re) F2] [t3 : Take F2 (ad rp) (RSkO rm x.pool) G] :
  FX 130 [zp w, ii first] L (fun v L' => ∃ ro co, v = .slice ro (chainL x m first).length co ∧ L' = pt ro (Row 3 1 (chainL x m first).length co (ints (chainL x m first))) :: L) := by
 obtain ⟨b1, b2, b3, b4, b5, b6, b7⟩ := hx.b
 have hlen := hx.len_le
 have hsz : x.link + x.c ≤ x.len := by unfold Cn.link Cn.len; omega
 refine Fm Tryz.func130 k130 ?_
 dsimp only [c130, eL]
 refine Xe (Et (Eo t1.out) (Ec (Et (Eo t2.out) (Ec (Eo t3.out))))) ?_
 refine Xo (a := ad rm) rfl ?_
 rintro ⟨r0, c0⟩
 simp only [rmemL, lc, ln]
 refine Cx.liftp fun hm => ?_
 refine Cx.rowkey (a := r0) fun hx0 hn0 _ hk1 => ?_
 obtain ⟨rg, rfl⟩ := row_some (show 0 < m.ws.length by omega) (hk1.imp (fun h => ⟨h.1, h.2.1, h.2.2⟩) id)
 have hback : Ent (pt (ad rm) (Blk 110 [.slice (ad rg) m.ws.length c0, ii (IntKind.i64.wrap (m.n : Int))]) :: pt (ad rg) (Row 56 1 m.ws.length c0 (us m.ws)) :: pt (ad w) (RWO x rm rp rs re) :: pt (ad rp) (RSkO rm x.pool) :: G) L :=
  Et (Et (RMemO.close (T := 110) (a := ad rm) (r := ad rg) m hm rfl rfl rfl) (Ec (Et (Ec (Eo t3.back)) (Eo t2.back)))) (Eo t1.back)
 refine go ?_
 refine Cx.lp (α := {p : (List Int × Int) × (OA × Nat) // p.1.1.length ≤ x.c ∧ -1 ≤ p.1.2 ∧ p.1.2 < x.c ∧ p.1.1 ++ walkL x.pool m (x.c - p.1.1.length) p.1.2 = chainL x m first})
  (fun p => [(0, zp w), (5, .slice p.1.2.1 p.1.1.1.length p.1.2.2), (6, ii p.1.1.2)])
  (fun p => pt p.1.2.1 (Row 3 1 p.1.1.1.length p.1.2.2 (ints p.1.1.1)) :: pt (ad rm) (Blk 110 [.slice (ad rg) m.ws.length c0, ii (IntKind.i64.wrap (m.n : Int))]) :: pt (ad rg) (Row 56 1 m.ws.length c0 (us m.ws)) :: pt (ad w) (RWO x rm rp rs re) :: pt (ad rp) (RSkO rm x.pool) :: G)
  (fun p => x.c - p.1.1.1.length) ⟨(([], first), (none, 0)), by simp, by dsimp only; omega, h1, by simp [chainL]⟩ sb3 (Ent.rownil 3 1) ?_
 rintro ⟨⟨⟨out, i⟩, ⟨r, c⟩⟩, hol, hi1, hi2, he⟩
 dsimp only at hol hi1 hi2 he ⊢
 have fin : (i < 0 ∨ x.c ≤ out.length) → out = chainL x m first := by
  intro h
  rw [← he]
  have := walkL_fin (k := x.pool) (m := m) h
  rw [show x.pool.n = x.c from rfl] at this
  rw [this, List.append_nil]
 refine go ?_
 refine Sx.ifp rfl (fun h => ?_) (fun h => ?_)
 ·refine go ?_
  rw [dt hi2]
  refine go ?_
  refine Xi rfl (fun h2 => ?_) (fun h2 => ?_)
  ·obtain ⟨y, rfl⟩ : ∃ y : Nat, i = y := ⟨i.toNat, by omega⟩
   have hlx := Ml hm.1 (x.link + y)
   have hbl := x.pool.below_lt (m.at_ (x.link + y))
   have hbg := x.pool.below_ge (m.at_ (x.link + y))
   refine go ?_
   refine Sx.bs (sz := 1) rfl rfl fun g2 => ?_
   refine Sx.ap (ra := r) rfl rfl (Rd.row (b := g2) (E := 3) (cap := 1) rfl) rfl (by simp [maxLen]; omega) (by omega) fun ra ca hc => (go ?_)
   refine Cx.ordu rfl rfl kr_ kr_ (ge ?_)
   refine Eb kr_ rfl rfl (refLink hx y (by omega)) (ge ?_)
   refine El (b := rg) kr_ rfl rfl (show (us m.ws)[0 + ((x.link + y : Nat) : Int).toNat * 1]? = some (wd (m.at_ (x.link + y))) by rw [show 0 + ((x.link + y : Nat) : Int).toNat * 1 = x.link + y by omega]; exact us_get (Mm.get (by omega))) (ge ?_)
   refine Eb kr_ rfl rfl (refBelow (sb := rp) (rm := rm) (k := x.pool) (m.at_ (x.link + y)) hlx b2) (ge ?_)
   refine go ?_
   refine Kn ⟨((out ++ [(y : Int)], x.pool.below (m.at_ (x.link + y))), (ra, ca)), by simp; omega, hbg, hbl, ?_⟩ (sub.cons rfl (sub.cons (by simp; rfl) sb1)) ?_ (by simp; omega)
   ·dsimp only
    rw [← he, show x.c - out.length = (x.c - (out ++ [(y : Int)]).length) + 1 by simp; omega]
    simp only [walkL, if_pos h, List.append_assoc, lc, ln, tn]
    rfl
   ·simp only [List.length_append, List.length_singleton, ints_append]
    exact ent
  ·refine go ?_
   have hf := fin (.inr (by omega))
   subst hf
   exact Ko rfl (Ec hback) ⟨r, c, rfl, rfl⟩
 ·refine go ?_
  have hf := fin (.inl (by omega))
  subst hf
  exact Ko rfl (Ec hback) ⟨r, c, rfl, rfl⟩
abbrev rfrV (sa at_ : Nat) (cnt : Int) (v : FrV) (ep kp bp gp : Value) (d : Bool) : List Value :=
 [zp sa, ii (at_ : Nat), ii cnt, ii (v.point : Nat), ii (v.back : Nat), ii v.tag, ep, kp, bp, gp, ii (v.code : Nat), .bool d]
abbrev rfrB (b sa at_ : Nat) (cnt : Int) (v : FrV) (ep kp bp gp : Value) (d : Bool) : As := pt (ad b) (Blk 120 (rfrV sa at_ cnt v ep kp bp gp d))
def rfrEL (T : TypeId) (sa w slot : Nat) (gen : Int) (s : FrS) (a : OA) (y : Nat) : St :=
 [pt a (Blk T (rfrV sa s.at_ (s.v.cnt : Nat) s.v (zp y) (.pointer none) (.pointer none) (.pointer none) s.done)), pt (ad y) (REndO w slot gen s.e)]
def rfrWL (T : TypeId) (sa w slot : Nat) (gen : Int) (s : FrS) (a : OA) (y : Nat × Nat) : St :=
 [pt a (Blk T (rfrV sa s.at_ (s.v.cnt : Nat) s.v (zp y.1) (zp y.2) (.pointer none) (.pointer none) s.done)), pt (ad y.1) (REndO w slot gen s.e), pt (ad y.2) (RWalkO w s.w)]
def rfrPL (T : TypeId) (sa w rs slot : Nat) (gen : Int) (s : FrS) (a : OA) (y : Nat × Nat × Value) : St :=
 [pt a (Blk T (rfrV sa s.at_ (s.v.cnt : Nat) s.v (zp y.1) y.2.2 (zp y.2.1) (.pointer none) s.done)), pt (ad y.1) (REndO w slot gen s.e), pt (ad y.2.1) (RPushO rs s.p)]
def rfrGL (T : TypeId) (sa w rp slot : Nat) (gen : Int) (s : FrS) (a : OA) (y : Nat × Nat × Value × Value) : St :=
 [pt a (Blk T (rfrV sa s.at_ (s.v.cnt : Nat) s.v (zp y.1) y.2.2.1 y.2.2.2 (zp y.2.1) s.done)), pt (ad y.1) (REndO w slot gen s.e), pt (ad y.2.1) (RGiveO rp s.g)]
def RFrT (T : TypeId) (sa w rs rp slot : Nat) (gen : Int) (s : FrS) (a : OA) : As :=
 match s.at_ with
 | 0 => exs (rfrEL T sa w slot gen s a) | 1 => exs (rfrEL T sa w slot gen s a) | 2 => exs (rfrWL T sa w slot gen s a) | 3 => exs (rfrPL T sa w rs slot gen s a) | _ => exs (rfrGL T sa w rp slot gen s a)
abbrev RFrO := RFrT 120
section
variable {T : TypeId} {sa w rs rp slot : Nat} {gen : Int} {s : FrS} {a : OA}
theorem RFrO.e_ (h : s.at_ = 0 ∨ s.at_ = 1) : RFrT T sa w rs rp slot gen s a = exs (rfrEL T sa w slot gen s a) := by unfold RFrT; rcases h with h | h <;> (rw [h]; rfl)
theorem RFrO.w_ (h : s.at_ = 2) : RFrT T sa w rs rp slot gen s a = exs (rfrWL T sa w slot gen s a) := by unfold RFrT; rw [h]; rfl
theorem RFrO.p_ (h : s.at_ = 3) : RFrT T sa w rs rp slot gen s a = exs (rfrPL T sa w rs slot gen s a) := by unfold RFrT; rw [h]; rfl
theorem RFrO.g_ (h : s.at_ = 4) : RFrT T sa w rs rp slot gen s a = exs (rfrGL T sa w rp slot gen s a) := by unfold RFrT; rw [h]; rfl
end
section
variable {b sa w rs rp slot at_ : Nat} {gen cnt : Int} {v : FrV} {kp bp : Value} {d : Bool}
def FrV.sees (v : FrV) : Nat × Nat × Int × Nat := (v.point, v.back, v.tag, v.code)
theorem rfrV_eq {v v' : FrV} {ep kp bp gp : Value} (h : v.sees = v'.sees) : rfrV sa at_ cnt v ep kp bp gp d = rfrV sa at_ cnt v' ep kp bp gp d := by
 unfold FrV.sees at h
 simp only [Prod.mk.injEq] at h
 obtain ⟨h1, h2, h3, h4⟩ := h
 unfold rfrV
 rw [h1, h2, h3, h4]
theorem RFrO.closeE {q : Nat} {e : EndS} (s : FrS) (h0 : s.at_ = 0 ∨ s.at_ = 1) (ha : at_ = s.at_) (hc : cnt = (s.v.cnt : Nat)) (hv : v.sees = s.v.sees) (he : e = s.e) (hd : d = s.done) :
  Ent (rfrB b sa at_ cnt v (zp q) (.pointer none) (.pointer none) (.pointer none) d :: pt (ad q) (REndO w slot gen e) :: G) (pt (ad b) (RFrO sa w rs rp slot gen s) :: G) := by
 subst ha hc he hd
 unfold rfrB
 rw [rfrV_eq hv]
 exact Ent.close (f := rfrEL 120 sa w slot gen s (ad b)) (RFrO.e_ h0) q
theorem RFrO.closeW {q k : Nat} {e : EndS} {u : WalkS} (s : FrS) (h0 : s.at_ = 2) (ha : at_ = s.at_) (hc : cnt = (s.v.cnt : Nat)) (hv : v.sees = s.v.sees) (he : e = s.e) (hu : u = s.w) (hd : d = s.done) :
  Ent (rfrB b sa at_ cnt v (zp q) (zp k) (.pointer none) (.pointer none) d :: pt (ad q) (REndO w slot gen e) :: pt (ad k) (RWalkO w u) :: G) (pt (ad b) (RFrO sa w rs rp slot gen s) :: G) := by
 subst ha hc he hd hu
 unfold rfrB
 rw [rfrV_eq hv]
 exact Ent.close (f := rfrWL 120 sa w slot gen s (ad b)) (RFrO.w_ h0) (q, k)
theorem RFrO.closeP {q k : Nat} {e : EndS} {u : PushS} (s : FrS) (h0 : s.at_ = 3) (ha : at_ = s.at_) (hc : cnt = (s.v.cnt : Nat)) (hv : v.sees = s.v.sees) (he : e = s.e) (hu : u = s.p) (hd : d = s.done) :
  Ent (rfrB b sa at_ cnt v (zp q) kp (zp k) (.pointer none) d :: pt (ad q) (REndO w slot gen e) :: pt (ad k) (RPushO rs u) :: G) (pt (ad b) (RFrO sa w rs rp slot gen s) :: G) := by
 subst ha hc he hd hu
 unfold rfrB
 rw [rfrV_eq hv]
 exact Ent.close (f := rfrPL 120 sa w rs slot gen s (ad b)) (RFrO.p_ h0) (q, k, kp)
theorem RFrO.closeG {q k : Nat} {e : EndS} {u : PushS} (s : FrS) (h0 : s.at_ = 4) (ha : at_ = s.at_) (hc : cnt = (s.v.cnt : Nat)) (hv : v.sees = s.v.sees) (he : e = s.e) (hu : u = s.g) (hd : d = s.done) :
  Ent (rfrB b sa at_ cnt v (zp q) kp bp (zp k) d :: pt (ad q) (REndO w slot gen e) :: pt (ad k) (RGiveO rp u) :: G) (pt (ad b) (RFrO sa w rs rp slot gen s) :: G) := by
 subst ha hc he hd hu
 unfold rfrB
 rw [rfrV_eq hv]
 exact Ent.close (f := rfrGL 120 sa w rp slot gen s (ad b)) (RFrO.g_ h0) (q, k, kp, bp)
end
theorem Has.opn1 {α : Type _} {f : α → St} {a : OA} {R : OA → As} {b off : Nat} {vs : List Value} [t : Take L a R F] (hR : R a = exs f) (h : ∀ y, Has (f y ++ F) b off vs) : Has L b off vs := by
 intro w0 w s j v hj
 obtain ⟨hp, hh, hw⟩ := s.heap
 have h1 := t.out hp hh
 unfold pt at h1
 rw [hR] at h1
 obtain ⟨y, hy⟩ := holds_ex.1 h1
 exact h y w0 w ⟨s.os, s.tape, s.output, s.size, hp, hy, hw⟩ j v hj
theorem RFrO.done {b sa w rs rp slot : Nat} {gen : Int} {s : FrS} (ha : s.at_ ≤ 4) [t : Take L (ad b) (RFrO sa w rs rp slot gen s) F] : Has L b 11 [.bool s.done] := by
 rcases (show (s.at_ = 0 ∨ s.at_ = 1) ∨ s.at_ = 2 ∨ s.at_ = 3 ∨ s.at_ = 4 by omega) with h | h | h | h
 ·refine Has.opn1 (a := ad b) (RFrO.e_ h) fun y => ?_
  simp only [rfrEL, lc, ln]
  exact (Has.blk (n := 1)).one rfl
 ·refine Has.opn1 (a := ad b) (RFrO.w_ h) fun y => ?_
  simp only [rfrWL, lc, ln]
  exact (Has.blk (n := 1)).one rfl
 ·refine Has.opn1 (a := ad b) (RFrO.p_ h) fun y => ?_
  simp only [rfrPL, lc, ln]
  exact (Has.blk (n := 1)).one rfl
 ·refine Has.opn1 (a := ad b) (RFrO.g_ h) fun y => ?_
  simp only [rfrGL, lc, ln]
  exact (Has.blk (n := 1)).one rfl
theorem RFrO.point {b sa w rs rp slot : Nat} {gen : Int} {s : FrS} (ha : s.at_ ≤ 4) [t : Take L (ad b) (RFrO sa w rs rp slot gen s) F] : Has L b 3 [ii (s.v.point : Nat)] := by
 rcases (show (s.at_ = 0 ∨ s.at_ = 1) ∨ s.at_ = 2 ∨ s.at_ = 3 ∨ s.at_ = 4 by omega) with h | h | h | h
 ·refine Has.opn1 (a := ad b) (RFrO.e_ h) fun y => ?_
  simp only [rfrEL, lc, ln]
  exact (Has.blk (n := 1)).one rfl
 ·refine Has.opn1 (a := ad b) (RFrO.w_ h) fun y => ?_
  simp only [rfrWL, lc, ln]
  exact (Has.blk (n := 1)).one rfl
 ·refine Has.opn1 (a := ad b) (RFrO.p_ h) fun y => ?_
  simp only [rfrPL, lc, ln]
  exact (Has.blk (n := 1)).one rfl
 ·refine Has.opn1 (a := ad b) (RFrO.g_ h) fun y => ?_
  simp only [rfrGL, lc, ln]
  exact (Has.blk (n := 1)).one rfl
theorem RFrO.back {b sa w rs rp slot : Nat} {gen : Int} {s : FrS} (ha : s.at_ ≤ 4) [t : Take L (ad b) (RFrO sa w rs rp slot gen s) F] : Has L b 4 [ii (s.v.back : Nat)] := by
 rcases (show (s.at_ = 0 ∨ s.at_ = 1) ∨ s.at_ = 2 ∨ s.at_ = 3 ∨ s.at_ = 4 by omega) with h | h | h | h
 ·refine Has.opn1 (a := ad b) (RFrO.e_ h) fun y => ?_
  simp only [rfrEL, lc, ln]
  exact (Has.blk (n := 1)).one rfl
 ·refine Has.opn1 (a := ad b) (RFrO.w_ h) fun y => ?_
  simp only [rfrWL, lc, ln]
  exact (Has.blk (n := 1)).one rfl
 ·refine Has.opn1 (a := ad b) (RFrO.p_ h) fun y => ?_
  simp only [rfrPL, lc, ln]
  exact (Has.blk (n := 1)).one rfl
 ·refine Has.opn1 (a := ad b) (RFrO.g_ h) fun y => ?_
  simp only [rfrGL, lc, ln]
  exact (Has.blk (n := 1)).one rfl
theorem RFrO.code {b sa w rs rp slot : Nat} {gen : Int} {s : FrS} (ha : s.at_ ≤ 4) [t : Take L (ad b) (RFrO sa w rs rp slot gen s) F] : Has L b 10 [ii (s.v.code : Nat)] := by
 rcases (show (s.at_ = 0 ∨ s.at_ = 1) ∨ s.at_ = 2 ∨ s.at_ = 3 ∨ s.at_ = 4 by omega) with h | h | h | h
 ·refine Has.opn1 (a := ad b) (RFrO.e_ h) fun y => ?_
  simp only [rfrEL, lc, ln]
  exact (Has.blk (n := 1)).one rfl
 ·refine Has.opn1 (a := ad b) (RFrO.w_ h) fun y => ?_
  simp only [rfrWL, lc, ln]
  exact (Has.blk (n := 1)).one rfl
 ·refine Has.opn1 (a := ad b) (RFrO.p_ h) fun y => ?_
  simp only [rfrPL, lc, ln]
  exact (Has.blk (n := 1)).one rfl
 ·refine Has.opn1 (a := ad b) (RFrO.g_ h) fun y => ?_
  simp only [rfrGL, lc, ln]
  exact (Has.blk (n := 1)).one rfl
end
section
variable {L F G : St}
theorem RSupO.w {b w : Nat} {S : SupS} [t : Take L (ad b) (RSupO w S) F] : Has L b 0 [zp w] := by
 refine Has.opn1 (a := ad b) (f := rsupL 183 w S (ad b)) rfl fun y => ?_
 simp only [rsupL, lc, ln]
 exact (Has.blk (n := 1)).one rfl
theorem RPushO.done {b sb : Nat} {p : PushS} [t : Take L (ad b) (RPushO sb p) F] : Has L b 4 [.bool p.done] := by
 refine Has.opn1 (a := ad b) (f := rpushL 206 sb p (ad b)) rfl fun y => ?_
 simp only [rpushL, lc, ln]
 exact (Has.blk (n := 1)).one rfl
theorem RGiveO.done {b rp : Nat} {p : PushS} [t : Take L (ad b) (RGiveO rp p) F] : Has L b 2 [.bool p.done] := by
 refine Has.opn1 (a := ad b) (f := rgiveL 189 rp p (ad b)) rfl fun y => ?_
 simp only [rgiveL, lc, ln]
 exact (Has.blk (n := 1)).one rfl
theorem REndO.slot {b w slot : Nat} {gen : Int} {e : EndS} [t : Take L (ad b) (REndO w slot gen e) F] : Has L b 1 [ii (slot : Nat)] := by
 refine Has.opn1 (a := ad b) (f := rendL 77 w slot gen e (ad b)) rfl fun y => ?_
 simp only [rendL, lc, ln]
 exact (Has.blk (n := 1)).one rfl
theorem REndO.chunk {b w slot : Nat} {gen : Int} {e : EndS} [t : Take L (ad b) (REndO w slot gen e) F] : Has L b 6 [ii e.chunk] := by
 refine Has.opn1 (a := ad b) (f := rendL 77 w slot gen e (ad b)) rfl fun y => ?_
 simp only [rendL, lc, ln]
 exact (Has.blk (n := 1)).one rfl
theorem REndO.code {b w slot : Nat} {gen : Int} {e : EndS} [t : Take L (ad b) (REndO w slot gen e) F] : Has L b 8 [ii (e.code : Nat)] := by
 refine Has.opn1 (a := ad b) (f := rendL 77 w slot gen e (ad b)) rfl fun y => ?_
 simp only [rendL, lc, ln]
 exact (Has.blk (n := 1)).one rfl
theorem REndO.done {b w slot : Nat} {gen : Int} {e : EndS} [t : Take L (ad b) (REndO w slot gen e) F] : Has L b 9 [.bool e.done] := by
 refine Has.opn1 (a := ad b) (f := rendL 77 w slot gen e (ad b)) rfl fun y => ?_
 simp only [rendL, lc, ln]
 exact (Has.blk (n := 1)).one rfl
theorem supRet_fin {w sa : Nat} {S S' : SupS} {tag : Int} {ys : List Int} {v' : Value} {L' M : St} (hS' : supRet S tag ys = S')
  (h : (refused S.lm tag ys ∧ v' = .bool false ∧ L' = pt (ad sa) (RSupO w S) :: M) ∨ (¬ refused S.lm tag ys ∧ v' = .bool true ∧ L' = pt (ad sa) (RSupO w ⟨S.most, S.xs ++ outM S.lm tag, retireM S.lm tag ys⟩) :: M)) : ∃ bb : Bool, v' = .bool bb ∧ L' = pt (ad sa) (RSupO w S') :: M := by
 rcases h with ⟨h, rfl, rfl⟩ | ⟨h, rfl, rfl⟩
 ·exact ⟨false, rfl, by rw [← hS']; unfold supRet; rw [if_pos h]⟩
 ·exact ⟨true, rfl, by rw [← hS']; unfold supRet; rw [if_neg h]⟩
theorem refSupFree {sa w rs rp : Nat} {S : SupS} (slot : Nat) (gen : Int) [t : Take L (ad sa) (RSupO w S) F] :
  FX 58 [zp sa, ii slot, ii gen] L (fun v L' => ∃ b, v = zp b ∧ L' = pt (ad b) (RFrO sa w rs rp slot gen FrS.init) :: L) := by
 refine Fm Tryz.func58 k58 ?_
 dsimp only [c58, eL]
 refine go ?_
 refine Sx.ld rfl (RSupO.w (w := w) (S := S)) rfl (go ?_)
 refine Sa rfl (refEndNew slot gen) ?_
 rintro v L' ⟨q, rfl, rfl⟩
 refine go ?_
 refine Sx.bx rfl rfl fun b => ?_
 refine Sr (rfrV sa 0 0 FrS.init.v (zp q) (.pointer none) (.pointer none) (.pointer none) false) rfl (go ?_)
 refine Ko rfl ?_ ⟨b, rfl, rfl⟩
 exact RFrO.closeE (rs := rs) (rp := rp) (e := EndS.init) FrS.init (.inl rfl) rfl rfl rfl rfl rfl
theorem refFrBack {b q sa w rm rp rs re slot at_ : Nat} {gen : Int} {x : Cn} {S : SupS} {v : FrV} {e : EndS} {kp bp : Value} {cnt : Int} (hs : slot < x.sl) :
  FX 122 [zp b] (rfrB b sa at_ cnt v (zp q) kp bp (.pointer none) false :: pt (ad q) (REndO w slot gen e) :: pt (ad sa) (RSupO w S) :: pt (ad w) (RWO x rm rp rs re) :: pt (ad rs) (RSkO rm x.spare) :: G)
   (fun _ L' => ∃ k, L' = rfrB b sa 3 cnt v (zp q) kp (zp k) (.pointer none) false :: pt (ad q) (REndO w slot gen e) :: pt (ad k) (RPushO rs (PushS.init [(slot : Int)])) :: pt (ad sa) (RSupO w S) :: pt (ad w) (RWO x rm rp rs re) :: pt (ad rs) (RSkO rm x.spare) :: G) := by
 refine Fm Tryz.func122 k122 ?_
 dsimp only [c122, eL]
 refine Cx.orde rfl kr_ (ge ?_)
 refine Ev.ldH kr_ rfl rfl (RSupO.w (w := w) (S := S)) rfl (ge ?_)
 refine Ev.ldH kr_ rfl rfl (REndO.slot (w := w) (slot := slot) (gen := gen) (e := e)) rfl (ge ?_)
 refine Ev.bsH (sz := 1) (cs := [ii (slot : Nat)]) kr_ rfl rfl rfl (.dep rfl (.dep rfl (.keep (fun v L' ⟨_, _, e⟩ => by subst e; exact Has.cell rfl) (.keep (fun v L' ⟨_, _, e⟩ => by subst e; exact RSupO.w (w := w) (S := S)) (.keep (fun v L' ⟨_, _, e⟩ => by subst e; exact Has.cell rfl) .nil))))) fun g => (ge ?_)
 refine Ea kr_ rfl rfl (refPushNew (sb := rs) (rm := rm) (k := x.spare) (l := [(slot : Int)]) (Rd.row (b := g) (E := 3) (cap := 1) rfl) (by omega)) (Pd kr_) ?_
 rintro v' L' ⟨k, rfl, rfl⟩
 refine ge ?_
 refine Es (b := b) kr_ rfl rfl rfl rfl rfl (by rfl) rfl (Pd kr_) (ge ?_)
 refine Es (b := b) kr_ rfl rfl rfl rfl rfl (by rfl) rfl (Pd kr_) (ge ?_)
 refine go ?_
 refine Kr.none (.inl rfl) ?_ ⟨k, rfl⟩
 refine Et (Ek (a := ad b)) (Ec ?_)
 exact ent
set_option maxHeartbeats 8000000 in
theorem refFrStep {b sa w rm rp rs re slot : Nat} {gen : Int} {x : Cn} {m : Mm} {S : SupS} {f : FrS} {F1 F2 F3 F4 F5 : St} (hx : x.ok) (hl : x.len ≤ m.ws.length) (hs : slot < x.sl) (hr : RefF x S f) (hd : f.done = false) (hsz : S.xs.length + S.lm.size ≤ 1000) (hm0 : 0 ≤ S.most) (hm2 : S.most ≤ 64) (hnd : S.xs.Nodup ∧ ∀ z ∈ S.xs, 0 ≤ z ∧ z < (x.c : Int))
  [t1 : Take L (ad b) (RFrO sa w rs rp slot gen f) F1] [t2 : Take F1 (ad sa) (RSupO w S) F2] [t3 : Take F2 (ad rm) (RMemO m) F3] [t4 : Take F3 (ad w) (RWO x rm rp rs re) F4] [t5 : Take F4 (ad rp) (RSkO rm x.pool) F5] [t6 : Take F5 (ad rs) (RSkO rm x.spare) G] :
  FX 59 [zp b] L (fun v L' => v = .bool true ∧ L' = pt (ad b) (RFrO sa w rs rp slot gen (frStep (x.fr slot gen) m S f).2.2) :: pt (ad sa) (RSupO w (frStep (x.fr slot gen) m S f).2.1) :: pt (ad rm) (RMemO (frStep (x.fr slot gen) m S f).1) :: F3) := by
 obtain ⟨b1, b2, b3, b4, b5, b6, b7⟩ := hx.b
 have hlen := hx.len_le
 have hback : Ent (pt (ad w) (RWO x rm rp rs re) :: pt (ad rp) (RSkO rm x.pool) :: pt (ad rs) (RSkO rm x.spare) :: G) F3 := Et (Ec (Et (Ec (Eo t6.back)) (Eo t5.back))) (Eo t4.back)
 have hcn := hr.ok.n
 have ha4 := hr.ok.a
 have hc0 := hr.c0
 refine Fm Tryz.func59 k59 ?_
 dsimp only [c59, eL]
 refine Xe (Et (Eo t1.out) (Ec (Et (Eo t2.out) (Ec (Et (Eo t3.out) (Ec (Et (Eo t4.out) (Ec (Et (Eo t5.out) (Ec (Eo t6.out))))))))))) ?_
 refine Cx.pure (rmemKey (rm := rm) (m := m)) fun hm => ?_
 rcases (show f.at_ = 0 ∨ f.at_ = 1 ∨ f.at_ = 2 ∨ f.at_ = 3 ∨ f.at_ = 4 by omega) with h0 | h0 | h0 | h0 | h0
 ·refine Xo (a := ad b) (RFrO.e_ (.inl h0)) ?_
  intro q
  simp only [rfrEL, lc, ln]
  rw [hd, h0]
  refine go ?_
  rw [cntW hcn]
  refine Sx.ld rfl (RSupO.w (b := sa) (w := w) (S := S)) rfl (go ?_)
  obtain ⟨he1, he2, he3⟩ := hr.e h0
  have heo := hr.ok.e h0
  refine Sa rfl (refEndStep (b := q) (w := w) (rm := rm) (rp := rp) (rs := rs) (re := re) (slot := slot) (gen := gen) (x := x) (m := m) (e := f.e) hx hl hs heo he1) ?_
  have hcd : (endStep (x.root + slot) gen m f.e).1.code = 0 ∨ (endStep (x.root + slot) gen m f.e).1.code = 3 := by
   unfold endStep
   rw [he2]
   simp only [bf, if_false]
   split
   ·dsimp only; split
    ·exact .inl he3
    ·exact .inr rfl
   ·dsimp only; split
    ·exact .inl he3
    ·exact .inl he3
  obtain ⟨⟨e', m'⟩, hR⟩ : ∃ R, endStep (x.root + slot) gen m f.e = R := ⟨_, rfl⟩
  have hst : frStep (x.fr slot gen) m S f = (m', S, if e'.done then frEnded (x.fr slot gen) { f.v with cnt := f.v.cnt + 1 } e' else ⟨0, { f.v with cnt := f.v.cnt + 1 }, e', WalkS.zero, gNone, gNone, false⟩) := by
   unfold frStep; rw [hd, h0]; simp only [bf, if_false, hR]
  rw [hR] at hcd ⊢
  dsimp only at hcd
  rw [hst]
  rintro v' L' ⟨rfl, rfl⟩
  refine go ?_
  refine Sx.ld rfl (REndO.done (b := q) (w := w) (slot := slot) (gen := gen) (e := e')) rfl (go ?_)
  cases hq : e'.done with
  | false =>
    rw [if_neg (by decide)]
    refine go ?_
    refine Ko rfl ?_ ⟨rfl, rfl⟩
    refine Et (Ek (a := ad b)) ?_
    refine Et (Ec (Ek (a := ad q))) ?_
    refine Et (RFrO.closeE (rs := rs) (rp := rp) (v := f.v) ⟨0, { f.v with cnt := f.v.cnt + 1 }, e', WalkS.zero, gNone, gNone, false⟩ (.inl rfl) rfl rfl rfl rfl rfl) (Ec ?_)
    refine Et ?_ (Ec (Ec hback))
    exact ent
  | true =>
    rw [if_pos rfl]
    refine go ?_
    refine Xd rfl kr_ (ge ?_)
    refine Ev.ldH kr_ rfl rfl (REndO.code (b := q) (w := w) (slot := slot) (gen := gen) (e := e')) rfl (ge ?_)
    refine Es (b := b) kr_ rfl rfl rfl rfl rfl (by rfl) rfl (Pd kr_) (ge ?_)
    refine Es (b := b) kr_ rfl rfl rfl rfl rfl (by rfl) rfl (Pd kr_) (ge ?_)
    refine go ?_
    rcases hcd with hcd | hcd
    ·rw [hcd]
     refine go ?_
     refine Sx.ld rfl (REndO.chunk (b := q) (w := w) (slot := slot) (gen := gen) (e := e')) rfl (go ?_)
     by_cases hk : 0 ≤ e'.chunk
     ·have e1 : frEnded (x.fr slot gen) { f.v with cnt := f.v.cnt + 1 } e' = ⟨1, { f.v with cnt := f.v.cnt + 1, point := f.v.cnt + 1, code := 0, slot := slot, chunk := e'.chunk }, e', WalkS.zero, gNone, gNone, false⟩ := by unfold frEnded; rw [if_neg (by omega), if_pos hk]
      rw [e1]
      refine Xy rfl (dt hk) (go ?_)
      refine Ko rfl ?_ ⟨rfl, rfl⟩
      refine Et (Ek (a := ad b)) ?_
      refine Et (Ec (Ek (a := ad q))) ?_
      refine Et (RFrO.closeE (rs := rs) (rp := rp) (v := { f.v with point := f.v.cnt + 1, code := 0 }) ⟨1, { f.v with cnt := f.v.cnt + 1, point := f.v.cnt + 1, code := 0, slot := slot, chunk := e'.chunk }, e', WalkS.zero, gNone, gNone, false⟩ (.inr rfl) rfl rfl rfl rfl rfl) (Ec ?_)
      refine Et ?_ (Ec (Ec hback))
      exact ent
     ·have e1 : frEnded (x.fr slot gen) { f.v with cnt := f.v.cnt + 1 } e' = ⟨3, { f.v with cnt := f.v.cnt + 1, point := f.v.cnt + 1, code := 0, slot := slot, chunk := -1 }, e', WalkS.zero, PushS.init [(slot : Int)], gNone, false⟩ := by unfold frEnded; rw [if_neg (by omega), if_neg hk]; rfl
      rw [e1]
      refine Xn rfl (dz hk) (go ?_)
      refine Se_ (M := rfrB b sa 0 ((f.v.cnt + 1 : Nat) : Int) { f.v with point := f.v.cnt + 1, code := 0 } (zp q) (.pointer none) (.pointer none) (.pointer none) false :: pt (ad q) (REndO w slot gen e') :: pt (ad sa) (RSupO w S) :: pt (ad w) (RWO x rm rp rs re) :: pt (ad rs) (RSkO rm x.spare) :: pt (ad rm) (RMemO m') :: pt (ad rp) (RSkO rm x.pool) :: G) (by refine Et (Ek (a := ad b)) (Ec ?_); exact ent) ?_
      refine Sa rfl (refFrBack (gen := gen) hs) ?_
      rintro v' L' ⟨k, rfl⟩
      refine go ?_
      refine Ko rfl ?_ ⟨rfl, rfl⟩
      refine Et (RFrO.closeP (rs := rs) (rp := rp) (v := { f.v with point := f.v.cnt + 1, code := 0 }) ⟨3, { f.v with cnt := f.v.cnt + 1, point := f.v.cnt + 1, code := 0, slot := slot, chunk := -1 }, e', WalkS.zero, PushS.init [(slot : Int)], gNone, false⟩ rfl rfl rfl rfl rfl rfl rfl) (Ec ?_)
      refine Et ?_ (Ec (Ec hback))
      exact ent
    ·have e1 : frEnded (x.fr slot gen) { f.v with cnt := f.v.cnt + 1 } e' = ⟨0, { f.v with cnt := f.v.cnt + 1, point := f.v.cnt + 1, code := 3 }, e', WalkS.zero, gNone, gNone, true⟩ := by unfold frEnded; rw [if_pos (by omega), hcd]
     rw [hcd, e1]
     refine go ?_
     refine Ko rfl ?_ ⟨rfl, rfl⟩
     refine Et (Ek (a := ad b)) ?_
     refine Et (Ec (Ek (a := ad q))) ?_
     refine Et (RFrO.closeE (rs := rs) (rp := rp) (v := { f.v with point := f.v.cnt + 1, code := 3 }) ⟨0, { f.v with cnt := f.v.cnt + 1, point := f.v.cnt + 1, code := 3 }, e', WalkS.zero, gNone, gNone, true⟩ (.inl rfl) rfl rfl rfl rfl rfl) (Ec ?_)
     refine Et ?_ (Ec (Ec hback))
     exact ent
 ·refine Xo (a := ad b) (RFrO.e_ (.inr h0)) ?_
  intro q
  simp only [rfrEL, lc, ln]
  rw [hd, h0]
  refine go ?_
  rw [cntW hcn]
  refine Sx.ld rfl (RSupO.w (b := sa) (w := w) (S := S)) rfl (go ?_)
  obtain ⟨hch, hc1, hc2⟩ := hr.h (.inl h0)
  have hst : frStep (x.fr slot gen) m S f = (m.tick, S, ⟨2, { f.v with cnt := f.v.cnt + 1, tag := cutE (m.at_ 2) }, f.e, ⟨[f.v.chunk], false⟩, gNone, gNone, false⟩) := by
   unfold frStep; rw [hd, h0]; simp only [bf, if_false]
  rw [hst]
  have hlt := Ml hm.1 2
  refine Sa rfl (refLoad (rm := rm) (m := m) 2 (by unfold Cn.len at hl; omega)) ?_
  rintro v' L' ⟨rfl, rfl⟩
  refine go ?_
  refine Sa rfl (refCut (m.at_ 2) hlt) ?_
  rintro v' L' ⟨rfl, rfl⟩
  refine go ?_
  refine Sx.ld rfl (REndO.chunk (b := q) (w := w) (slot := slot) (gen := gen) (e := f.e)) rfl ?_
  rw [hch]
  refine go ?_
  refine Sa rfl (refWalkNew (w := w) f.v.chunk) ?_
  rintro v' L' ⟨k, rfl, rfl⟩
  refine go ?_
  refine Ko rfl ?_ ⟨rfl, rfl⟩
  refine Et (Ek (a := ad b)) ?_
  refine Et (Ec (Ek (a := ad q))) ?_
  refine Et (Ec (Ec (Ek (a := ad k)))) ?_
  refine Et (RFrO.closeW (rs := rs) (rp := rp) (v := { f.v with tag := cutE (m.at_ 2) }) ⟨2, { f.v with cnt := f.v.cnt + 1, tag := cutE (m.at_ 2) }, f.e, ⟨[f.v.chunk], false⟩, gNone, gNone, false⟩ rfl rfl rfl rfl rfl rfl rfl) (Ec ?_)
  refine Et ?_ (Ec (Ec hback))
  exact ent
 ·refine Xo (a := ad b) (RFrO.w_ h0) ?_
  rintro ⟨q, k⟩
  simp only [rfrWL, lc, ln]
  rw [hd, h0]
  refine go ?_
  rw [cntW hcn]
  refine Sx.ld rfl (RSupO.w (b := sa) (w := w) (S := S)) rfl (go ?_)
  obtain ⟨hw1, hw2⟩ := hr.w h0
  refine Sa rfl (refWalkStep (b := k) (w := w) (rm := rm) (rp := rp) (rs := rs) (re := re) (x := x) (m := m) (s := f.w) hx hl hw1 hw2) ?_
  have hwo := walkStep_ok (lk := x.link) (m := m) hw1
  obtain ⟨⟨u, m'⟩, hR⟩ : ∃ R, walkStep x.link x.c m f.w = R := ⟨_, rfl⟩
  have hst : frStep (x.fr slot gen) m S f = (m', (if u.done then supRet S f.v.tag u.l else S), if u.done then frLeave (x.fr slot gen) { f.v with cnt := f.v.cnt + 1 } f.e u else ⟨2, { f.v with cnt := f.v.cnt + 1 }, f.e, u, gNone, gNone, false⟩) := by
   unfold frStep; rw [hd, h0]; simp only [bf, if_false, hR]
  rw [hR] at hwo ⊢
  dsimp only at hwo
  rw [hst]
  rintro v' L' ⟨rfl, rfl⟩
  refine Sx.openp (a := ad k) rfl ?_
  rintro ⟨r, c⟩
  simp only [rwalkL, lc, ln]
  refine Sx.rowkey (a := r) fun hxl _ _ hkr => (go ?_)
  cases hq : u.done with
  | false =>
    rw [if_neg (by decide), if_neg (by decide)]
    refine go ?_
    refine Ko rfl ?_ ⟨rfl, rfl⟩
    refine Et (RWalkO.close (a := ad k) (r := r) (w := w) u rfl rfl (by rw [hq]) rfl) ?_
    refine Et (Ek (a := ad b)) ?_
    refine Et (Ec (Ek (a := ad q))) ?_
    refine Et (Ec (Ec (Ek (a := ad k)))) ?_
    refine Et (RFrO.closeW (rs := rs) (rp := rp) (v := f.v) ⟨2, { f.v with cnt := f.v.cnt + 1 }, f.e, u, gNone, gNone, false⟩ rfl rfl rfl rfl rfl rfl rfl) (Ec ?_)
    refine Et ?_ (Ec (Ec hback))
    exact ent
  | true =>
    rw [if_pos rfl, if_pos rfl]
    have hul := hwo.l
    obtain ⟨S', hS'⟩ : ∃ S', supRet S f.v.tag u.l = S' := ⟨_, rfl⟩
    rw [hS']
    refine go ?_
    refine Xd rfl kr_ (ge ?_)
    refine Ea kr_ rfl rfl (refSupRetire (s := sa) (w := w) (S := S) (tag := f.v.tag) (ys := u.l) (Rd.any (a := r) hxl (hkr.imp (fun h => h.2.1) id)) (by omega) (by omega)) (Pd kr_) ?_
    intro v' L' hv'
    obtain ⟨bb, rfl, rfl⟩ := supRet_fin hS' hv'
    refine ge ?_
    refine go ?_
    refine Se_ (M := rfrB b sa 2 ((f.v.cnt + 1 : Nat) : Int) f.v (zp q) (zp k) (.pointer none) (.pointer none) false :: pt (ad q) (REndO w slot gen f.e) :: pt (ad sa) (RSupO w S') :: pt (ad w) (RWO x rm rp rs re) :: pt (ad rs) (RSkO rm x.spare) :: pt (ad rm) (RMemO m') :: pt (ad rp) (RSkO rm x.pool) :: G) (by refine Et (Ek (a := ad b)) (Ec ?_); exact ent) ?_
    refine Sa rfl (refFrBack (gen := gen) hs) ?_
    rintro v' L' ⟨k3, rfl⟩
    refine go ?_
    refine Ko rfl ?_ ⟨rfl, rfl⟩
    refine Et (RFrO.closeP (rs := rs) (rp := rp) (v := f.v) (frLeave (x.fr slot gen) { f.v with cnt := f.v.cnt + 1 } f.e u) rfl rfl rfl rfl rfl rfl rfl) (Ec ?_)
    refine Et ?_ (Ec (Ec hback))
    exact ent
 ·refine Xo (a := ad b) (RFrO.p_ h0) ?_
  rintro ⟨q, k, kp⟩
  simp only [rfrPL, lc, ln]
  rw [hd, h0]
  refine go ?_
  rw [cntW hcn]
  refine Sx.ld rfl (RSupO.w (b := sa) (w := w) (S := S)) rfl (go ?_)
  obtain ⟨hp1, hp2, hp3⟩ := hr.p h0
  refine Sa rfl (refPushStep (b := k) (sb := rs) (rm := rm) (k := x.spare) (m := m) (p := f.p) (hx.spare (n := m.ws.length) hl hm.2) hp1 hp2) ?_
  obtain ⟨⟨u, m'⟩, hR⟩ : ∃ R, pushStep x.spare m f.p = R := ⟨_, rfl⟩
  rw [hR]
  rintro v' L' ⟨rfl, rfl⟩
  refine go ?_
  refine Sx.ld rfl (RPushO.done (b := k) (sb := rs) (p := u)) rfl (go ?_)
  cases hq : u.done with
  | false =>
    have hst : frStep (x.fr slot gen) m S f = (m', S, ⟨3, { f.v with cnt := f.v.cnt + 1 }, f.e, f.w, u, gNone, false⟩) := by
     unfold frStep; rw [hd, h0]; simp only [bf, if_false, hR, hq]
    rw [hst]
    refine go ?_
    refine Ko rfl ?_ ⟨rfl, rfl⟩
    refine Et (Ek (a := ad b)) ?_
    refine Et (Ec (Ek (a := ad q))) ?_
    refine Et (Ec (Ec (Ek (a := ad k)))) ?_
    refine Et (RFrO.closeP (rs := rs) (rp := rp) (v := f.v) ⟨3, { f.v with cnt := f.v.cnt + 1 }, f.e, f.w, u, gNone, false⟩ rfl rfl rfl rfl rfl rfl rfl) (Ec ?_)
    refine Et ?_ (Ec (Ec hback))
    exact ent
  | true =>
    obtain ⟨n0, hn0⟩ : ∃ n0, overK S.most S.xs = n0 := ⟨_, rfl⟩
    have hgi : giveInit x.pool (S.xs.take n0) = PushS.init (S.xs.take n0) := by
     refine giveInit_yes ⟨?_, fun z hz => hnd.2 z (List.mem_of_mem_take hz)⟩
     have : (S.xs.take n0 ++ S.xs.drop n0).Nodup := by rw [List.take_append_drop]; exact hnd.1
     exact (List.nodup_append.1 this).1
    have hst : frStep (x.fr slot gen) m S f = (m', { S with xs := S.xs.drop n0 }, ⟨4, { f.v with cnt := f.v.cnt + 1, back := f.v.cnt + 1, slot := -1 }, f.e, f.w, u, PushS.init (S.xs.take n0), (PushS.init (S.xs.take n0)).done⟩) := by
     unfold frStep; rw [hd, h0]; simp only [bf, if_false, hR, hq, if_true, hn0, hgi]
    rw [hst]
    refine go ?_
    refine Sa rfl (refSpill (s := sa) (w := w) (rm := rm) (rp := rp) (rs := rs) (re := re) (x := x) (S := S) (by omega) hm0 hm2) ?_
    rw [hn0]
    rintro v' L' ⟨k4, rfl, rfl⟩
    refine go ?_
    refine Sx.ld rfl (RGiveO.done (b := k4) (rp := rp) (p := PushS.init (S.xs.take n0))) rfl (go ?_)
    refine Ko rfl ?_ ⟨rfl, rfl⟩
    refine Et (Ek (a := ad b)) ?_
    refine Et (Ec (Ek (a := ad q))) ?_
    refine Et (Ec (Ec (Ek (a := ad k4)))) ?_
    refine Et (RFrO.closeG (rs := rs) (rp := rp) (v := { f.v with back := f.v.cnt + 1 }) ⟨4, { f.v with cnt := f.v.cnt + 1, back := f.v.cnt + 1, slot := -1 }, f.e, f.w, u, PushS.init (S.xs.take n0), (PushS.init (S.xs.take n0)).done⟩ rfl rfl rfl rfl rfl rfl rfl) (Ec ?_)
    refine Et ?_ (Ec (Ec hback))
    exact ent
 ·refine Xo (a := ad b) (RFrO.g_ h0) ?_
  rintro ⟨q, k, kp, bp⟩
  simp only [rfrGL, lc, ln]
  rw [hd, h0]
  refine go ?_
  rw [cntW hcn]
  refine Sx.ld rfl (RSupO.w (b := sa) (w := w) (S := S)) rfl (go ?_)
  obtain ⟨hp1, hp2, hp3⟩ := hr.g h0
  refine Sa rfl (refGiveStep (b := k) (rp := rp) (rm := rm) (k := x.pool) (m := m) (p := f.g) (hx.pool (n := m.ws.length) hl hm.2) hp1 hp2) ?_
  obtain ⟨⟨u, m'⟩, hR⟩ : ∃ R, pushStep x.pool m f.g = R := ⟨_, rfl⟩
  rw [hR]
  rintro v' L' ⟨rfl, rfl⟩
  have hst : frStep (x.fr slot gen) m S f = (m', S, ⟨4, { f.v with cnt := f.v.cnt + 1 }, f.e, f.w, f.p, u, u.done⟩) := by
   unfold frStep; rw [hd, h0]; simp only [bf, if_false, hR]
  rw [hst]
  refine go ?_
  refine Sx.ld rfl (RGiveO.done (b := k) (rp := rp) (p := u)) rfl (go ?_)
  refine Ko rfl ?_ ⟨rfl, rfl⟩
  refine Et (Ek (a := ad b)) ?_
  refine Et (Ec (Ek (a := ad q))) ?_
  refine Et (Ec (Ec (Ek (a := ad k)))) ?_
  refine Et (RFrO.closeG (rs := rs) (rp := rp) (v := f.v) ⟨4, { f.v with cnt := f.v.cnt + 1 }, f.e, f.w, f.p, u, u.done⟩ rfl rfl rfl rfl rfl rfl rfl) (Ec ?_)
  refine Et ?_ (Ec (Ec hback))
  exact ent
theorem refFrSlot {b sa w rs rp slot : Nat} {gen : Int} {s : FrS} (ha : s.at_ ≤ 4) (ht : FrTell slot s) [t : Take L (ad b) (RFrO sa w rs rp slot gen s) F] :
  FX 61 [zp b] L (fun v L' => v = ii s.v.slot ∧ L = L') := by
 refine Fx.kept (t := t) ?_
 refine Fm Tryz.func61 k61 ?_
 dsimp only [c61, eL]
 refine Xe (Eo t.out) ?_
 rcases (show s.at_ = 0 ∨ s.at_ = 1 ∨ s.at_ = 2 ∨ s.at_ = 3 ∨ s.at_ = 4 by omega) with h0 | h0 | h0 | h0 | h0
 ·have hsl := ht.s0 (.inl h0)
  refine Xo (a := ad b) (RFrO.e_ (.inl h0)) ?_
  intro q
  simp only [rfrEL, lc, ln]
  rw [h0]
  refine go ?_
  exact Ko rfl (RFrO.closeE (rs := rs) (rp := rp) (v := s.v) s (.inl h0) (by rw [h0]) rfl rfl rfl rfl) ⟨by rw [hsl], rfl⟩
 ·have hsl := ht.s1 (.inl h0)
  refine Xo (a := ad b) (RFrO.e_ (.inr h0)) ?_
  intro q
  simp only [rfrEL, lc, ln]
  rw [h0]
  refine go ?_
  refine Sx.ld rfl (REndO.slot (b := q) (w := w) (slot := slot) (gen := gen) (e := s.e)) rfl (go ?_)
  exact Ko rfl (RFrO.closeE (rs := rs) (rp := rp) (v := s.v) s (.inr h0) (by rw [h0]) rfl rfl rfl rfl) ⟨by rw [hsl], rfl⟩
 ·have hsl := ht.s1 (.inr (.inl h0))
  refine Xo (a := ad b) (RFrO.w_ h0) ?_
  rintro ⟨q, k⟩
  simp only [rfrWL, lc, ln]
  rw [h0]
  refine go ?_
  refine Sx.ld rfl (REndO.slot (b := q) (w := w) (slot := slot) (gen := gen) (e := s.e)) rfl (go ?_)
  exact Ko rfl (RFrO.closeW (rs := rs) (rp := rp) (v := s.v) s h0 (by rw [h0]) rfl rfl rfl rfl rfl) ⟨by rw [hsl], rfl⟩
 ·have hsl := ht.s1 (.inr (.inr h0))
  refine Xo (a := ad b) (RFrO.p_ h0) ?_
  rintro ⟨q, k, kp⟩
  simp only [rfrPL, lc, ln]
  rw [h0]
  refine go ?_
  refine Sx.ld rfl (REndO.slot (b := q) (w := w) (slot := slot) (gen := gen) (e := s.e)) rfl (go ?_)
  exact Ko rfl (RFrO.closeP (rs := rs) (rp := rp) (v := s.v) s h0 (by rw [h0]) rfl rfl rfl rfl rfl) ⟨by rw [hsl], rfl⟩
 ·have hsl := ht.s0 (.inr h0)
  refine Xo (a := ad b) (RFrO.g_ h0) ?_
  rintro ⟨q, k, kp, bp⟩
  simp only [rfrGL, lc, ln]
  rw [h0]
  refine go ?_
  exact Ko rfl (RFrO.closeG (rs := rs) (rp := rp) (v := s.v) s h0 (by rw [h0]) rfl rfl rfl rfl rfl) ⟨by rw [hsl], rfl⟩
set_option maxHeartbeats 1000000 in
theorem refFrHand {b sa w rm rp rs re slot : Nat} {gen : Int} {x : Cn} {S : SupS} {m : Mm} {s : FrS} {F1 F2 F3 F4 : St} (hx : x.ok) (hml : x.len ≤ m.ws.length) (ha : s.at_ ≤ 4) (h1 : s.at_ = 1 ∨ s.at_ = 2 → s.e.chunk = s.v.chunk ∧ 0 ≤ s.v.chunk ∧ s.v.chunk < x.c) (hl : s.at_ = 4 → s.g.done = false → s.g.l.length ≤ 1000000)
  [t1 : Take L (ad b) (RFrO sa w rs rp slot gen s) F1] [t2 : Take F1 (ad sa) (RSupO w S) F2] [t3 : Take F2 (ad rm) (RMemO m) F3] [t4 : Take F3 (ad w) (RWO x rm rp rs re) F4] [t5 : Take F4 (ad rp) (RSkO rm x.pool) G] :
  FX 64 [zp b] L (fun v L' => ∃ a c, v = .slice a (handF x m s).length c ∧ L' = pt a (Row 3 1 (handF x m s).length c (ints (handF x m s))) :: pt (ad b) (RFrO sa w rs rp slot gen s) :: F1) := by
 have hback : Ent (pt (ad sa) (RSupO w S) :: pt (ad rm) (RMemO m) :: pt (ad w) (RWO x rm rp rs re) :: pt (ad rp) (RSkO rm x.pool) :: G) F1 := Et (Ec (Et (Ec (Et (Ec (Eo t5.back)) (Eo t4.back))) (Eo t3.back))) (Eo t2.back)
 refine Fm Tryz.func64 k64 ?_
 dsimp only [c64, eL]
 refine Xe (Et (Eo t1.out) (Ec (Et (Eo t2.out) (Ec (Et (Eo t3.out) (Ec (Et (Eo t4.out) (Ec (Eo t5.out))))))))) ?_
 rcases (show s.at_ = 0 ∨ s.at_ = 1 ∨ s.at_ = 2 ∨ s.at_ = 3 ∨ s.at_ = 4 by omega) with h0 | h0 | h0 | h0 | h0
 ·have eh : handF x m s = [] := by unfold handF; rw [if_neg (by omega), if_neg (by omega)]
  rw [eh]
  refine Xo (a := ad b) (RFrO.e_ (.inl h0)) ?_
  intro q
  simp only [rfrEL, lc, ln]
  rw [h0]
  refine go ?_
  refine Ko rfl ?_ ⟨none, 0, rfl, rfl⟩
  refine Et (RFrO.closeE (rs := rs) (rp := rp) (v := s.v) s (.inl h0) (by rw [h0]) rfl rfl rfl rfl) ?_
  exact Et (Ec hback) (Ent.rownil _ _)
 ·have eh : handF x m s = chainL x m s.v.chunk := by unfold handF; rw [if_pos (.inl h0)]
  obtain ⟨c0, c1, c2⟩ := h1 (.inl h0)
  rw [eh]
  refine Xo (a := ad b) (RFrO.e_ (.inr h0)) ?_
  intro q
  simp only [rfrEL, lc, ln]
  rw [h0]
  refine go ?_
  refine Xd rfl kr_ (ge ?_)
  refine Ev.ldH kr_ rfl rfl (RSupO.w (b := sa) (w := w) (S := S)) rfl (ge ?_)
  refine Ev.ldH kr_ rfl rfl (REndO.chunk (b := q) (w := w) (slot := slot) (gen := gen) (e := s.e)) rfl ?_
  rw [c0]
  refine ge ?_
  refine Ea kr_ rfl rfl (refBehind (w := w) (rm := rm) (rp := rp) (rs := rs) (re := re) (x := x) (m := m) s.v.chunk c1 c2 hx hml) (Pd kr_) ?_
  rintro v L' ⟨a, c, rfl, rfl⟩
  refine ge ?_
  refine go ?_
  refine Ko rfl (Ec ?_) ⟨a, c, rfl, rfl⟩
  exact Et (RFrO.closeE (rs := rs) (rp := rp) (v := s.v) s (.inr h0) (by rw [h0]) rfl rfl rfl rfl) (Ec hback)
 ·have eh : handF x m s = chainL x m s.v.chunk := by unfold handF; rw [if_pos (.inr h0)]
  obtain ⟨c0, c1, c2⟩ := h1 (.inr h0)
  rw [eh]
  refine Xo (a := ad b) (RFrO.w_ h0) ?_
  rintro ⟨q, k⟩
  simp only [rfrWL, lc, ln]
  rw [h0]
  refine go ?_
  refine Xd rfl kr_ (ge ?_)
  refine Ev.ldH kr_ rfl rfl (RSupO.w (b := sa) (w := w) (S := S)) rfl (ge ?_)
  refine Ev.ldH kr_ rfl rfl (REndO.chunk (b := q) (w := w) (slot := slot) (gen := gen) (e := s.e)) rfl ?_
  rw [c0]
  refine ge ?_
  refine Ea kr_ rfl rfl (refBehind (w := w) (rm := rm) (rp := rp) (rs := rs) (re := re) (x := x) (m := m) s.v.chunk c1 c2 hx hml) (Pd kr_) ?_
  rintro v L' ⟨a, c, rfl, rfl⟩
  refine ge ?_
  refine go ?_
  refine Ko rfl (Ec ?_) ⟨a, c, rfl, rfl⟩
  exact Et (RFrO.closeW (rs := rs) (rp := rp) (v := s.v) s h0 (by rw [h0]) rfl rfl rfl rfl rfl) (Ec hback)
 ·have eh : handF x m s = [] := by unfold handF; rw [if_neg (by omega), if_neg (by omega)]
  rw [eh]
  refine Xo (a := ad b) (RFrO.p_ h0) ?_
  rintro ⟨q, k, kp⟩
  simp only [rfrPL, lc, ln]
  rw [h0]
  refine go ?_
  refine Ko rfl ?_ ⟨none, 0, rfl, rfl⟩
  refine Et (RFrO.closeP (rs := rs) (rp := rp) (v := s.v) s h0 (by rw [h0]) rfl rfl rfl rfl rfl) ?_
  exact Et (Ec hback) (Ent.rownil _ _)
 ·have eh : handF x m s = handG s.g := by unfold handF; rw [if_neg (by omega), if_pos h0]
  rw [eh]
  refine Xo (a := ad b) (RFrO.g_ h0) ?_
  rintro ⟨q, k, kp, bp⟩
  simp only [rfrGL, lc, ln]
  rw [h0]
  refine go ?_
  refine Sa rfl (refGiveHand (b := k) (rp := rp) (p := s.g) (hl h0)) ?_
  rintro v L' ⟨a, c, rfl, rfl⟩
  refine go ?_
  refine Ko rfl (Ec ?_) ⟨a, c, rfl, rfl⟩
  refine Et (Ek (a := ad b)) ?_
  refine Et (Ec (Ek (a := ad q))) ?_
  exact Et (RFrO.closeG (rs := rs) (rp := rp) (v := s.v) s h0 (by rw [h0]) rfl rfl rfl rfl rfl) (Ec hback)
end
end
section
variable {x : Cn} {m : Mm} {S : Nat → SupS} {C : Nat → List Int} {P : List Int} {T : Nat}
theorem SeI.free (h : SeI x m S C P 3 T) (hx : x.ok) (hs3 : x.sl = 3) : FpS x (fun k => m.at_ (x.root + k)) C ∧ FpI x (fun k => m.at_ (x.root + k)) C m (fun i => ⟨S i, false, 0, 1, FrS.init⟩) 0 := by
 refine ⟨⟨hx, hs3, fun k hk => (h.reg k hk).e, fun k hk => Ml h.ok _, fun k hk => h.cnd hk, fun k hk => h.crng hk⟩, ⟨h.len, h.ok, fun k hk => .inl rfl, fun k hk _ => (h.reg k hk).c, fun y => ?_, fun y hy => ?_, fun i hi => ?_⟩⟩
 ·have e : totC x (fun k => m.at_ (x.root + k)) C m y + fkC C (fun i => ⟨S i, false, 0, 1, FrS.init⟩) y = seC S C y := se_tot h y
  rw [e]
  have := h.one y
  omega
 ·rw [se_tot h y] at hy
  exact h.rng y (by omega)
 ·obtain ⟨a, b, c, d⟩ := h.sup i hi
  exact ⟨b, c, fun hh => by cases hh⟩
where
 se_tot (h : SeI x m S C P 3 T) (y : Int) : totC x (fun k => m.at_ (x.root + k)) C m y + fkC C (fun i => ⟨S i, false, 0, 1, FrS.init⟩) y = seC S C y := by
  have e1 : ∀ i, i < 3 → (Fk.own C ⟨S i, false, 0, 1, FrS.init⟩).count y = (S i).xs.count y := fun i hi => by
   rw [own_at, (h.sup i hi).1]
   simp [Lm.nil, Lm.alls]
  have e2 : ∀ k, liveC x (fun k => m.at_ (x.root + k)) C m k = C k := fun k => by unfold liveC; rw [if_pos rfl]
  unfold totC fkC seC
  rw [e2, e2, e2, e1 0 (by omega), e1 1 (by omega), e1 2 (by omega)]
  omega
end
theorem frStep_n (p : FrP) (m : Mm) (s : SupS) (f : FrS) : (frStep p m s f).1.n ≤ m.n + 1 := by
 unfold frStep
 split
 ·exact Nat.le_succ _
 ·split
  ·exact endStep_n _ _ _ _
  ·exact Nat.le_refl _
  ·show (walkStep p.lk p.c m f.w).2.n ≤ _
   unfold walkStep
   (repeat' split) <;> (first | exact Nat.le_refl _ | exact Nat.le_succ _)
  ·exact pushStep_n _ _ _
  ·exact pushStep_n _ _ _
structure FrTold (x : Cn) (k : Nat) (f : FrS) : Prop where
 a4 : f.at_ ≤ 4
 d : f.done = true → f.at_ = 0 ∨ f.at_ = 4
 t : FrTell k f
 h : f.at_ = 1 ∨ f.at_ = 2 → f.e.chunk = f.v.chunk ∧ 0 ≤ f.v.chunk ∧ f.v.chunk < x.c
 g : f.at_ = 4 → f.g.done = false → f.g.l.length ≤ 1000000
theorem fr_done {p : FrP} {m : Mm} {s : SupS} {f : FrS} (hd : f.done = false) (ha : f.at_ ≤ 4) (ht : FrTell p.slot f) (h : (frStep p m s f).2.2.done = true) :
  ((frStep p m s f).2.2.at_ = 0 ∧ (frStep p m s f).2.2.v.slot = -1 ∧ (frStep p m s f).2.2.v.chunk = -1) ∨ ((frStep p m s f).2.2.at_ = 4 ∧ (frStep p m s f).2.2.v.slot = -1 ∧ (frStep p m s f).2.2.g.done = true) := by
 rcases (show f.at_ = 0 ∨ f.at_ = 1 ∨ f.at_ = 2 ∨ f.at_ = 3 ∨ f.at_ = 4 by omega) with h0 | h0 | h0 | h0 | h0
 ·have e : (frStep p m s f).2.2 = if (endStep (p.ro + p.slot) p.gen m f.e).1.done then frEnded p { f.v with cnt := f.v.cnt + 1 } (endStep (p.ro + p.slot) p.gen m f.e).1 else ⟨0, { f.v with cnt := f.v.cnt + 1 }, (endStep (p.ro + p.slot) p.gen m f.e).1, WalkS.zero, gNone, gNone, false⟩ := by
   unfold frStep; rw [hd, h0]; simp only [bf, if_false]
  rw [e] at h ⊢
  split at h
  ·rename_i h1
   rw [if_pos h1]
   unfold frEnded at h ⊢
   split at h
   ·rename_i h2
    rw [if_pos h2]
    exact .inl ⟨rfl, ht.s0 (.inl h0), ht.k0 (.inl h0)⟩
   ·split at h
    ·cases h
    ·cases h
  ·cases h
 ·have e : (frStep p m s f).2.2.done = false := by
   unfold frStep; rw [hd, h0]; simp only [bf, if_false]
  rw [e] at h; cases h
 ·have e : (frStep p m s f).2.2 = if (walkStep p.lk p.c m f.w).1.done then frLeave p { f.v with cnt := f.v.cnt + 1 } f.e (walkStep p.lk p.c m f.w).1 else ⟨2, { f.v with cnt := f.v.cnt + 1 }, f.e, (walkStep p.lk p.c m f.w).1, gNone, gNone, false⟩ := by
   unfold frStep; rw [hd, h0]; simp only [bf, if_false]
  rw [e] at h
  split at h
  ·cases h
  ·cases h
 ·have e : (frStep p m s f).2.2 = if (pushStep p.sp m f.p).1.done then ⟨4, { f.v with cnt := f.v.cnt + 1, back := f.v.cnt + 1, slot := -1 }, f.e, f.w, (pushStep p.sp m f.p).1, giveInit p.k (s.xs.take (overK s.most s.xs)), (giveInit p.k (s.xs.take (overK s.most s.xs))).done⟩ else ⟨3, { f.v with cnt := f.v.cnt + 1 }, f.e, f.w, (pushStep p.sp m f.p).1, gNone, false⟩ := by
   unfold frStep; rw [hd, h0]; simp only [bf, if_false]
  rw [e] at h ⊢
  split at h
  ·rename_i h1
   rw [if_pos h1]
   exact .inr ⟨rfl, rfl, h⟩
  ·cases h
 ·have e : (frStep p m s f).2.2 = ⟨4, { f.v with cnt := f.v.cnt + 1 }, f.e, f.w, f.p, (pushStep p.k m f.g).1, (pushStep p.k m f.g).1.done⟩ := by
   unfold frStep; rw [hd, h0]; simp only [bf, if_false]
  rw [e] at h ⊢
  exact .inr ⟨rfl, ht.s0 (.inr h0), h⟩
theorem fp_told {x : Cn} {W : Nat → Nat} {C : Nat → List Int} {m : Mm} {ws : Nat → Fk} {T i : Nat} (hs : FpS x W C) (h : FpI x W C m ws T) (hi : i < 3) (hon : (ws i).on = true) : FrTold x (ws i).k (frStep (x.fr (ws i).k (ws i).g) m (ws i).s (ws i).f).2.2 := by
 have r := (h.wk i hi).run hon
 have hst := h.step hs hi hon
 obtain ⟨R, hR⟩ : ∃ R, frStep (x.fr (ws i).k (ws i).g) m (ws i).s (ws i).f = R := ⟨_, rfl⟩
 have hfd := fr_done (p := x.fr (ws i).k (ws i).g) (m := m) (s := (ws i).s) (f := (ws i).f) r.d r.a4 r.tl
 rw [hR] at hst hfd ⊢
 cases hd : R.2.2.done with
 | true =>
   rcases hfd hd with ⟨a, b, c⟩ | ⟨a, b, c⟩
   ·exact ⟨by omega, fun _ => .inl a, ⟨fun _ => b, fun hh => by omega, fun _ => c⟩, fun hh => by omega, fun hh => by omega⟩
   ·exact ⟨by omega, fun _ => .inr a, ⟨fun _ => b, fun hh => by omega, fun hh => by omega⟩, fun hh => by omega, fun _ hh => (by rw [c] at hh; cases hh)⟩
 | false =>
   have hon2 : (updG ws i ((ws i).go R.2.1 R.2.2) i).on = true := by rw [updG_at]; show (!R.2.2.done) = true; rw [hd]; rfl
   have r2 := (hst.wk i hi).run hon2
   rw [updG_at] at r2
   have hwo := r2.k3
   obtain ⟨b1, b2, b3, b4, b5, b6, b7⟩ := show MayC (x.w : Int) x.c x.wd x.sl x.ca x.ba from hs.ok
   have hcr := head_ge (x := x) (hs.cr _ hwo)
   refine ⟨r2.a4, (fun hh => by rw [hd] at hh; cases hh), r2.tl, fun hh => ?_, fun h4 _ => ?_⟩
   ·obtain ⟨c1, c2, c3, c4⟩ := r2.c1 hh
    refine ⟨c1, ?_, ?_⟩
    ·show 0 ≤ ((ws i).go R.2.1 R.2.2).f.v.chunk
     rw [c3]
     cases hC : C ((ws i).go R.2.1 R.2.2).k with
     | nil => exact absurd hC c2
     | cons y l => have := hs.cr _ hwo y (by rw [hC]; simp); exact this.1
    ·show ((ws i).go R.2.1 R.2.2).f.v.chunk < _
     rw [c3]; exact hcr.2
   ·have := length_nodup x.c _ (hst.own_nd hi) (hst.own_rng hi)
    rw [updG_at, own_mid hd] at this
    rw [if_pos h4] at this
    simp only [List.length_append] at this
    omega
section
open Go
attribute [local irreducible] Sx Cx Rx Fx Krg Ksq Kbl Klp Kr
section
variable {L F G : St}
end
def fps (ws : Nat → Fk) (bs : Nat → Nat) : List Value := (List.range 3).map fun j => if (ws j).on then .pointer (some ⟨bs j, 0, none⟩) else .pointer none
theorem fps_get {ws : Nat → Fk} {bs : Nat → Nat} {i : Nat} (h : i < 3) : (fps ws bs)[0 + (i : Int).toNat * 1]? = some (if (ws i).on then .pointer (some ⟨bs i, 0, none⟩) else .pointer none) := by simp [fps, h]
theorem fps_blt {ws : Nat → Fk} {bs : Nat → Nat} {i : Nat} (h : i < 3) : Nat.blt (0 + (i : Int).toNat * 1) (fps ws bs).length = true := by
 rw [show (fps ws bs).length = 3 by simp [fps]]; rcases (show i = 0 ∨ i = 1 ∨ i = 2 by omega) with rfl | rfl | rfl <;> rfl
theorem fps_set {ws : Nat → Fk} {bs : Nat → Nat} {i b : Nat} {w : Fk} (h : i < 3) : (fps ws bs).set (0 + (i : Int).toNat * 1) (if w.on then zp b else .pointer none) = fps (updG ws i w) (updN bs i b) := by
 rcases (show i = 0 ∨ i = 1 ∨ i = 2 by omega) with rfl | rfl | rfl <;> rfl
theorem fps_same {ws : Nat → Fk} {bs : Nat → Nat} {i : Nat} {w : Fk} (h : i < 3) (hw : w.on = (ws i).on) : fps ws bs = fps (updG ws i w) bs := by
 unfold fps
 refine List.map_congr_left fun j _ => ?_
 by_cases e : j = i
 ·subst e; rw [updG_at, hw]
 ·rw [updG_ne e]
abbrev fH (n : Hn) (e : He) (q : Who) : FrH := ⟨e.eo, q.u, n.mp, e.ro, e.sp, e.ch, q.pb⟩
def fpR (n : Hn) (e : He) (x : Cn) (q : Who) (w : Fk) (b : Nat) (y : OA) : St :=
 pt (ad q.pb) (SkO n.mp x.pool) :: (if w.on then [pt (ad b) (FrO (fH n e q) x w.k w.g w.f), pt y (RFrO q.s n.w n.rs n.rp w.k w.g w.f)] else [])
def fpW (n : Hn) (e : He) (x : Cn) (q : Who) (w : Fk) (b : Nat) (y : OA) : St :=
 pt (ad q.u) (SupO n.mp q.pb x w.s) :: pt (ad q.s) (RSupO n.w w.s) :: fpR n e x q w b y
structure FpT where
 i : Nat
 m : Mm
 ws : Nat → Fk
 bs : Nat → Nat
 Y : Nat → OA
structure FpOk (x : Cn) (W : Nat → Nat) (C : Nat → List Int) (len : Nat) (p : FpT) : Prop where
 i : p.i ≤ len
 fp : FpI x W C p.m p.ws p.i
 n : p.m.n ≤ 1000 + p.i
 y : ∀ j, j < 3 → (p.ws j).on = true → ∃ b, p.Y j = ad b
section
variable {L F G : St}
abbrev fpO (x : Cn) (n : Hn) (e : He) (gb sb gn xb yb : Nat) (ws : Nat → Fk) (bs : Nat → Nat) (Y : Nat → OA) : St :=
 [pt (ad n.rp) (RSkO n.rm x.pool), pt (ad n.rs) (RSkO n.rm x.spare), pt (ad e.eo) (EnO n.mp e.ro e.ch), pt (ad e.ro) (RoO n.mp e.sp x), pt (ad e.sp) (SkO n.mp x.spare), pt (ad e.ch) (ChO n.mp e.pb x), pt (ad n.pb) (SkO n.mp x.pool),
   pt (ad gb) (Blk 24 [ii x.w, ii x.c, ii x.wd, ii x.sl, ii x.ca, ii x.ba]), pt (ad sb) (Blk 105 [ii ((0 : Nat) : Int), ii ((1 : Nat) : Int), ii ((2 : Nat) : Int)]), pt (ad gn) (Blk 105 [ii ((1 : Nat) : Int), ii ((1 : Nat) : Int), ii ((1 : Nat) : Int)]),
   pt (ad xb) (Blk 102 (fps ws bs)), pt (ad yb) (Blk 107 (yvs Y))]
abbrev fpF (x : Cn) (n : Hn) (e : He) (r r2 c c2 : Nat) (Q : Nat → Who) (gb sb gn xb yb : Nat) (m : Mm) (ws : Nat → Fk) (bs : Nat → Nat) (Y : Nat → OA) (G : St) : St :=
 pt (ad n.a) (Blk 97 (ehV x n e (ad r) (ad r2) 3 c c2)) :: pt (ad r) (Row 47 1 3 c (ptrs 3 fun i => (Q i).u)) :: pt (ad r2) (Row 81 1 3 c2 (ptrs 3 fun i => (Q i).s)) ::
 pt (ad n.mp) (MemO m) :: pt (ad n.w) (RWO x n.rm n.rp n.rs n.re) :: pt (ad n.rm) (RMemO m) ::
 pt (ad n.rp) (RSkO n.rm x.pool) :: pt (ad n.rs) (RSkO n.rm x.spare) :: pt (ad e.eo) (EnO n.mp e.ro e.ch) :: pt (ad e.ro) (RoO n.mp e.sp x) :: pt (ad e.sp) (SkO n.mp x.spare) :: pt (ad e.ch) (ChO n.mp e.pb x) :: pt (ad n.pb) (SkO n.mp x.pool) ::
 pt (ad gb) (Blk 24 [ii x.w, ii x.c, ii x.wd, ii x.sl, ii x.ca, ii x.ba]) :: pt (ad sb) (Blk 105 [ii ((0 : Nat) : Int), ii ((1 : Nat) : Int), ii ((2 : Nat) : Int)]) :: pt (ad gn) (Blk 105 [ii ((1 : Nat) : Int), ii ((1 : Nat) : Int), ii ((1 : Nat) : Int)]) ::
 pt (ad xb) (Blk 102 (fps ws bs)) :: pt (ad yb) (Blk 107 (yvs Y)) ::
 (many 3 (fun i => fpW n e x (Q i) (ws i) (bs i) (Y i)) ++ G)
theorem fpSame {x : Cn} {n : Hn} {e : He} {r r2 c c2 : Nat} {Q : Nat → Who} {gb sb gn xb yb : Nat} {m : Mm} {ws : Nat → Fk} {bs : Nat → Nat} {Y : Nat → OA} (hn : m.n ≤ 1000000000000) (hS : ∀ i, i < 3 → (ws i).s.xs.length ≤ 1000000000) (hB : ∀ i, i < 3 → (ws i).s.lm.size ≤ 1000000000) :
  FX 65 [zp n.a] (fpF x n e r r2 c c2 Q gb sb gn xb yb m ws bs Y G) (fun v L' => v = .bool true ∧ L' = fpF x n e r r2 c c2 Q gb sb gn xb yb m ws bs Y G) := by
 have e1 : (fun i => s5W n x (Q i) ((fun i => (ws i).s) i) ((fun i => fpR n e x (Q i) (ws i) (bs i) (Y i)) i)) = fun i => fpW n e x (Q i) (ws i) (bs i) (Y i) := rfl
 refine Fx.iso ?_ ?_ (sameE (x := x) (n := n) (e := e) (r := r) (r2 := r2) (c := c) (c2 := c2) (Q := Q) (S := fun i => (ws i).s) (R := fun i => fpR n e x (Q i) (ws i) (bs i) (Y i)) (m := m)
  (G := fpO x n e gb sb gn xb yb ws bs Y ++ G) hn hS hB)
 ·dsimp only [fpF, s5F] at e1 ⊢
  rw [e1]
  iterate 6 (refine Ec ?_)
  show Ent (fpO x n e gb sb gn xb yb ws bs Y ++ ((many 3 fun i => fpW n e x (Q i) (ws i) (bs i) (Y i)) ++ G)) _
  exact Ent.deep
 ·dsimp only [fpF, s5F] at e1 ⊢
  rw [e1]
  iterate 6 (refine Ec ?_)
  exact Ent.deep (M := fpO x n e gb sb gn xb yb ws bs Y)
theorem fp_back {n : Hn} {e : He} {x : Cn} {Q : Nat → Who} {ws : Nat → Fk} {bs : Nat → Nat} {Y : Nat → OA} {i b : Nat} {w : Fk} {y : OA} {s : St} (hi : i < 3) (hs : ∀ G, Ent (s ++ G) (fpW n e x (Q i) w b y ++ G)) :
  Ent (s ++ (many 3 (updS (fun i => fpW n e x (Q i) (ws i) (bs i) (Y i)) i []) ++ G)) (many 3 (fun j => fpW n e x (Q j) (updG ws i w j) (updN bs i b j) (updF Y i y j)) ++ G) := by
 refine Et (hs _) ?_
 refine Et (Ent.oneBack hi) ?_
 have e1 : updS (fun i => fpW n e x (Q i) (ws i) (bs i) (Y i)) i (fpW n e x (Q i) w b y) = fun j => fpW n e x (Q j) (updG ws i w j) (updN bs i b j) (updF Y i y j) := by
  funext j
  unfold updS updN updG updF
  by_cases h : j = i
  ·subst h; simp
  ·simp [h]
 rw [e1]
 exact Er _
set_option maxHeartbeats 1000000 in
theorem refStackList {sb rm : Nat} {k : Sk} {m : Mm} (hk : k.ok m.ws.length) [t : Take L (ad rm) (RMemO m) F] [s : Take F (ad sb) (RSkO rm k) G] :
  FX 66 [zp sb] L (fun v L' => ∃ ro co, v = .slice ro (listK k m).length co ∧ L' = pt ro (Row 3 1 (listK k m).length co (ints (listK k m))) :: L) := by
 obtain ⟨k1, k2, k3, k4, k5, k6⟩ := hk
 refine Fm Tryz.func66 k66 ?_
 dsimp only [c66, eL]
 refine Xe (Et (Eo t.out) (Ec (Eo s.out))) ?_
 refine Xo (a := ad rm) rfl ?_
 rintro ⟨r0, c0⟩
 simp only [rmemL, lc, ln]
 refine Cx.liftp fun hm => ?_
 refine Cx.rowkey (a := r0) fun hx0 hn0 _ hk1 => ?_
 obtain ⟨rg, rfl⟩ := row_some k3 (hk1.imp (fun h => ⟨h.1, h.2.1, h.2.2⟩) id)
 have hlt := Ml hm.1 k.head
 have hback : ∀ {M : St}, Ent (pt (ad rm) (Blk 110 [.slice (ad rg) m.ws.length c0, ii (IntKind.i64.wrap (m.n : Int))]) :: pt (ad rg) (Row 56 1 m.ws.length c0 (us m.ws)) :: pt (ad sb) (RSkO rm k) :: G) L := fun {M} =>
  Et (Et (RMemO.close (T := 110) (a := ad rm) (r := ad rg) m hm rfl rfl rfl) (Ec (Eo s.back))) (Eo t.back)
 refine go ?_
 refine Xd rfl kr_ (ge ?_)
 refine El (b := rg) kr_ rfl rfl (show (us m.ws)[0 + (k.head : Int).toNat * 1]? = some (wd (m.at_ k.head)) by rw [show 0 + (k.head : Int).toNat * 1 = k.head by omega]; exact us_get (Mm.get k3)) (ge ?_)
 refine Eb kr_ rfl rfl (refTop (sb := sb) (rm := rm) (k := k) (m.at_ k.head) hlt) (ge ?_)
 refine go ?_
 refine Cx.lp (α := {p : (List Int × Int) × (OA × Nat) // p.1.1.length ≤ k.n ∧ -1 ≤ p.1.2 ∧ p.1.2 < k.n ∧ p.1.1 ++ walkL k m (k.n - p.1.1.length) p.1.2 = listK k m})
  (fun p => [(0, zp sb), (3, .slice p.1.2.1 p.1.1.1.length p.1.2.2), (4, ii p.1.1.2)])
  (fun p => pt p.1.2.1 (Row 3 1 p.1.1.1.length p.1.2.2 (ints p.1.1.1)) :: pt (ad rm) (Blk 110 [.slice (ad rg) m.ws.length c0, ii (IntKind.i64.wrap (m.n : Int))]) :: pt (ad rg) (Row 56 1 m.ws.length c0 (us m.ws)) :: pt (ad sb) (RSkO rm k) :: G)
  (fun p => k.n - p.1.1.1.length) ⟨(([], k.top (m.at_ k.head)), (none, 0)), by simp, k.top_ge _, k.top_lt _, by simp [listK]⟩ sb3 (Ent.rownil 3 1) ?_
 rintro ⟨⟨⟨out, i⟩, ⟨r, c⟩⟩, hol, hi1, hi2, he⟩
 dsimp only at hol hi1 hi2 he ⊢
 have fin : (i < 0 ∨ k.n ≤ out.length) → out = listK k m := by
  intro h
  rw [← he]
  rcases h with h | h
  ·cases hf : k.n - out.length with
   | zero => simp [walkL]
   | succ f => simp [walkL, show ¬ 0 ≤ i by omega]
  ·rw [show k.n - out.length = 0 by omega]; simp [walkL]
 refine go ?_
 refine Sx.ifp rfl (fun h => ?_) (fun h => ?_)
 ·refine go ?_
  refine Xi rfl (fun h2 => ?_) (fun h2 => ?_)
  ·obtain ⟨x, rfl⟩ : ∃ x : Nat, i = x := ⟨i.toNat, by omega⟩
   have hlx := Ml hm.1 (k.links + x)
   have hbl := k.below_lt (m.at_ (k.links + x))
   have hbg := k.below_ge (m.at_ (k.links + x))
   refine go ?_
   refine Sx.bs (sz := 1) rfl rfl fun g => ?_
   refine Sx.ap (ra := r) rfl rfl (Rd.row (b := g) (E := 3) (cap := 1) rfl) rfl (by simp [maxLen]; omega) (by omega) fun ra ca hc => (go ?_)
   refine Cx.ordu rfl rfl kr_ kr_ (ge ?_)
   rw [w64 (n := (k.links : Int) + x) (by omega) (by omega), show (k.links : Int) + x = ((k.links + x : Nat) : Int) by omega]
   refine ge ?_
   refine El (b := rg) kr_ rfl rfl (show (us m.ws)[0 + ((k.links + x : Nat) : Int).toNat * 1]? = some (wd (m.at_ (k.links + x))) by rw [show 0 + ((k.links + x : Nat) : Int).toNat * 1 = k.links + x by omega]; exact us_get (Mm.get (by omega))) (ge ?_)
   refine Eb kr_ rfl rfl (refBelow (sb := sb) (rm := rm) (k := k) (m.at_ (k.links + x)) hlx k2) (ge ?_)
   refine go ?_
   refine Kn ⟨((out ++ [(x : Int)], k.below (m.at_ (k.links + x))), (ra, ca)), by simp; omega, hbg, hbl, ?_⟩ (sub.cons rfl (sub.cons (by simp; rfl) sb1)) ?_ (by simp; omega)
   ·dsimp only
    rw [← he, show k.n - out.length = (k.n - (out ++ [(x : Int)]).length) + 1 by simp; omega]
    simp only [walkL, if_pos h, List.append_assoc, lc, ln, tn]
   ·simp only [List.length_append, List.length_singleton, ints_append]
    exact ent
  ·refine go ?_
   have hf := fin (.inr (by omega))
   subst hf
   exact Ko rfl (Ec (hback (M := []))) ⟨r, c, rfl, rfl⟩
 ·refine go ?_
  have hf := fin (.inl (by omega))
  subst hf
  exact Ko rfl (Ec (hback (M := []))) ⟨r, c, rfl, rfl⟩
end
def svs (j : Nat) : List Value := (List.range 3).map fun i => ii (if i < j then ((i : Nat) : Int) else 0)
def gvs (j : Nat) : List Value := (List.range 3).map fun i => ii (if i < j then ((1 : Nat) : Int) else 0)
theorem svs_blt {j i : Nat} (h : i < 3) : Nat.blt (0 + (i : Int).toNat * 1) (svs j).length = true := by
 rw [show (svs j).length = 3 by simp [svs]]; rcases (show i = 0 ∨ i = 1 ∨ i = 2 by omega) with rfl | rfl | rfl <;> rfl
theorem gvs_blt {j i : Nat} (h : i < 3) : Nat.blt (0 + (i : Int).toNat * 1) (gvs j).length = true := by
 rw [show (gvs j).length = 3 by simp [gvs]]; rcases (show i = 0 ∨ i = 1 ∨ i = 2 by omega) with rfl | rfl | rfl <;> rfl
theorem svs_set {i : Nat} (h : i < 3) : (svs i).set (0 + (i : Int).toNat * 1) (ii ((i : Nat) : Int)) = svs (i + 1) := by
 rcases (show i = 0 ∨ i = 1 ∨ i = 2 by omega) with rfl | rfl | rfl <;> rfl
theorem gvs_set {i : Nat} (h : i < 3) : (gvs i).set (0 + (i : Int).toNat * 1) (ii ((1 : Nat) : Int)) = gvs (i + 1) := by
 rcases (show i = 0 ∨ i = 1 ∨ i = 2 by omega) with rfl | rfl | rfl <;> rfl
structure SeT where
 j : Nat
 m : Mm
 S : Nat → SupS
 C : Nat → List Int
 P : List Int
 T : Nat
structure SeOk (x : Cn) (p : SeT) : Prop where
 j : p.j ≤ 3
 T : p.T ≤ 200 * p.j
 I : SeI x p.m p.S p.C p.P p.j p.T
section
variable {L F G : St}
abbrev cfB (gb : Nat) (x : Cn) : As := pt (ad gb) (Blk 24 [ii x.w, ii x.c, ii x.wd, ii x.sl, ii x.ca, ii x.ba])
abbrev seF (x : Cn) (n : Hn) (e : He) (r r2 c c2 : Nat) (Q : Nat → Who) (gb sb gn j : Nat) (S : Nat → SupS) (m : Mm) (G : St) : St :=
 cfB gb x :: pt (ad sb) (Blk 105 (svs j)) :: pt (ad gn) (Blk 105 (gvs j)) :: ehF x n e (ad r) (ad r2) 3 c c2 Q S S m m G
abbrev seG (x : Cn) (n : Hn) (e : He) (Q : Nat → Who) (gb sb gn j i : Nat) (S : Nat → SupS) (G : St) : St :=
 cfB gb x :: pt (ad sb) (Blk 105 (svs j)) :: pt (ad gn) (Blk 105 (gvs j)) ::
 pt (ad n.pb) (SkO n.mp x.pool) :: pt (ad n.re) (REpO x n.rm) :: pt (ad e.eo) (EnO n.mp e.ro e.ch) :: pt (ad e.ro) (RoO n.mp e.sp x) :: pt (ad e.sp) (SkO n.mp x.spare) :: pt (ad e.ch) (ChO n.mp e.pb x) :: pt (ad e.pb) (SkO n.mp x.pool) ::
 (many 3 (updS (fun i => whoL n.mp n.w x (Q i) (S i) (S i)) i []) ++ G)
theorem se_in {x : Cn} {n : Hn} {e : He} {r r2 c c2 : Nat} {Q : Nat → Who} {gb sb gn j i : Nat} {S : Nat → SupS} {m : Mm} (hi : i < 3) :
  Ent (seF x n e r r2 c c2 Q gb sb gn j S m G) (rhF x n e (ad r) (ad r2) 3 c c2 m (rhG x n r r2 3 c c2 Q i (S i) (seG x n e Q gb sb gn j i S G))) := by
 dsimp only [seF, ehF, rhF, rhG, seG]
 refine Et (Ent.ith i hi) ?_
 simp only [whoL, lc, ln]
 exact entm
theorem se_out {x : Cn} {n : Hn} {e : He} {r r2 c c2 : Nat} {Q : Nat → Who} {gb sb gn j i : Nat} {S : Nat → SupS} {s1 : SupS} {m : Mm} (hi : i < 3) :
  Ent (rhF x n e (ad r) (ad r2) 3 c c2 m (rhG x n r r2 3 c c2 Q i s1 (seG x n e Q gb sb gn j i S G))) (seF x n e r r2 c c2 Q gb sb gn j (updG S i s1) m G) := by
 have e1 : updS (fun i => whoL n.mp n.w x (Q i) (S i) (S i)) i (whoL n.mp n.w x (Q i) s1 s1) = fun j => whoL n.mp n.w x (Q j) (updG S i s1 j) (updG S i s1 j) := by
  funext k
  unfold updS updG
  by_cases h : k = i
  ·subst h; simp
  ·simp [h]
 have hb := Ent.oneBack (n := 3) (i := i) (f := fun i => whoL n.mp n.w x (Q i) (S i) (S i)) (s := whoL n.mp n.w x (Q i) s1 s1) (G := G) hi
 rw [e1] at hb
 dsimp only [seF, ehF, rhF, rhG, seG]
 iterate 21 (refine Em ?_)
 refine Et ?_ hb
 simp only [whoL, lc, ln]
 exact entm
end
section
variable {L F G : St}
theorem fp_len {x : Cn} {W : Nat → Nat} {C : Nat → List Int} {m : Mm} {ws : Nat → Fk} {T : Nat} (h : FpI x W C m ws T) (hc : x.c ≤ 4096) : (∀ i, i < 3 → (ws i).s.xs.length ≤ 1000000000) ∧ (∀ i, i < 3 → (ws i).s.lm.size ≤ 1000000000) :=
 ⟨fun i hi => by have := h.sizes hi; omega, fun i hi => by have := h.sizes hi; omega⟩
set_option maxRecDepth 100000 in
set_option maxHeartbeats 16000000 in
theorem endingPlays {w : World} {v : Value} {xs : List Int} (n : Int) (hv : In w 1 v xs.length (ints xs)) : FX 10 [ii n, v] [Old w] (fun v L' => v = .bool true ∧ Ent L' [Old w]) := by
 obtain ⟨hn, sa, scp, rfl, hRd⟩ := hv.rd
 have hmx : maxLen = 9223372036854775807 := rfl
 refine Fm Tryz.func10 k10 ?_
 dsimp only [c10, eL]
 refine go ?_
 refine Sa rfl enFirst ?_
 rintro v L' ⟨rfl, rfl⟩
 refine go ?_
 refine Xi rfl (fun h => ?_) (fun hlen2 => ?_)
 ·refine go ?_
  exact Ko rfl (Er _) ⟨rfl, Er _⟩
 refine go ?_
 refine Sa rfl (config_ n) ?_
 rintro v L' ⟨⟨w', c, wd, sl, ca, ba, rfl, hsm⟩, rfl⟩
 obtain ⟨x, hxv, hx0, hca, hc8, hba, hw4, hw16, hsl4⟩ := small_cfg2 hsm
 rw [hxv]
 clear hxv hsm
 clear w' c wd sl ca ba
 refine Sx.al fun gb => ?_
 refine Sx.st (b := gb) rfl rfl rfl rfl rfl rfl ?_
 refine Sr [ii x.w, ii x.c, ii x.wd, ii x.sl, ii x.ca, ii x.ba] rfl (go ?_)
 have hx2 : (⟨x.w, x.c, x.wd, 3, x.ca, x.ba⟩ : Cn).ok := by
  have hx1 := hx0.b
  unfold Cn.ok MayC at hx0 ⊢
  dsimp only
  omega
 refine Sa (vs := [(⟨x.w, x.c, x.wd, 3, x.ca, x.ba⟩ : Cn).v]) rfl (enMade hx2) ?_
 obtain ⟨x2, hxe⟩ : ∃ x2 : Cn, x2 = ⟨x.w, x.c, x.wd, 3, x.ca, x.ba⟩ := ⟨_, rfl⟩
 rw [← hxe] at hx2 ⊢
 have h3 : x2.sl = 3 := by rw [hxe]
 have e1 : x2.w = x.w := by rw [hxe]
 have e2 : x2.c = x.c := by rw [hxe]
 have e3 : x2.wd = x.wd := by rw [hxe]
 have e5 : x2.ca = x.ca := by rw [hxe]
 have e6 : x2.ba = x.ba := by rw [hxe]
 clear hxe
 rintro v L' ⟨nn, e, r, r2, c, c2, Q, rfl, rfl⟩
 refine Se_ ehF_out ?_
 refine Sr [ii x.w, ii x.c, ii x.wd, ii ((3 : Nat) : Int), ii x.ca, ii x.ba] rfl ?_
 rw [← e1, ← e2, ← e3, ← e5, ← e6, show ((3 : Nat) : Int) = (x2.sl : Int) by rw [h3]]
 rw [← e1] at hw4; rw [← e2] at hc8; rw [← e3] at hw16; rw [← e5] at hca; rw [← e6] at hba
 clear e1 e2 e3 e5 e6 hx0 hsl4
 have hx' := hx2
 have hlen := hx2.len_le
 obtain ⟨b1, b2, b3, b4, b5, b6, b7⟩ := hx'.b
 have hw8 := hx2.w8
 refine go ?_
 refine Sx.al fun sb => ?_
 refine Sx.al fun gnb => (go ?_)
 clear hx'
 refine Cx.lp (α := {p : SeT // SeOk x2 p})
  (fun p => [(0, ii n), (1, .slice sa xs.length scp), (5, .bool true), (6, zp gb), (7, zp nn.a), (8, zp sb), (9, zp gnb), (10, ii (p.1.j : Nat))])
  (fun p => seF x2 nn e r r2 c c2 Q gb sb gnb p.1.j p.1.S p.1.m [Old w])
  (fun p => 3 - p.1.j) ⟨⟨0, allM x2, (fun _ => SupS.nil x2.ca), (fun _ => []), iotaI x2.c, 0⟩, ⟨Nat.zero_le _, Nat.le_refl _, SeI.first hx2 h3⟩⟩ sb8 ?_ ?_
 ·have s0 : svs 0 = [ii 0, ii 0, ii 0] := rfl
  have g0 : gvs 0 = [ii 0, ii 0, ii 0] := rfl
  dsimp only [seF, ehF]
  rw [s0, g0]
  exact entm
 rintro ⟨⟨i, m, S, C, P, T⟩, ⟨hi, hT, hI⟩⟩
 dsimp only [seF, ehF] at hi hT hI ⊢
 refine go ?_
 refine Xi rfl (fun h => ?_) (fun h => ?_)
 ·have hi3 : i < 3 := by omega
  refine go ?_
  refine Xd rfl kr_ (ge ?_)
  rw [w64 (n := 3 + ((i : Nat) : Int)) (by omega) (by omega)]
  refine Ev.pvH kr_ rfl rfl (by omega) (ge ?_)
  obtain ⟨D, hD⟩ : ∃ D, IntKind.i64.wrap (Int.tdiv n (3 + ((i : Nat) : Int))) = D := ⟨_, rfl⟩
  rw [hD]
  refine Eb kr_ rfl rfl (number D 4 (by omega) (by omega)) (ge ?_)
  have hz1 := Int.emod_nonneg D (show (4 : Int) ≠ 0 by omega)
  have hz2 := Int.emod_lt_of_pos D (show (0 : Int) < 4 by omega)
  obtain ⟨many, hmany⟩ : ∃ many : Nat, D % 4 = many := ⟨(D % 4).toNat, by omega⟩
  rw [hmany] at hz1 hz2 ⊢
  rw [w64 (n := (x2.wd : Int) - ((i : Nat) : Int)) (by omega) (by omega), show (x2.wd : Int) - ((i : Nat) : Int) = ((x2.wd - i : Nat) : Int) by omega]
  refine ge ?_
  obtain ⟨R, N, C1, P1, T1, hR0, hR, hT1, hI1, hsp, hgen⟩ := hI.region hx2 h3 hi3 hc8 hw16 many (by omega)
  have ger := enRegionG (x := x2) (n := nn) (e := e) (r := r) (r2 := r2) (k := 3) (c := c) (c2 := c2) (Q := Q) (m := m) i many (x2.wd - i) R N hi3 (by omega) (by omega) (by omega) (by omega) hw8 hx2 hI.len hI.ok (s := i) (l := (iotaI x2.sl).drop (i + 1)) hsp (by omega) (by rw [hR0]) (by rw [hgen]; exact hR)
   (G := seG x2 nn e Q gb sb gnb i i S [Old w])
  rw [hgen, hR0] at ger
  refine Ea kr_ rfl rfl (Fx.ent (se_in (x := x2) (n := nn) (e := e) (r := r) (r2 := r2) (c := c) (c2 := c2) (Q := Q) (gb := gb) (sb := sb) (gn := gnb) (j := i) (i := i) (S := S) (m := m) (G := [Old w]) hi3) ger) (Pd kr_) ?_
  rintro v' L' ⟨rfl, rfl⟩
  refine ge ?_
  refine go ?_
  refine Se_ (se_out hi3) ?_
  dsimp only [seF, ehF]
  refine go ?_
  refine gg ?_
  refine Sx.stb (b := sb) rfl rfl rfl rfl (svs_blt hi3) (svs_set hi3) (go ?_)
  refine gg ?_
  refine Sx.stb (b := gnb) rfl rfl rfl rfl (gvs_blt hi3) (gvs_set hi3) (go ?_)
  rw [w64 (n := (i : Int) + 1) (by omega) (by omega)]
  refine Kn ⟨⟨i + 1, (R many).1, updG S i (R many).2, updG C i C1, P1, T1⟩, ⟨(by dsimp only; omega), (by dsimp only; omega), hI1⟩⟩ sb8 ?_ (by dsimp only; omega)
  dsimp only [seF, ehF]
  exact entm
 ·obtain rfl : i = 3 := by omega
  obtain ⟨hS, hF⟩ := hI.free hx2 h3
  have hnn0 := hI.nn
  obtain ⟨W, hW⟩ : ∃ W : Nat → Nat, (fun k => m.at_ (x2.root + k)) = W := ⟨_, rfl⟩
  rw [hW] at hS hF
  refine go ?_
  refine Sx.al fun xb => (go ?_)
  refine Sx.al fun yb => (go ?_)
  refine Cx.lp (α := {p : FpT // FpOk x2 W C xs.length p})
   (fun p => [(1, .slice sa xs.length scp), (5, .bool true), (6, zp gb), (7, zp nn.a), (8, zp sb), (9, zp gnb), (14, zp xb), (15, zp yb), (16, ii (p.1.i : Nat))])
   (fun p => fpF x2 nn e r r2 c c2 Q gb sb gnb xb yb p.1.m p.1.ws p.1.bs p.1.Y [Old w])
   (fun p => xs.length - p.1.i) ⟨⟨0, m, (fun i => ⟨S i, false, 0, 1, FrS.init⟩), (fun _ => 0), (fun _ => none)⟩, ⟨Nat.zero_le _, hF, (by dsimp only; omega), (fun _ _ h => by cases h)⟩⟩ sb9 ?_ ?_
  ·have s0 : svs 3 = [ii ((0 : Nat) : Int), ii ((1 : Nat) : Int), ii ((2 : Nat) : Int)] := rfl
   have g0 : gvs 3 = [ii ((1 : Nat) : Int), ii ((1 : Nat) : Int), ii ((1 : Nat) : Int)] := rfl
   have x0 : fps (fun i => ⟨S i, false, 0, 1, FrS.init⟩) (fun _ => 0) = [.pointer none, .pointer none, .pointer none] := rfl
   have y0 : yvs (fun _ => none) = [.pointer none, .pointer none, .pointer none] := rfl
   dsimp only [fpF]
   rw [s0, g0, x0, y0]
   have hm1 : Ent (many 3 (fun i => whoL nn.mp nn.w x2 (Q i) (S i) (S i)) ++ [Old w]) (many 3 (fun i => fpW nn e x2 (Q i) ⟨S i, false, 0, 1, FrS.init⟩ 0 none) ++ [Old w]) := many_ent fun i _ G => Ec (Ent.swap)
   repeat (first | exact hm1 | (refine Em ?_) | (refine Et Ed ?_))
  clear hF hnn0 hI hW hT
  clear m S P T
  rintro ⟨⟨i, m, ws, bs, Y⟩, ⟨hi, hF, hn, hY⟩⟩
  dsimp only [fpF] at hi hF hn hY ⊢
  obtain ⟨hsz1, hsz2⟩ := fp_len hF (by omega)
  have hml := hF.len
  have hmo := hF.ok
  refine go ?_
  refine Xi rfl (fun h => ?_) (fun h => ?_)
  ·have hik : i < xs.length := by omega
   have hg : (ints xs)[i]? = some (ii xs[i]) := by simp [ints]
   obtain ⟨b0, o, rfl, _⟩ := (hRd [Old w] (Er _)).at1_ hg
   have hat : ∀ L, Ent L [Old w] → Has L b0 (o + i * 1) [ii xs[i]] := fun L hL => by
    obtain ⟨_, _, e, h⟩ := (hRd L hL).at1_ hg
    simp only [Option.some.injEq, Addr.mk.injEq, and_true] at e
    obtain ⟨rfl, rfl⟩ := e
    simpa using h
   refine go ?_
   refine Xd rfl kr_ (ge ?_)
   refine Ev.ldH kr_ rfl rfl (hat _ (by exact entm)) rfl (ge ?_)
   refine Eb kr_ rfl rfl (number xs[i] 3 (by omega) (by omega)) (ge ?_)
   refine Ev.ldH kr_ rfl rfl (hat _ (by exact entm)) rfl (ge ?_)
   refine Eb kr_ rfl rfl (number (IntKind.i64.wrap (Int.tdiv xs[i] 3)) 40 (by omega) (by omega)) (ge ?_)
   obtain ⟨D, hD⟩ : ∃ D, IntKind.i64.wrap (Int.tdiv xs[i] 3) % 40 = D := ⟨_, rfl⟩
   have hz1 := Int.emod_nonneg (IntKind.i64.wrap (Int.tdiv xs[i] 3)) (show (40 : Int) ≠ 0 by omega)
   have hz2 := Int.emod_lt_of_pos (IntKind.i64.wrap (Int.tdiv xs[i] 3)) (show (0 : Int) < 40 by omega)
   rw [hD] at hz1 hz2 ⊢
   obtain ⟨v, rfl⟩ : ∃ v : Nat, D = v := ⟨D.toNat, by omega⟩
   have hz3 := Int.emod_nonneg xs[i] (show (3 : Int) ≠ 0 by omega)
   have hz4 := Int.emod_lt_of_pos xs[i] (show (0 : Int) < 3 by omega)
   obtain ⟨who, hwho, hw3⟩ : ∃ who : Nat, xs[i] % 3 = who ∧ who < 3 := ⟨(xs[i] % 3).toNat, by omega, by omega⟩
   rw [hwho]
   refine go ?_
   refine Xi rfl (fun hv39 => ?_) (fun hv39 => ?_)
   ·-- the epoch
    have h2l : 2 < m.ws.length := by rw [hml]; unfold Cn.len; omega
    refine Xo (a := ad nn.rm) rfl ?_
    rintro ⟨r0, c0⟩
    simp only [rmemL, lc, ln]
    refine Cx.liftp fun hmm => ?_
    refine Cx.rowkey (a := r0) fun hx0 hn0 _ hk1 => ?_
    obtain ⟨rg, rfl⟩ := row_some h2l (hk1.imp (fun h => ⟨h.1, h.2.1, h.2.2⟩) id)
    obtain ⟨V, hV, hVl⟩ : ∃ V : Nat, IntKind.u64.wrap (((m.at_ 2 : Nat) : Int) + 1) = (V : Int) ∧ V < 18446744073709551616 := ⟨(m.at_ 2 + 1) % 18446744073709551616, by show (((m.at_ 2 : Nat) : Int) + 1) % 18446744073709551616 = _; omega, by omega⟩
    refine go ?_
    refine gg ?_
    refine Sx.ldr (b := rg) rfl (v := wd (m.at_ 2)) (show (us m.ws)[0 + (2 : Int).toNat * 1]? = some (wd (m.at_ 2)) from us_get (Mm.get h2l)) (go ?_)
    rw [hV]
    refine gg ?_
    refine Sx.str1 (b := rg) (u := wd V) rfl rfl rfl rfl (show 0 + (2 : Int).toNat * 1 < (us m.ws).length by rw [length_us]; show 2 < _; omega) rfl (go ?_)
    refine Xd rfl kr_ (ge ?_)
    refine El (b := rg) kr_ rfl rfl (show ((us m.ws).set (0 + (2 : Int).toNat * 1) (wd V))[0 + (2 : Int).toNat * 1]? = some (wd V) by rw [List.getElem?_set_self (by rw [length_us]; show 2 < _; omega)]) (ge ?_)
    refine Ea kr_ rfl rfl (cellsLay (b := nn.mp) (m := m) 2 V h2l hVl) (Pd kr_) ?_
    rintro v' L' ⟨rfl, rfl⟩
    refine ge ?_
    refine go ?_
    refine Se_ (M := fpF x2 nn e r r2 c c2 Q gb sb gnb xb yb (m.lay 2 V) ws bs Y [Old w]) ?_ (Sa rfl (fpSame (by show m.n ≤ _; omega) hsz1 hsz2) ?_)
    ·dsimp only [fpF]
     refine Et (RMemO.close (T := 110) (a := ad nn.rm) (r := ad rg) (m.lay 2 V) ⟨Mm.ok_lay hmm.1 hVl, by rw [Mm.len_lay]; exact hmm.2⟩ rfl Mm.len_lay.symm (us_set m.ws 2 V)) ?_
     exact entm
    rintro v' L' ⟨rfl, rfl⟩
    refine go ?_
    rw [w64 (n := (i : Int) + 1) (by omega) (by omega)]
    exact Kn ⟨⟨i + 1, m.lay 2 V, ws, bs, Y⟩, ⟨(by dsimp only; omega), (hF.lay hx2 hVl).noth (Nat.le_succ _), (by show m.n ≤ 1000 + (i + 1); omega), hY⟩⟩ sb9 (Er _) (by dsimp only; omega)
   ·by_cases hon : (ws who).on = true
    ·-- one goes on
     obtain ⟨bb, hYw⟩ := hY who hw3 hon
     have hxv : (fps ws bs)[0 + (who : Int).toNat * 1]? = some (.pointer (some ⟨bs who, 0, none⟩)) := by rw [fps_get hw3, if_pos hon]
     have hyv : (yvs Y)[0 + (who : Int).toNat * 1]? = some (zp bb) := by rw [yvs_get hw3, hYw]
     have rr := (hF.wk who hw3).run hon
     have hrf := hF.ref hS hw3 (by omega) hon
     have hst := hF.step hS hw3 hon
     have hm0 := (hF.wk who hw3).m0
     have hm2 := (hF.wk who hw3).m2
     have hk3 := rr.k3
     have hfd := rr.d
     have hsz := hF.sizes hw3
     have hnd := hF.xs_nd hw3
     have htold := fp_told hS hF hw3 hon
     have hnn := frStep_n (x2.fr (ws who).k (ws who).g) m (ws who).s (ws who).f
     refine Xe (Ent.ith who hw3) ?_
     simp only [fpW, fpR, hon, if_true, lc, ln]
     rw [hYw]
     refine go ?_
     refine gg ?_
     refine Sx.ldb rfl hxv (go ?_)
     refine Xd rfl kr_ (ge ?_)
     refine Ev.ldbH (b := xb) kr_ rfl rfl hxv (ge ?_)
     refine Ev.ldbH (b := yb) kr_ rfl rfl hyv (ge ?_)
     refine go ?_
     refine Xd rfl kr_ (ge ?_)
     refine Ev.bring 1 rfl (ge ?_)
     refine Ea kr_ rfl rfl (frStepC (b := bs who) (h := fH nn e (Q who)) (x := x2) (slot := (ws who).k) (gen := (ws who).g) (m := m) (S := (ws who).s) (f := (ws who).f) (pb2 := e.pb) hx2 (by omega) (by omega) (by omega) hm0 hm2 (fun _ => hrf.ok)) (Pd kr_) ?_
     rintro v' L' ⟨rfl, rfl⟩
     refine ge ?_
     refine Ea kr_ rfl rfl (refFrStep (b := bb) (sa := (Q who).s) (w := nn.w) (rm := nn.rm) (rp := nn.rp) (rs := nn.rs) (re := nn.re) (slot := (ws who).k) (gen := (ws who).g) (x := x2) (m := m) (S := (ws who).s) (f := (ws who).f) hx2 (by omega) (by omega) hrf hfd (by omega) hm0 hm2 hnd) (Pd kr_) ?_
     rintro v' L' ⟨rfl, rfl⟩
     obtain ⟨⟨m', S', f'⟩, hR3⟩ : ∃ R3, frStep (x2.fr (ws who).k (ws who).g) m (ws who).s (ws who).f = R3 := ⟨_, rfl⟩
     rw [hR3] at hst htold hnn ⊢
     dsimp only at hst htold hnn ⊢
     obtain ⟨q4, qd, qt, qh, qg⟩ := htold
     have hml' := hst.len
     refine ge ?_
     refine Ev.no 95 rfl (by rw [hfd]; simp) (ge ?_)
     refine Eb kr_ rfl rfl (frDoneQ (b := bs who) (s := f') (fun _ => q4)) (ge ?_)
     refine Ev.ldH kr_ rfl rfl (RFrO.done (b := bb) (s := f') q4) rfl (ge ?_)
     refine Ev.no 104 rfl (by simp) (ge ?_)
     refine Eb kr_ rfl rfl (frPointQ (b := bs who) (s := f') (fun _ => q4)) (ge ?_)
     refine Ev.ldH kr_ rfl rfl (RFrO.point (b := bb) (s := f') q4) rfl (ge ?_)
     refine Ev.no 113 rfl (by simp) (ge ?_)
     refine Eb kr_ rfl rfl (frBackQ (b := bs who) (s := f') (fun _ => q4)) (ge ?_)
     refine Ev.ldH kr_ rfl rfl (RFrO.back (b := bb) (s := f') q4) rfl (ge ?_)
     refine Ev.no 122 rfl (by simp) (ge ?_)
     refine Eb kr_ rfl rfl (frSlotQ (b := bs who) (s := f') (fun _ => q4)) (ge ?_)
     refine Eb kr_ rfl rfl (refFrSlot (b := bb) (s := f') q4 qt) (ge ?_)
     refine Ev.no 129 rfl (by simp) (ge ?_)
     refine Ev.bring 1 rfl (ge ?_)
     refine Ea kr_ rfl rfl (frHandQ (b := bs who) (s := f') (m := m') (pb2 := e.pb) hx2 (by omega) q4 qd (fun hh => (qh hh).2) qt.k0 qg) (Pd kr_) ?_
     rintro v' L' ⟨a1, c1, rfl, rfl⟩
     refine ge ?_
     refine Ea kr_ rfl rfl (refFrHand (b := bb) (sa := (Q who).s) (w := nn.w) (rm := nn.rm) (rp := nn.rp) (rs := nn.rs) (re := nn.re) (slot := (ws who).k) (gen := (ws who).g) (x := x2) (S := S') (m := m') (s := f') hx2 (by omega) q4 qh qg) (Pd kr_) ?_
     rintro v' L' ⟨a2, c3, rfl, rfl⟩
     refine ge ?_
     refine Eb kr_ rfl rfl (sameIntsR (xs := handF x2 m' f') (ys := handF x2 m' f') (a := a1) (b := a2) (handF_len (by omega) qg)) (ge ?_)
     rw [dt rfl]
     refine go ?_
     refine Sx.ld rfl (RFrO.done (b := bb) (s := f') q4) rfl ?_
     have eY : updF Y who (ad bb) = Y := by rw [← hYw]; exact updF_id Y who
     obtain ⟨hsz1', hsz2'⟩ := fp_len hst (by omega)
     have hY' : ∀ j, j < 3 → (updG ws who ((ws who).go S' f') j).on = true → ∃ b, Y j = ad b := fun j hj hjo => by
      by_cases hjw : j = who
      ·subst hjw; exact ⟨bb, hYw⟩
      ·rw [updG_ne hjw] at hjo; exact hY j hj hjo
     cases hq : f'.done with
     | false =>
       refine go ?_
       have exv : fps ws bs = fps (updG ws who ((ws who).go S' f')) bs := fps_same hw3 (by show (!f'.done) = _; rw [hq, hon]; rfl)
       have hb := fp_back (n := nn) (e := e) (x := x2) (Q := Q) (ws := ws) (bs := bs) (Y := Y) (i := who) (b := bs who) (w := (ws who).go S' f') (y := ad bb)
        (s := [pt (ad (Q who).u) (SupO nn.mp (Q who).pb x2 S'), pt (ad (Q who).s) (RSupO nn.w S'), pt (ad (Q who).pb) (SkO nn.mp x2.pool), pt (some ⟨bs who, 0, none⟩) (FrO (fH nn e (Q who)) x2 (ws who).k (ws who).g f'), pt (ad bb) (RFrO (Q who).s nn.w nn.rs nn.rp (ws who).k (ws who).g f')]) (G := [Old w]) hw3 (fun G => by
         simp only [fpW, fpR, Fk.go, hq, Bool.not_false, if_true, lc, ln]
         exact Er _)
       rw [updN_id, eY] at hb
       have hb2 : ∀ L, Ent L _ → Ent L _ := fun L h => Et h hb
       refine Se_ (M := fpF x2 nn e r r2 c c2 Q gb sb gnb xb yb m' (updG ws who ((ws who).go S' f')) bs Y [Old w]) ?_ (Sa rfl (fpSame (by omega) hsz1' hsz2') ?_)
       ·dsimp only [fpF]
        rw [← exv]
        iterate 18 (refine Em ?_)
        refine hb2 _ ?_
        exact entm
       rintro v' L' ⟨rfl, rfl⟩
       refine go ?_
       rw [w64 (n := (i : Int) + 1) (by omega) (by omega)]
       exact Kn ⟨⟨i + 1, m', updG ws who ((ws who).go S' f'), bs, Y⟩, ⟨(by dsimp only; omega), hst, (by dsimp only; omega), hY'⟩⟩ sb9 (Er _) (by dsimp only; omega)
     | true =>
       refine go ?_
       refine Xd rfl kr_ (ge ?_)
       refine Eb kr_ rfl rfl (frCodeD (b := bs who) (s := f') hq) (ge ?_)
       refine Ev.ldH kr_ rfl rfl (RFrO.code (b := bb) (s := f') q4) rfl (ge ?_)
       refine Xn rfl (by simp) (go ?_)
       refine gg ?_
       have hxs : (fps ws bs).set (0 + (who : Int).toNat * 1) (.pointer none) = fps (updG ws who ((ws who).go S' f')) bs := by
        have := fps_set (ws := ws) (bs := bs) (i := who) (b := bs who) (w := (ws who).go S' f') hw3
        simp only [Fk.go, hq, Bool.not_true, bf, if_false, updN_id] at this ⊢
        exact this
       refine Sx.stb (b := xb) rfl rfl rfl rfl (fps_blt hw3) hxs (go ?_)
       have hb := fp_back (n := nn) (e := e) (x := x2) (Q := Q) (ws := ws) (bs := bs) (Y := Y) (i := who) (b := bs who) (w := (ws who).go S' f') (y := ad bb)
        (s := [pt (ad (Q who).u) (SupO nn.mp (Q who).pb x2 S'), pt (ad (Q who).s) (RSupO nn.w S'), pt (ad (Q who).pb) (SkO nn.mp x2.pool)]) (G := [Old w]) hw3 (fun G => by
         simp only [fpW, fpR, Fk.go, hq, Bool.not_true, bf, if_false, lc, ln]
         exact Er _)
       rw [updN_id, eY] at hb
       have hb2 : ∀ L, Ent L _ → Ent L _ := fun L h => Et h hb
       refine Se_ (M := fpF x2 nn e r r2 c c2 Q gb sb gnb xb yb m' (updG ws who ((ws who).go S' f')) bs Y [Old w]) ?_ (Sa rfl (fpSame (by omega) hsz1' hsz2') ?_)
       ·dsimp only [fpF]
        iterate 18 (refine Em ?_)
        refine hb2 _ ?_
        exact entm
       rintro v' L' ⟨rfl, rfl⟩
       refine go ?_
       rw [w64 (n := (i : Int) + 1) (by omega) (by omega)]
       exact Kn ⟨⟨i + 1, m', updG ws who ((ws who).go S' f'), bs, Y⟩, ⟨(by dsimp only; omega), hst, (by dsimp only; omega), hY'⟩⟩ sb9 (Er _) (by dsimp only; omega)
    ·-- a Free begins
     have hoff : (ws who).on = false := by
      cases hq : (ws who).on with
      | true => exact absurd hq hon
      | false => rfl
     have hxv : (fps ws bs)[0 + (who : Int).toNat * 1]? = some (.pointer none) := by rw [fps_get hw3, hoff]; rfl
     have hpu : (ptrs 3 fun i => (Q i).u)[0 + (who : Int).toNat * 1]? = some (zp (Q who).u) := by
      rw [show 0 + (who : Int).toNat * 1 = who by omega]; exact ptrs_get hw3
     have hps : (ptrs 3 fun i => (Q i).s)[0 + (who : Int).toNat * 1]? = some (zp (Q who).s) := by
      rw [show 0 + (who : Int).toNat * 1 = who by omega]; exact ptrs_get hw3
     have hv2 : Int.tmod (v : Int) 3 = ((v % 3 : Nat) : Int) := rfl
     obtain ⟨k, hk, hk2⟩ : ∃ k, v % 3 = k ∧ k < 3 := ⟨_, rfl, by omega⟩
     rw [hk] at hv2
     have hsl : [(Value.int .i64 ((0 : Nat) : Int)), ii ((1 : Nat) : Int), ii ((2 : Nat) : Int)][0 + (k : Int).toNat * 1]? = some (ii (k : Nat)) := by
      rcases (show k = 0 ∨ k = 1 ∨ k = 2 by omega) with rfl | rfl | rfl <;> rfl
     have hgn : [(Value.int .i64 ((1 : Nat) : Int)), ii ((1 : Nat) : Int), ii ((1 : Nat) : Int)][0 + (k : Int).toNat * 1]? = some (ii ((1 : Nat) : Int)) := by
      rcases (show k = 0 ∨ k = 1 ∨ k = 2 by omega) with rfl | rfl | rfl <;> rfl
     refine Xe (Ent.ith who hw3) ?_
     simp only [fpW, fpR, hoff, bf, if_false, lc, ln]
     refine go ?_
     refine gg ?_
     refine Sx.ldb rfl hxv (go ?_)
     refine Xd rfl kr_ (ge ?_)
     rw [hv2]
     refine Ev.ldbH (b := gnb) kr_ rfl rfl hgn (ge ?_)
     refine go ?_
     refine Sv rfl (by omega) (go ?_)
     refine Sv rfl (by omega) (go ?_)
     refine Xi rfl (fun hv5 => ?_) (fun hv5 => ?_)
     ·obtain ⟨g, hg, hg12⟩ : ∃ g : Int, IntKind.i64.wrap (((1 : Nat) : Int) + 1) = g ∧ (g = 1 ∨ g = 2) := ⟨_, rfl, .inr rfl⟩
      refine go ?_
      rw [hg]
      refine go ?_
      refine Xd rfl kr_ (ge ?_)
      refine El (b := r) kr_ rfl rfl hpu (ge ?_)
      refine Ev.ldbH (b := sb) kr_ rfl rfl hsl (ge ?_)
      refine Ea kr_ rfl rfl (endsFree (h := fH nn e (Q who)) (x := x2) k g (by omega)) (Pd kr_) ?_
      rintro v' L' ⟨b, rfl, rfl⟩
      refine ge ?_
      refine go ?_
      refine Sa rfl (frDoneQ (b := b) (h := fH nn e (Q who)) (x := x2) (slot := k) (gen := g) (s := FrS.init) (fun _ => Nat.zero_le _)) ?_
      rintro v' L' ⟨rfl, rfl⟩
      refine go ?_
      refine Cx.orde rfl kr_ (ge ?_)
      refine El (b := r2) kr_ rfl rfl hps (ge ?_)
      refine Ev.ldbH (b := sb) kr_ rfl rfl hsl (ge ?_)
      refine Ev.bring 1 rfl (ge ?_)
      refine Ea kr_ rfl rfl (refSupFree (sa := (Q who).s) (w := nn.w) (rs := nn.rs) (rp := nn.rp) (S := (ws who).s) k g) (Pd kr_) ?_
      rintro v' L' ⟨bb, rfl, rfl⟩
      refine ge ?_
      refine Es (b := xb) kr_ rfl rfl rfl rfl rfl (fps_blt hw3) (fps_set (ws := ws) (bs := bs) (b := b) (w := ⟨(ws who).s, true, k, g, FrS.init⟩) hw3) (Pd kr_) (ge ?_)
      refine Es (b := yb) kr_ rfl rfl rfl rfl rfl (yvs_blt hw3) (yvs_set (Y := Y) (o := ad bb) hw3) (Pd kr_) (ge ?_)
      refine go ?_
      have hF' := hF.begin_ hw3 hoff (k := k) (g := g) hk2 hg12
      obtain ⟨hsz1', hsz2'⟩ := fp_len hF' (by omega)
      have hb := fp_back (n := nn) (e := e) (x := x2) (Q := Q) (ws := ws) (bs := bs) (Y := Y) (i := who) (b := b) (w := ⟨(ws who).s, true, k, g, FrS.init⟩) (y := ad bb)
       (s := [pt (ad (Q who).u) (SupO nn.mp (Q who).pb x2 (ws who).s), pt (ad (Q who).s) (RSupO nn.w (ws who).s), pt (ad (Q who).pb) (SkO nn.mp x2.pool), pt (ad b) (FrO (fH nn e (Q who)) x2 k g FrS.init), pt (ad bb) (RFrO (Q who).s nn.w nn.rs nn.rp k g FrS.init)]) (G := [Old w]) hw3 (fun G => Er _)
      have hb2 : ∀ L, Ent L _ → Ent L _ := fun L h => Et h hb
      refine Se_ (M := fpF x2 nn e r r2 c c2 Q gb sb gnb xb yb m (updG ws who ⟨(ws who).s, true, k, g, FrS.init⟩) (updN bs who b) (updF Y who (ad bb)) [Old w]) ?_ (Sa rfl (fpSame (by omega) hsz1' hsz2') ?_)
      ·dsimp only [fpF]
       iterate 18 (refine Em ?_)
       refine hb2 _ ?_
       exact entm
      rintro v' L' ⟨rfl, rfl⟩
      refine go ?_
      rw [w64 (n := (i : Int) + 1) (by omega) (by omega)]
      refine Kn ⟨⟨i + 1, m, updG ws who ⟨(ws who).s, true, k, g, FrS.init⟩, updN bs who b, updF Y who (ad bb)⟩, ⟨(by dsimp only; omega), hF', (by dsimp only; omega), fun j hj hjo => ?_⟩⟩ sb9 (Er _) (by dsimp only; omega)
      by_cases hjw : j = who
      ·subst hjw; exact ⟨bb, updF_at _ _ _⟩
      ·show ∃ b1, updF Y who (ad bb) j = ad b1
       rw [updF_ne hjw]
       refine hY j hj ?_
       dsimp only at hjo
       rw [updG_ne hjw] at hjo
       exact hjo
     ·have hg12 : ((1 : Nat) : Int) = 1 ∨ ((1 : Nat) : Int) = 2 := .inl rfl
      refine go ?_
      refine Xd rfl kr_ (ge ?_)
      refine El (b := r) kr_ rfl rfl hpu (ge ?_)
      refine Ev.ldbH (b := sb) kr_ rfl rfl hsl (ge ?_)
      refine Ea kr_ rfl rfl (endsFree (h := fH nn e (Q who)) (x := x2) k ((1 : Nat) : Int) (by omega)) (Pd kr_) ?_
      rintro v' L' ⟨b, rfl, rfl⟩
      refine ge ?_
      refine go ?_
      refine Sa rfl (frDoneQ (b := b) (h := fH nn e (Q who)) (x := x2) (slot := k) (gen := ((1 : Nat) : Int)) (s := FrS.init) (fun _ => Nat.zero_le _)) ?_
      rintro v' L' ⟨rfl, rfl⟩
      refine go ?_
      refine Cx.orde rfl kr_ (ge ?_)
      refine El (b := r2) kr_ rfl rfl hps (ge ?_)
      refine Ev.ldbH (b := sb) kr_ rfl rfl hsl (ge ?_)
      refine Ev.bring 1 rfl (ge ?_)
      refine Ea kr_ rfl rfl (refSupFree (sa := (Q who).s) (w := nn.w) (rs := nn.rs) (rp := nn.rp) (S := (ws who).s) k ((1 : Nat) : Int)) (Pd kr_) ?_
      rintro v' L' ⟨bb, rfl, rfl⟩
      refine ge ?_
      refine Es (b := xb) kr_ rfl rfl rfl rfl rfl (fps_blt hw3) (fps_set (ws := ws) (bs := bs) (b := b) (w := ⟨(ws who).s, true, k, ((1 : Nat) : Int), FrS.init⟩) hw3) (Pd kr_) (ge ?_)
      refine Es (b := yb) kr_ rfl rfl rfl rfl rfl (yvs_blt hw3) (yvs_set (Y := Y) (o := ad bb) hw3) (Pd kr_) (ge ?_)
      refine go ?_
      have hF' := hF.begin_ hw3 hoff (k := k) (g := ((1 : Nat) : Int)) hk2 hg12
      obtain ⟨hsz1', hsz2'⟩ := fp_len hF' (by omega)
      have hb := fp_back (n := nn) (e := e) (x := x2) (Q := Q) (ws := ws) (bs := bs) (Y := Y) (i := who) (b := b) (w := ⟨(ws who).s, true, k, ((1 : Nat) : Int), FrS.init⟩) (y := ad bb)
       (s := [pt (ad (Q who).u) (SupO nn.mp (Q who).pb x2 (ws who).s), pt (ad (Q who).s) (RSupO nn.w (ws who).s), pt (ad (Q who).pb) (SkO nn.mp x2.pool), pt (ad b) (FrO (fH nn e (Q who)) x2 k ((1 : Nat) : Int) FrS.init), pt (ad bb) (RFrO (Q who).s nn.w nn.rs nn.rp k ((1 : Nat) : Int) FrS.init)]) (G := [Old w]) hw3 (fun G => Er _)
      have hb2 : ∀ L, Ent L _ → Ent L _ := fun L h => Et h hb
      refine Se_ (M := fpF x2 nn e r r2 c c2 Q gb sb gnb xb yb m (updG ws who ⟨(ws who).s, true, k, ((1 : Nat) : Int), FrS.init⟩) (updN bs who b) (updF Y who (ad bb)) [Old w]) ?_ (Sa rfl (fpSame (by omega) hsz1' hsz2') ?_)
      ·dsimp only [fpF]
       iterate 18 (refine Em ?_)
       refine hb2 _ ?_
       exact entm
      rintro v' L' ⟨rfl, rfl⟩
      refine go ?_
      rw [w64 (n := (i : Int) + 1) (by omega) (by omega)]
      refine Kn ⟨⟨i + 1, m, updG ws who ⟨(ws who).s, true, k, ((1 : Nat) : Int), FrS.init⟩, updN bs who b, updF Y who (ad bb)⟩, ⟨(by dsimp only; omega), hF', (by dsimp only; omega), fun j hj hjo => ?_⟩⟩ sb9 (Er _) (by dsimp only; omega)
      by_cases hjw : j = who
      ·subst hjw; exact ⟨bb, updF_at _ _ _⟩
      ·show ∃ b1, updF Y who (ad bb) j = ad b1
       rw [updF_ne hjw]
       refine hY j hj ?_
       dsimp only at hjo
       rw [updG_ne hjw] at hjo
       exact hjo
  ·-- the end
   obtain rfl : i = xs.length := by omega
   have hll : (listK x2.pool m).length ≤ 1000000000 := by
    have : (listK x2.pool m).length ≤ x2.c := walkL_le _ _ _ _
    omega
   refine go ?_
   refine Xd rfl kr_ (ge ?_)
   refine Ev.yes 252 rfl rfl (ge ?_)
   iterate 7 (refine Ev.bring 1 rfl ?_; refine ge ?_)
   refine Ea kr_ rfl rfl (stackList (sb := nn.pb) (mp := nn.mp) (k := x2.pool) (m := m) (hx2.pool (by omega) (by omega))) (.keep (fun v L' ⟨_, _, _, e⟩ => by subst e; exact Has.cell rfl) (.keep (fun v L' ⟨_, _, _, e⟩ => by subst e; exact Has.cell rfl) (Pd kr_))) ?_
   rintro v' L' ⟨ro, co, rfl, rfl⟩
   refine ge ?_
   refine Ea kr_ rfl rfl (refStackList (sb := nn.rp) (rm := nn.rm) (k := x2.pool) (m := m) (hx2.pool (by omega) (by omega))) (Pd kr_) ?_
   rintro v' L' ⟨ro2, co2, rfl, rfl⟩
   refine ge ?_
   refine Eb kr_ rfl rfl (sameIntsR (xs := listK x2.pool m) (ys := listK x2.pool m) (a := ro) (b := ro2) hll) (ge ?_)
   rw [dt rfl]
   refine go ?_
   exact Ko rfl (Er _) ⟨rfl, entm⟩
end
end
end Go.Proofs.YtflalhdofhobmaaGreat
