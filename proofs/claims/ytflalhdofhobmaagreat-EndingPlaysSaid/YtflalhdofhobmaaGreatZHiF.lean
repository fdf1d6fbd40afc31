/-
  Parts of the proof, merged: what the statement leans on.
-/
import Derived.Test.YtflalhdofhobmaaGreatZHiE
set_option linter.unusedVariables false
set_option linter.unusedSimpArgs false

namespace Go.Proofs.YtflalhdofhobmaaGreat
section
open Go
attribute [local irreducible] Sx Cx Rx Fx Krg Ksq Kbl Klp Kr
section
variable {L F G : St}
abbrev enF (nx n1 n2 n3 : Value) (r slot : Nat) (gen : Int) (cnt : Int) (was : Nat) (rt : Rt) (code : Nat) (chunk : Int) (point : Nat) : List Value :=
 [nx, n1, n2, n3, ii cnt, zp r, ii (slot : Nat), ii gen, wd was, ii (rt.gen : Nat), ii (rt.mrk : Nat), ii (rt.cl : Nat), ii (rt.off : Nat), ii (code : Nat), ii chunk, ii (point : Nat)]
abbrev enB (b : Nat) (nx n1 n2 n3 : Value) (r slot : Nat) (gen : Int) (cnt : Int) (was : Nat) (rt : Rt) (code : Nat) (chunk : Int) (point : Nat) : As := pt (ad b) (Blk 173 (enF nx n1 n2 n3 r slot gen cnt was rt code chunk point))
def enL (nx : Value) (T : TypeId) (r slot : Nat) (gen : Int) (e : EndS) (a : OA) (y : Value × Value × Value) : St :=
 [pt a (Blk T (enF nx y.1 y.2.1 y.2.2 r slot gen (e.cnt : Nat) e.was (rtOf e.was) e.code e.chunk e.point))]
def EndT (T : TypeId) (r slot : Nat) (gen : Int) (e : EndS) (a : OA) : As := bif e.done then exs (enL .nilFunc T r slot gen e a) else match e.at_ with
 | 0 => exs (enL (.func (.func 105) #[.pointer a] #[]) T r slot gen e a) | _ => exs (enL (.func (.func 176) #[.pointer a] #[]) T r slot gen e a)
abbrev EndO := EndT 173
section
variable {T : TypeId} {r slot : Nat} {gen : Int} {e : EndS} {a : OA}
theorem EndO.l (h : e.done = false) (h0 : e.at_ = 0) : EndT T r slot gen e a = exs (enL (.func (.func 105) #[.pointer a] #[]) T r slot gen e a) := by unfold EndT; rw [h, h0]; rfl
theorem EndO.c (h : e.done = false) (h0 : e.at_ = 1) : EndT T r slot gen e a = exs (enL (.func (.func 176) #[.pointer a] #[]) T r slot gen e a) := by unfold EndT; rw [h, h0]; rfl
theorem EndO.d (h : e.done = true) : EndT T r slot gen e a = exs (enL .nilFunc T r slot gen e a) := by unfold EndT; rw [h]; rfl
end
section
variable {b r slot was code point : Nat} {gen cnt chunk : Int} {n1 n2 n3 : Value} {rt : Rt}
theorem EndO.closeL (e : EndS) (h : e.done = false) (h0 : e.at_ = 0) (e1 : cnt = (e.cnt : Nat)) (e2 : was = e.was) (e3 : rt = rtOf e.was) (e4 : code = e.code) (e5 : chunk = e.chunk) (e6 : point = e.point) :
  Ent (enB b (mth 105 b) n1 n2 n3 r slot gen cnt was rt code chunk point :: G) (pt (ad b) (EndO r slot gen e) :: G) := by
 subst e1 e2 e3 e4 e5 e6
 exact Ent.close (f := enL (mth 105 b) 173 r slot gen e (ad b)) (EndO.l h h0) (n1, n2, n3)
theorem EndO.closeC (e : EndS) (h : e.done = false) (h0 : e.at_ = 1) (e1 : cnt = (e.cnt : Nat)) (e2 : was = e.was) (e3 : rt = rtOf e.was) (e4 : code = e.code) (e5 : chunk = e.chunk) (e6 : point = e.point) :
  Ent (enB b (mth 176 b) n1 n2 n3 r slot gen cnt was rt code chunk point :: G) (pt (ad b) (EndO r slot gen e) :: G) := by
 subst e1 e2 e3 e4 e5 e6
 exact Ent.close (f := enL (mth 176 b) 173 r slot gen e (ad b)) (EndO.c h h0) (n1, n2, n3)
theorem EndO.closeD (e : EndS) (h : e.done = true) (e1 : cnt = (e.cnt : Nat)) (e2 : was = e.was) (e3 : rt = rtOf e.was) (e4 : code = e.code) (e5 : chunk = e.chunk) (e6 : point = e.point) :
  Ent (enB b .nilFunc n1 n2 n3 r slot gen cnt was rt code chunk point :: G) (pt (ad b) (EndO r slot gen e) :: G) := by
 subst e1 e2 e3 e4 e5 e6
 exact Ent.close (f := enL .nilFunc 173 r slot gen e (ad b)) (EndO.d h) (n1, n2, n3)
end
structure EndS.ok (e : EndS) : Prop where
 a : e.at_ ≤ 1
 w : e.was < 18446744073709551616
 g : e.at_ = 1 → (rtOf e.was).mrk ≤ 4097
 n : e.cnt ≤ 1000000
theorem rootsIs {g mp sb : Nat} {x : Cn} (s : Int) [c : Take L (ad g) (RoO mp sb x) F] :
  FX 104 [zp g, ii s] L (fun v L' => v = .bool (decide (0 ≤ s ∧ s < x.sl)) ∧ L = L') := by
 refine Fx.kept (t := c) ?_
 refine Fm Tryz.func104 k104 ?_
 dsimp only [c104, eL]
 refine Xe (Eo c.out) (go ?_)
 by_cases h0 : 0 ≤ s
 ·refine Sx.gyes rfl (dt h0) (go ?_)
  refine Ko rfl (Er _) ⟨?_, rfl⟩
  congr 1
  exact decide_eq_decide.2 ⟨fun h => ⟨h0, h⟩, fun h => h.2⟩
 ·refine Sx.gno rfl (dz h0) (go ?_)
  refine Ko rfl (Er _) ⟨?_, rfl⟩
  rw [dz (fun h => h0 h.1)]
theorem rootsEnd {g mp sb : Nat} {x : Cn} (slot : Nat) (gen : Int) (hs : slot < x.sl) [c : Take L (ad g) (RoO mp sb x) F] :
  FX 35 [zp g, ii slot, ii gen] L (fun v L' => ∃ b, v = .tuple #[zp b, ii 0] ∧ L' = pt (ad b) (EndO g slot gen EndS.init) :: L) := by
 refine Fm Tryz.func35 k35 ?_
 dsimp only [c35, eL]
 refine go ?_
 refine Sa rfl (rootsIs (g := g) (mp := mp) (sb := sb) (x := x) (slot : Int)) ?_
 rintro v L' ⟨rfl, rfl⟩
 rw [dt (show (0 : Int) ≤ slot ∧ (slot : Int) < x.sl by omega)]
 refine go ?_
 refine Sx.bx rfl rfl fun b => ?_
 refine Sr (enF .nilFunc .nilFunc .nilFunc .nilFunc g slot gen 0 0 (rtOf 0) 0 (-1) 0) rfl (go ?_)
 refine Sa rfl (machGo (b := b)) ?_
 rintro v L' ⟨rfl, rfl⟩
 refine go ?_
 refine Kr.two (.inr rfl) rfl rfl ?_ ⟨b, rfl, rfl⟩
 exact EndO.closeL (b := b) (r := g) (slot := slot) (gen := gen) (rt := rtOf 0) EndS.init rfl rfl rfl rfl rfl rfl rfl rfl
theorem endLoad_ {b r mp sp slot : Nat} {gen : Int} {x : Cn} {m : Mm} {e : EndS} {n1 n2 n3 : Value} {cnt : Int} (hcnt : cnt = ((e.cnt + 1 : Nat) : Int)) (hd : e.done = false) (hx : x.ok) (hm : m.ok) (hl : x.len ≤ m.ws.length) (hs : slot < x.sl) :
  FX 105 [zp b] (enB b .nilFunc n1 n2 n3 r slot gen cnt e.was (rtOf e.was) e.code e.chunk e.point :: pt (ad r) (RoO mp sp x) :: pt (ad mp) (MemO m) :: G)
   (fun v L' => L' = pt (ad b) (EndO r slot gen (if (rtOf (m.at_ (x.root + slot))).live gen then { e with cnt := e.cnt + 1, was := m.at_ (x.root + slot), at_ := 1 } else { e with cnt := e.cnt + 1, was := m.at_ (x.root + slot), code := 3, point := e.cnt + 1, done := true })) :: pt (ad mp) (MemO m.tick) :: pt (ad r) (RoO mp sp x) :: G) := by
 subst hcnt
 have hwl := Ml hm (x.root + slot)
 refine Fm Tryz.func105 k105 ?_
 dsimp only [c105, eL]
 refine Cx.sq ?_
 refine Xd rfl kr_ (ge ?_)
 refine Ea kr_ rfl rfl (rootsLoad (g := r) (mp := mp) (sb := sp) (x := x) (m := m) slot hs hx hm hl) (Pd kr_) ?_
 rintro v L' ⟨rfl, rfl⟩
 obtain ⟨W, hW⟩ : ∃ W, m.at_ (x.root + slot) = W := ⟨_, rfl⟩
 rw [hW] at hwl ⊢
 refine ge ?_
 refine Es (b := b) kr_ rfl rfl rfl rfl rfl (by rfl) rfl (.keep (fun v L' ⟨_, e⟩ => by subst e; exact Has.cell rfl) (.keep (fun v L' ⟨_, e⟩ => by subst e; exact Has.cell rfl) .nil)) (ge ?_)
 refine Ev.stnH (b := b) (enF .nilFunc n1 n2 n3 r slot gen ((e.cnt + 1 : Nat) : Int) W (rtOf W) e.code e.chunk e.point) kr_ rfl rfl rfl rfl rfl rfl rfl rfl (Pd kr_) (ge ?_)
 refine Cx.sq ?_
 refine Cx.sq ?_
 refine Xd rfl kr_ (ge ?_)
 refine Eb kr_ rfl rfl (wordLive (rtOf W) gen) (ge ?_)
 by_cases hlive : (rtOf W).live gen
 case neg =>
  rw [dz hlive, if_neg hlive]
  refine go ?_
  refine Sa rfl (machCount (b := b)) ?_
  rintro v' L' ⟨rfl, rfl⟩
  refine go ?_
  refine Kr.none (.inr rfl) ?_ rfl
  refine Et (Ek (a := ad b)) ?_
  refine Et (EndO.closeD (rt := rtOf W) { e with cnt := e.cnt + 1, was := W, code := 3, point := e.cnt + 1, done := true } rfl rfl rfl rfl rfl rfl rfl) (Ec ?_)
  exact ent
 case pos =>
  rw [dt hlive, if_pos hlive]
  refine go ?_
  refine Sa rfl (machGo (b := b)) ?_
  rintro v' L' ⟨rfl, rfl⟩
  refine go ?_
  refine Kr.none (.inl rfl) ?_ rfl
  refine Et (Ek (a := ad b)) ?_
  refine Et (EndO.closeC (rt := rtOf W) { e with cnt := e.cnt + 1, was := W, at_ := 1 } hd rfl rfl rfl rfl rfl rfl rfl) (Ec ?_)
  exact ent
theorem endCas_ {b r mp sp slot : Nat} {gen : Int} {x : Cn} {m : Mm} {e : EndS} {n1 n2 n3 : Value} {cnt : Int} (hcnt : cnt = ((e.cnt + 1 : Nat) : Int)) (hd : e.done = false) (h1 : e.at_ = 1) (hx : x.ok) (hl : x.len ≤ m.ws.length) (hs : slot < x.sl) (hw : e.was < 18446744073709551616) :
  FX 176 [zp b] (enB b .nilFunc n1 n2 n3 r slot gen cnt e.was (rtOf e.was) e.code e.chunk e.point :: pt (ad r) (RoO mp sp x) :: pt (ad mp) (MemO m) :: G)
   (fun v L' => L' = pt (ad b) (EndO r slot gen (if m.at_ (x.root + slot) = e.was then { e with cnt := e.cnt + 1, chunk := (rtOf e.was).chunk, point := e.cnt + 1, done := true } else { e with cnt := e.cnt + 1, at_ := 0 })) :: pt (ad mp) (MemO (m.cas (x.root + slot) e.was (Rt.w ⟨(rtOf e.was).gen, 0, 0, 0⟩))) :: pt (ad r) (RoO mp sp x) :: G) := by
 subst hcnt
 have hsz : x.root + x.sl ≤ x.len := by unfold Cn.root Cn.len; omega
 have hR : Rt.ok ⟨(rtOf e.was).gen, 0, 0, 0⟩ := ⟨rtOf_gen hw, by show 0 ≤ 4097; omega, by show 0 ≤ 3; omega, by show 0 ≤ 1024; omega⟩
 refine Fm Tryz.func176 k176 ?_
 dsimp only [c176, eL]
 refine go ?_
 refine Sa (vs := [rtV ⟨(rtOf e.was).gen, 0, 0, 0⟩]) rfl (putRoot ⟨(rtOf e.was).gen, 0, 0, 0⟩ hR) ?_
 rintro v L' ⟨rfl, rfl⟩
 refine go ?_
 refine Xd rfl kr_ (ge ?_)
 refine Eb kr_ rfl rfl (layRootN hx slot hs) (ge ?_)
 refine Ea kr_ rfl rfl (cellsCas (b := mp) (m := m) (x.root + slot) e.was (Rt.w ⟨(rtOf e.was).gen, 0, 0, 0⟩) (by omega) (Rt.w_lt hR)) (Pd kr_) ?_
 rintro v L' ⟨rfl, rfl⟩
 refine ge ?_
 refine go ?_
 by_cases hc : m.at_ (x.root + slot) = e.was
 case neg =>
  rw [dz hc, if_neg hc]
  refine go ?_
  refine Sa rfl (machGo (b := b)) ?_
  rintro v' L' ⟨rfl, rfl⟩
  refine go ?_
  refine Kr.none (.inr rfl) ?_ rfl
  refine Et (Ek (a := ad b)) ?_
  refine Et (EndO.closeL (rt := rtOf e.was) { e with cnt := e.cnt + 1, at_ := 0 } hd rfl rfl rfl rfl rfl rfl rfl) (Ec ?_)
  exact ent
 case pos =>
  rw [dt hc, if_pos hc]
  refine go ?_
  refine Cx.orde rfl kr_ (ge ?_)
  refine Eb kr_ rfl rfl (wordChunk (rtOf e.was) (rtOf_mrk _)) (ge ?_)
  refine Eb kr_ rfl rfl (machCount (b := b)) (ge ?_)
  refine Es (b := b) kr_ rfl rfl rfl rfl rfl (by rfl) rfl (.keep (fun v L' ⟨_, e⟩ => by subst e; exact machCount (b := b)) (.dep rfl (.dep rfl .nil))) (ge ?_)
  refine Es (b := b) kr_ rfl rfl rfl rfl rfl (by rfl) rfl (Pd kr_) (ge ?_)
  refine Kr.none (.inl rfl) ?_ rfl
  refine Et (Ek (a := ad b)) ?_
  refine Et (EndO.closeD (rt := rtOf e.was) { e with cnt := e.cnt + 1, chunk := (rtOf e.was).chunk, point := e.cnt + 1, done := true } rfl rfl rfl rfl rfl rfl rfl) (Ec ?_)
  exact ent
theorem endStepC {b r mp sp slot : Nat} {gen : Int} {x : Cn} {m : Mm} {e : EndS} {F1 F2 : St} (hx : x.ok) (hl : x.len ≤ m.ws.length) (hs : slot < x.sl) (he : e.ok)
  [t1 : Take L (ad b) (EndO r slot gen e) F1] [t2 : Take F1 (ad mp) (MemO m) F2] [t3 : Take F2 (ad r) (RoO mp sp x) G] :
  FX 32 [zp b] L
   (fun v L' => v = .bool (!e.done) ∧ L' = pt (ad b) (EndO r slot gen (endStep (x.root + slot) gen m e).1) :: pt (ad mp) (MemO (endStep (x.root + slot) gen m e).2) :: F2) := by
 have hback : Ent (pt (ad r) (RoO mp sp x) :: G) F2 := Eo t3.back
 obtain ⟨ha, hw, hg, hn⟩ := he
 refine Fm Tryz.func32 k32 ?_
 dsimp only [c32, eL]
 refine Xe (Et (Eo t1.out) (Ec (Et (Eo t2.out) (Ec (Eo t3.out))))) ?_
 refine Cx.pure (memKey (b := mp) (m := m)) fun hm => ?_
 cases hd : e.done with
 | true =>
   have e1 : endStep (x.root + slot) gen m e = (e, m) := by unfold endStep; rw [hd]; rfl
   rw [e1]
   refine Xo (a := ad b) (EndO.d hd) ?_
   rintro ⟨n1, n2, n3⟩
   simp only [enL, lc, ln]
   refine go ?_
   refine Sa rfl (machStepDone (b := b)) ?_
   rintro v L' ⟨rfl, rfl⟩
   refine go ?_
   exact Ko rfl (Et (EndO.closeD e hd rfl rfl rfl rfl rfl rfl) (Ec (Ec hback))) ⟨rfl, rfl⟩
 | false =>
   rcases (show e.at_ = 0 ∨ e.at_ = 1 by omega) with h0 | h0
   ·refine Xo (a := ad b) (EndO.l hd h0) ?_
    rintro ⟨n1, n2, n3⟩
    simp only [enL, lc, ln]
    have e1 : endStep (x.root + slot) gen m e = (if (rtOf (m.at_ (x.root + slot))).live gen then { e with cnt := e.cnt + 1, was := m.at_ (x.root + slot), at_ := 1 } else { e with cnt := e.cnt + 1, was := m.at_ (x.root + slot), code := 3, point := e.cnt + 1, done := true }, m.tick) := by unfold endStep; rw [hd, h0]; rfl
    rw [e1]
    refine Xe (M := enB b (mth 105 b) n1 n2 n3 r slot gen (e.cnt : Nat) e.was (rtOf e.was) e.code e.chunk e.point :: pt (ad r) (RoO mp sp x) :: pt (ad mp) (MemO m) :: G) (by exact ent) (go ?_)
    refine Sa rfl (machStep (b := b) kr_ (endLoad_ (b := b) (r := r) (mp := mp) (sp := sp) (x := x) (m := m) (e := e) (cntW hn) hd hx hm.1 hl hs)) ?_
    rintro v L' ⟨rfl, w, rfl⟩
    refine go ?_
    exact Ko rfl (Ec (Ec hback)) ⟨rfl, rfl⟩
   ·refine Xo (a := ad b) (EndO.c hd h0) ?_
    rintro ⟨n1, n2, n3⟩
    simp only [enL, lc, ln]
    have e1 : endStep (x.root + slot) gen m e = (if m.at_ (x.root + slot) = e.was then { e with cnt := e.cnt + 1, chunk := (rtOf e.was).chunk, point := e.cnt + 1, done := true } else { e with cnt := e.cnt + 1, at_ := 0 }, m.cas (x.root + slot) e.was (Rt.w ⟨(rtOf e.was).gen, 0, 0, 0⟩)) := by unfold endStep; rw [hd, h0]; rfl
    rw [e1]
    refine Xe (M := enB b (mth 176 b) n1 n2 n3 r slot gen (e.cnt : Nat) e.was (rtOf e.was) e.code e.chunk e.point :: pt (ad r) (RoO mp sp x) :: pt (ad mp) (MemO m) :: G) (by exact ent) (go ?_)
    refine Sa rfl (machStep (b := b) kr_ (endCas_ (b := b) (r := r) (mp := mp) (sp := sp) (x := x) (m := m) (e := e) (cntW hn) hd h0 hx hl hs hw)) ?_
    rintro v L' ⟨rfl, w, rfl⟩
    refine go ?_
    exact Ko rfl (Ec (Ec hback)) ⟨rfl, rfl⟩
theorem EndS.ok_init : EndS.init.ok := ⟨by show 0 ≤ 1; omega, by show 0 < 18446744073709551616; omega, (fun h => by cases h), by show 0 ≤ 1000000; omega⟩
theorem endDone {b r slot : Nat} {gen : Int} {e : EndS} {F1 : St} (ha : e.at_ ≤ 1) [t1 : Take L (ad b) (EndO r slot gen e) F1] : FX 34 [zp b] L (fun v L' => v = .bool e.done ∧ L = L') := by
 refine Fx.kept (t := t1) ?_
 refine Fm Tryz.func34 k34 ?_
 dsimp only [c34, eL]
 refine Xe (Eo t1.out) ?_
 cases hd : e.done with
 | true =>
   refine Xo (a := ad b) (EndO.d hd) ?_
   rintro ⟨n1, n2, n3⟩
   simp only [enL, lc, ln]
   refine go ?_
   refine Sa rfl (machDoneYes (b := b)) ?_
   rintro v L' ⟨rfl, rfl⟩
   refine go ?_
   exact Ko rfl (EndO.closeD e hd rfl rfl rfl rfl rfl rfl) ⟨rfl, rfl⟩
 | false =>
   rcases (show e.at_ = 0 ∨ e.at_ = 1 by omega) with h0 | h0
   ·refine Xo (a := ad b) (EndO.l hd h0) ?_
    rintro ⟨n1, n2, n3⟩
    simp only [enL, lc, ln]
    refine go ?_
    refine Sa rfl (machDoneNo (b := b)) ?_
    rintro v L' ⟨rfl, rfl⟩
    refine go ?_
    exact Ko rfl (EndO.closeL e hd h0 rfl rfl rfl rfl rfl rfl) ⟨rfl, rfl⟩
   ·refine Xo (a := ad b) (EndO.c hd h0) ?_
    rintro ⟨n1, n2, n3⟩
    simp only [enL, lc, ln]
    refine go ?_
    refine Sa rfl (machDoneNo (b := b)) ?_
    rintro v L' ⟨rfl, rfl⟩
    refine go ?_
    exact Ko rfl (EndO.closeC e hd h0 rfl rfl rfl rfl rfl rfl) ⟨rfl, rfl⟩
theorem endCode {b r slot : Nat} {gen : Int} {e : EndS} {F1 : St} (hd : e.done = true) [t1 : Take L (ad b) (EndO r slot gen e) F1] : FX 41 [zp b] L (fun v L' => v = ii (e.code : Nat) ∧ L = L') := by
 refine Fx.kept (t := t1) ?_
 refine Fm Tryz.func41 k41 ?_
 dsimp only [c41, eL]
 refine Xe (Eo t1.out) ?_
 refine Xo (a := ad b) (EndO.d hd) ?_
 rintro ⟨n1, n2, n3⟩
 simp only [enL, lc, ln]
 refine go ?_
 exact Ko rfl (EndO.closeD e hd rfl rfl rfl rfl rfl rfl) ⟨rfl, rfl⟩
theorem endChunk {b r slot : Nat} {gen : Int} {e : EndS} {F1 : St} (hd : e.done = true) [t1 : Take L (ad b) (EndO r slot gen e) F1] : FX 43 [zp b] L (fun v L' => v = ii e.chunk ∧ L = L') := by
 refine Fx.kept (t := t1) ?_
 refine Fm Tryz.func43 k43 ?_
 dsimp only [c43, eL]
 refine Xe (Eo t1.out) ?_
 refine Xo (a := ad b) (EndO.d hd) ?_
 rintro ⟨n1, n2, n3⟩
 simp only [enL, lc, ln]
 refine go ?_
 exact Ko rfl (EndO.closeD e hd rfl rfl rfl rfl rfl rfl) ⟨rfl, rfl⟩
end
end
structure WalkS where
 l : List Int
 done : Bool
def behindN (c w : Nat) : Int := if c < w then -1 else (w : Int) - 1
def walkStep (lk c : Nat) (m : Mm) (s : WalkS) : WalkS × Mm :=
 if s.done then (s, m) else
 if 0 ≤ behindN c (m.at_ (lk + (lastI s.l).toNat)) ∧ s.l.length < c then (⟨s.l ++ [behindN c (m.at_ (lk + (lastI s.l).toNat))], false⟩, m.tick) else (⟨s.l, true⟩, m.tick)
structure WalkS.ok (c : Nat) (s : WalkS) : Prop where
 ne : s.l ≠ []
 r : ∀ z ∈ s.l, 0 ≤ z ∧ z < c
 l : s.l.length ≤ c
theorem behindN_lt {c w : Nat} (h : 0 ≤ behindN c w) : behindN c w < c := by
 unfold behindN at h ⊢
 split at h
 ·omega
 ·rw [if_neg (by omega)]; omega
theorem walkStep_ok {lk c : Nat} {m : Mm} {s : WalkS} (h : s.ok c) : (walkStep lk c m s).1.ok c := by
 obtain ⟨h1, h2, h3⟩ := h
 unfold walkStep
 split
 ·exact ⟨h1, h2, h3⟩
 ·split
  ·rename_i h4
   refine ⟨by simp, fun z hz => ?_, by simp; omega⟩
   rcases List.mem_append.1 hz with hz | hz
   ·exact h2 z hz
   ·rw [List.mem_singleton.1 hz]
    exact ⟨h4.1, behindN_lt h4.1⟩
  ·exact ⟨h1, h2, h3⟩
structure FrV where
 cnt : Nat
 tag : Int
 chunk : Int
 slot : Int
 point : Nat
 back : Nat
 code : Nat
structure FrS where
 at_ : Nat
 v : FrV
 e : EndS
 w : WalkS
 p : PushS
 g : PushS
 done : Bool
structure FrP where
 k : Sk
 sp : Sk
 ro : Nat
 lk : Nat
 c : Nat
 slot : Nat
 gen : Int
noncomputable def supRet (s : SupS) (tag : Int) (ys : List Int) : SupS := by
 classical exact if refused s.lm tag ys then s else ⟨s.most, s.xs ++ outM s.lm tag, retireM s.lm tag ys⟩
def WalkS.zero : WalkS := ⟨[], true⟩
def FrS.init : FrS := ⟨0, ⟨0, 0, -1, -1, 0, 0, 0⟩, EndS.init, WalkS.zero, gNone, gNone, false⟩
def frLeave (p : FrP) (v : FrV) (e : EndS) (w : WalkS) : FrS := ⟨3, { v with chunk := -1 }, e, w, PushS.init [(p.slot : Int)], gNone, false⟩
def frEnded (p : FrP) (v : FrV) (e : EndS) : FrS :=
 if e.code ≠ 0 then ⟨0, { v with point := v.cnt, code := e.code }, e, WalkS.zero, gNone, gNone, true⟩
 else if 0 ≤ e.chunk then ⟨1, { v with point := v.cnt, code := 0, slot := p.slot, chunk := e.chunk }, e, WalkS.zero, gNone, gNone, false⟩
 else frLeave p { v with point := v.cnt, code := 0, slot := p.slot } e WalkS.zero
noncomputable def frStep (p : FrP) (m : Mm) (s : SupS) (f : FrS) : Mm × SupS × FrS :=
 if f.done then (m, s, f) else
 let v : FrV := { f.v with cnt := f.v.cnt + 1 }
 match f.at_ with
 | 0 => ((endStep (p.ro + p.slot) p.gen m f.e).2, s, if (endStep (p.ro + p.slot) p.gen m f.e).1.done then frEnded p v (endStep (p.ro + p.slot) p.gen m f.e).1 else ⟨0, v, (endStep (p.ro + p.slot) p.gen m f.e).1, WalkS.zero, gNone, gNone, false⟩)
 | 1 => (m.tick, s, ⟨2, { v with tag := cutE (m.at_ 2) }, f.e, ⟨[v.chunk], false⟩, gNone, gNone, false⟩)
 | 2 => ((walkStep p.lk p.c m f.w).2, if (walkStep p.lk p.c m f.w).1.done then supRet s v.tag (walkStep p.lk p.c m f.w).1.l else s,
   if (walkStep p.lk p.c m f.w).1.done then frLeave p v f.e (walkStep p.lk p.c m f.w).1 else ⟨2, v, f.e, (walkStep p.lk p.c m f.w).1, gNone, gNone, false⟩)
 | 3 => ((pushStep p.sp m f.p).2, if (pushStep p.sp m f.p).1.done then { s with xs := s.xs.drop (overK s.most s.xs) } else s,
   if (pushStep p.sp m f.p).1.done then ⟨4, { v with back := v.cnt, slot := -1 }, f.e, f.w, (pushStep p.sp m f.p).1, giveInit p.k (s.xs.take (overK s.most s.xs)), (giveInit p.k (s.xs.take (overK s.most s.xs))).done⟩
   else ⟨3, v, f.e, f.w, (pushStep p.sp m f.p).1, gNone, false⟩)
 | _ => ((pushStep p.k m f.g).2, s, ⟨4, v, f.e, f.w, f.p, (pushStep p.k m f.g).1, (pushStep p.k m f.g).1.done⟩)
noncomputable def frIt (p : FrP) : Nat → Mm × SupS × FrS → Mm × SupS × FrS
 | 0, r => r
 | j + 1, r => frStep p (frIt p j r).1 (frIt p j r).2.1 (frIt p j r).2.2
section
open Go
attribute [local irreducible] Sx Cx Rx Fx Krg Ksq Kbl Klp Kr
section
variable {L F G : St}
theorem chainIs {g mp sb : Nat} {x : Cn} (s : Int) [c : Take L (ad g) (ChO mp sb x) F] :
  FX 198 [zp g, ii s] L (fun v L' => v = .bool (decide (0 ≤ s ∧ s < x.c)) ∧ L = L') := by
 refine Fx.kept (t := c) ?_
 refine Fm Tryz.func198 k198 ?_
 dsimp only [c198, eL]
 refine Xe (Eo c.out) (go ?_)
 by_cases h0 : 0 ≤ s
 ·refine Sx.gyes rfl (dt h0) (go ?_)
  refine Ko rfl (Er _) ⟨?_, rfl⟩
  congr 1
  exact decide_eq_decide.2 ⟨fun h => ⟨h0, h⟩, fun h => h.2⟩
 ·refine Sx.gno rfl (dz h0) (go ?_)
  refine Ko rfl (Er _) ⟨?_, rfl⟩
  rw [dz (fun h => h0 h.1)]
theorem chainBehind {g mp sb : Nat} {x : Cn} (w : Nat) (hw : w < 18446744073709551616) (hc : x.c ≤ 4096) [c : Take L (ad g) (ChO mp sb x) F] :
  FX 199 [zp g, wd w] L (fun v L' => v = ii (behindN x.c w) ∧ L = L') := by
 refine Fx.kept (t := c) ?_
 refine Fm Tryz.func199 k199 ?_
 dsimp only [c199, eL]
 refine Xe (Eo c.out) (go ?_)
 rw [wrap64 (n := x.c) (by omega)]
 refine Xi rfl (fun h => ?_) (fun h => ?_)
 ·refine go ?_
  exact Ko rfl (Er _) ⟨by unfold behindN; rw [if_pos (by omega)], rfl⟩
 ·refine go ?_
  rw [w64 (n := (w : Int)) (by omega) (by omega), w64 (n := (w : Int) - 1) (by omega) (by omega)]
  exact Ko rfl (Er _) ⟨by unfold behindN; rw [if_neg (by omega)], rfl⟩
def wkNx (a : OA) (s : WalkS) : Value := bif s.done then .nilFunc else .func (.func 255) #[.pointer a] #[]
def wkL (T : TypeId) (ch c : Nat) (s : WalkS) (a : OA) (y : (OA × Nat) × Int) : St :=
 [lift (s.ok c), pt a (Blk T [wkNx a s, .nilFunc, .nilFunc, .nilFunc, ii y.2, zp ch, .slice y.1.1 s.l.length y.1.2]), pt y.1.1 (Row 3 1 s.l.length y.1.2 (ints s.l))]
def WalkT (T : TypeId) (ch c : Nat) (s : WalkS) (a : OA) : As := exs (wkL T ch c s a)
abbrev WalkO := WalkT 292
theorem WalkO.close {T : TypeId} {ch k : Nat} {a r : OA} {c n : Nat} {cnt : Int} {v0 : Value} {w : List Value} {F G : St} (s : WalkS) (hs : s.ok k)
  [t : Take L a (Blk T [v0, .nilFunc, .nilFunc, .nilFunc, ii cnt, zp ch, .slice r n c]) F] [u : Take F r (Row 3 1 n c w) G]
  (h0 : v0 = wkNx a s) (hn : n = s.l.length) (hw : w = ints s.l) : Ent L (pt a (WalkT T ch k s) :: G) := by
 subst h0; subst hn; subst hw
 refine Et (Em (t := t) (Eo u.out)) ?_
 refine Et (Ent.lift hs (Er _)) ?_
 exact Ent.close (f := wkL T ch k s a) rfl ((r, c), cnt)
theorem chainWalk {g mp sb : Nat} {x : Cn} (k : Int) (h0 : 0 ≤ k) (h1 : k < x.c) [c : Take L (ad g) (ChO mp sb x) F] :
  FX 234 [zp g, ii k] L (fun v L' => ∃ b, v = .tuple #[zp b, ii 0] ∧ L' = pt (ad b) (WalkO g x.c ⟨[k], false⟩) :: L) := by
 refine Fm Tryz.func234 k234 ?_
 dsimp only [c234, eL]
 refine go ?_
 refine Sa rfl (chainIs (g := g) (mp := mp) (sb := sb) (x := x) k) ?_
 rintro v L' ⟨rfl, rfl⟩
 rw [dt (show 0 ≤ k ∧ k < x.c by omega)]
 refine go ?_
 refine Sx.bs (sz := 1) rfl rfl fun q => (go ?_)
 refine Sx.bx rfl rfl fun b => ?_
 refine Sr [.nilFunc, .nilFunc, .nilFunc, .nilFunc, ii 0, zp g, .slice (ad q) 1 1] rfl (go ?_)
 refine Sa rfl (machGo (b := b)) ?_
 rintro v L' ⟨rfl, rfl⟩
 refine go ?_
 refine Kr.two (.inr rfl) rfl rfl ?_ ⟨b, rfl, rfl⟩
 exact WalkO.close (a := ad b) (r := ad q) (ch := g) (k := x.c) ⟨[k], false⟩ ⟨by simp, fun z hz => by rw [List.mem_singleton.1 hz]; exact ⟨h0, h1⟩, by show 1 ≤ x.c; omega⟩ rfl rfl rfl
theorem walkLoad_ {b ch mp sb : Nat} {x : Cn} {m : Mm} {s : WalkS} {r : OA} {c : Nat} {cnt : Int} (hm : m.ok) (hx : x.ok) (hl : x.len ≤ m.ws.length) (hs : s.ok x.c) (hd : s.done = false) :
  FX 255 [zp b] (pt (ad b) (Blk 292 [.nilFunc, .nilFunc, .nilFunc, .nilFunc, ii cnt, zp ch, .slice r s.l.length c]) :: pt r (Row 3 1 s.l.length c (ints s.l)) :: pt (ad mp) (MemO m) :: pt (ad ch) (ChO mp sb x) :: G)
   (fun v L' => L' = pt (ad b) (WalkO ch x.c (walkStep x.link x.c m s).1) :: pt (ad mp) (MemO (walkStep x.link x.c m s).2) :: pt (ad ch) (ChO mp sb x) :: G) := by
 obtain ⟨b1, b2, b3, b4, b5, b6, b7⟩ := hx.b
 have hlen := hx.len_le
 have hok := walkStep_ok (lk := x.link) (m := m) hs
 obtain ⟨hne, hrg, hll⟩ := hs
 have hlp := List.length_pos_iff.2 hne
 have hr1 := hrg _ (lastI_mem hne)
 have hsz : x.link + x.c ≤ x.len := by unfold Cn.link Cn.len; omega
 have hx0 : (ints s.l)[s.l.length - 1]? = some (ii (lastI s.l)) := by simp only [ints, List.getElem?_map, lastI_get hne]; rfl
 obtain ⟨y, hy⟩ : ∃ y : Nat, lastI s.l = y := ⟨(lastI s.l).toNat, by omega⟩
 have hlt := Ml hm (x.link + y)
 have hstep : walkStep x.link x.c m s = if 0 ≤ behindN x.c (m.at_ (x.link + y)) ∧ s.l.length < x.c then (⟨s.l ++ [behindN x.c (m.at_ (x.link + y))], false⟩, m.tick) else (⟨s.l, true⟩, m.tick) := by
  unfold walkStep; rw [hd, hy, tn]; simp only [bf, if_false]
 refine Fm Tryz.func255 k255 ?_
 dsimp only [c255, eL]
 refine Cx.rowkey (a := r) fun hxl _ _ hkr => ?_
 obtain ⟨rg, rfl⟩ : ∃ g, r = ad g := by
  rcases hkr with h | h
  ·omega
  ·exact h
 refine go ?_
 refine Xd rfl kr_ (ge ?_)
 rw [w64 (n := (s.l.length : Int) - 1) (by omega) (by omega)]
 refine Ev.pvH kr_ rfl rfl ⟨by omega, by omega⟩ ?_
 refine El (b := rg) kr_ rfl rfl (v := ii (lastI s.l)) (by rw [show 0 + ((s.l.length : Int) - 1).toNat * 1 = s.l.length - 1 by omega]; exact hx0) (ge ?_)
 rw [hy]
 refine Eb kr_ rfl rfl (layLinkN hx y (by omega)) (ge ?_)
 refine Ea kr_ rfl rfl (cellsLoad (b := mp) (m := m) (x.link + y) (by omega)) (Pd kr_) ?_
 rintro v L' ⟨rfl, rfl⟩
 refine ge ?_
 refine go ?_
 refine Sa rfl (chainBehind (g := ch) (mp := mp) (sb := sb) (x := x) (m.at_ (x.link + y)) hlt b2) ?_
 rintro v L' ⟨rfl, rfl⟩
 obtain ⟨Y, hY⟩ : ∃ Y, behindN x.c (m.at_ (x.link + y)) = Y := ⟨_, rfl⟩
 rw [hY] at hstep ⊢
 refine go ?_
 refine Xd rfl kr_ (ge ?_)
 have no : ¬ (0 ≤ Y ∧ s.l.length < x.c) → Ent (pt (ad b) (Blk 292 [.nilFunc, .nilFunc, .nilFunc, .nilFunc, ii cnt, zp ch, .slice (ad rg) s.l.length c]) :: pt (ad rg) (Row 3 1 s.l.length c (ints s.l)) :: pt (ad mp) (MemO m.tick) :: pt (ad ch) (ChO mp sb x) :: G)
   (pt (ad b) (WalkO ch x.c (walkStep x.link x.c m s).1) :: pt (ad mp) (MemO (walkStep x.link x.c m s).2) :: pt (ad ch) (ChO mp sb x) :: G) := fun h => by
  rw [hstep, if_neg h]
  exact WalkO.close (a := ad b) (r := ad rg) (ch := ch) (k := x.c) ⟨s.l, true⟩ ⟨hne, hrg, hll⟩ rfl rfl rfl
 by_cases h0 : 0 ≤ Y
 ·refine Ev.yes 44 rfl (dt h0) (ge ?_)
  refine Xi rfl (fun h1 => ?_) (fun h1 => ?_)
  ·have e : walkStep x.link x.c m s = (⟨s.l ++ [Y], false⟩, m.tick) := by rw [hstep, if_pos ⟨h0, by omega⟩]
   rw [e] at hok ⊢
   refine go ?_
   refine Sx.bs (sz := 1) rfl rfl fun g => ?_
   refine Sx.ap (ra := ad rg) rfl rfl (Rd.row (b := g) (E := 3) (cap := 1) rfl) rfl (by simp [maxLen]; omega) (by omega) fun ra ca hc => (go ?_)
   refine Sa rfl (machGo (b := b)) ?_
   rintro v L' ⟨rfl, rfl⟩
   refine go ?_
   refine Kr.none (.inl rfl) ?_ rfl
   refine Et (WalkO.close (a := ad b) (r := ra) (ch := ch) (k := x.c) ⟨s.l ++ [Y], false⟩ hok rfl (by simp) (by simp [ints_append]; rfl)) (Ec ?_)
   exact ent
  ·refine go ?_
   refine Kr.none (.inl rfl) ?_ rfl
   refine Et ?_ (no (fun h => h1 (by omega)))
   exact ent
 ·refine Ev.no 44 rfl (dz h0) (ge ?_)
  refine go ?_
  refine Kr.none (.inl rfl) ?_ rfl
  refine Et ?_ (no (fun h => h0 h.1))
  exact ent
theorem walkStepC {b ch mp sb : Nat} {x : Cn} {m : Mm} {s : WalkS} {F1 F2 : St} (hx : x.ok) (hl : x.len ≤ m.ws.length) [tp : Take L (ad b) (WalkO ch x.c s) F1] [t : Take F1 (ad mp) (MemO m) F2] [u : Take F2 (ad ch) (ChO mp sb x) G] :
  FX 235 [zp b] L (fun v L' => v = .bool (!s.done) ∧ L' = pt (ad b) (WalkO ch x.c (walkStep x.link x.c m s).1) :: pt (ad mp) (MemO (walkStep x.link x.c m s).2) :: F2) := by
 refine Fm Tryz.func235 k235 ?_
 dsimp only [c235, eL]
 refine Xe (Et (Eo tp.out) (Ec (Et (Eo t.out) (Ec (Eo u.out))))) ?_
 refine Cx.pure (memKey (b := mp) (m := m)) fun hm => ?_
 refine Xo (a := ad b) rfl ?_
 rintro ⟨⟨r, c⟩, cnt⟩
 simp only [wkL, lc, ln]
 refine Cx.liftp fun hs => ?_
 cases hd : s.done with
 | true =>
   have e : walkStep x.link x.c m s = (s, m) := by unfold walkStep; rw [hd]; rfl
   have en : wkNx (ad b) s = .nilFunc := by unfold wkNx; rw [hd]; rfl
   rw [e, en]
   refine go ?_
   refine Sa rfl (machStepDone (b := b)) ?_
   rintro v L' ⟨rfl, rfl⟩
   refine go ?_
   refine Ko rfl ?_ ⟨rfl, rfl⟩
   exact Et (WalkO.close (a := ad b) (r := r) (ch := ch) (k := x.c) s hs en.symm rfl rfl) (Ec (Ec (Eo u.back)))
 | false =>
   have en : wkNx (ad b) s = mth 255 b := by unfold wkNx; rw [hd]; rfl
   rw [en]
   refine go ?_
   refine Sa rfl (machStep (b := b) kr_ (walkLoad_ (b := b) (ch := ch) (mp := mp) (sb := sb) (x := x) (m := m) (s := s) (r := r) (c := c) hm.1 hx hl hs hd)) ?_
   rintro v L' ⟨rfl, w, rfl⟩
   refine go ?_
   exact Ko rfl (Ec (Ec (Eo u.back))) ⟨rfl, rfl⟩
theorem walkDone {b ch c : Nat} {s : WalkS} {F1 : St} [tp : Take L (ad b) (WalkO ch c s) F1] : FX 236 [zp b] L (fun v L' => v = .bool s.done ∧ L = L') := by
 refine Fx.kept (t := tp) ?_
 refine Fm Tryz.func236 k236 ?_
 dsimp only [c236, eL]
 refine Xo (t := tp) rfl ?_
 rintro ⟨⟨r, cp⟩, cnt⟩
 simp only [wkL, lc, ln]
 refine Cx.liftp fun hs => ?_
 cases hd : s.done with
 | true =>
   have en : wkNx (ad b) s = .nilFunc := by unfold wkNx; rw [hd]; rfl
   rw [en]
   refine go ?_
   refine Sa rfl (machDoneYes (b := b)) ?_
   rintro v L' ⟨rfl, rfl⟩
   refine go ?_
   exact Ko rfl (WalkO.close (a := ad b) (r := r) (ch := ch) (k := c) s hs en.symm rfl rfl) ⟨rfl, rfl⟩
 | false =>
   have en : wkNx (ad b) s = mth 255 b := by unfold wkNx; rw [hd]; rfl
   rw [en]
   refine go ?_
   refine Sa rfl (machDoneNo (b := b)) ?_
   rintro v L' ⟨rfl, rfl⟩
   refine go ?_
   exact Ko rfl (WalkO.close (a := ad b) (r := r) (ch := ch) (k := c) s hs en.symm rfl rfl) ⟨rfl, rfl⟩
theorem walkList {b ch c : Nat} {s : WalkS} {F1 : St} (hd : s.done = true) (hc : c ≤ 4096) [tp : Take L (ad b) (WalkO ch c s) F1] : FX 257 [zp b] L
  (fun v L' => ∃ g co, v = .slice (ad g) s.l.length co ∧ s.l.length ≤ c ∧ L' = pt (ad g) (Row 3 1 s.l.length co (ints s.l)) :: pt (ad b) (WalkO ch c s) :: F1) := by
 refine Fm Tryz.func257 k257 ?_
 dsimp only [c257, eL]
 refine go ?_
 refine Sa rfl (walkDone (b := b) (ch := ch) (c := c) (s := s)) ?_
 rintro v L' ⟨rfl, rfl⟩
 rw [hd]
 refine go ?_
 refine Sx.openp (t := tp) rfl ?_
 rintro ⟨⟨r, cp⟩, cnt⟩
 simp only [wkL, lc, ln]
 refine Sx.liftp fun hs => ?_
 have hlen := hs.l
 refine go ?_
 refine Sx.rowkey (a := r) fun hxl _ _ hkr => ?_
 refine Sa rfl (clone (Rd.any (a := r) hxl (hkr.imp (fun h => h.2.1) id)) (ones_ints _) (by omega)) ?_
 rintro v L' ⟨ra, ca, rfl, rfl⟩
 refine Sx.rowkey (a := ra) fun _ _ _ hka => ?_
 have hlp := List.length_pos_iff.2 hs.ne
 obtain ⟨rg, rfl⟩ : ∃ g, ra = ad g := by
  rcases hka with h | h
  ·omega
  ·exact h
 refine go ?_
 refine Ko rfl (Ec (WalkO.close (a := ad b) (r := r) (ch := ch) (k := c) s hs rfl rfl rfl)) ⟨rg, ca, rfl, hs.l, rfl⟩
end
section
variable {L F G : St}
abbrev EnO (mp ro ch : Nat) : OA → As := Blk 197 [zp mp, zp ro, zp ch]
abbrev Cn.fr (x : Cn) (slot : Nat) (gen : Int) : FrP := ⟨x.pool, x.spare, x.root, x.link, x.c, slot, gen⟩
abbrev frF (nx n1 n2 n3 : Value) (eo u slot : Nat) (cnt : Int) (v : FrV) (ep wp gp : Value) : List Value :=
 [nx, n1, n2, n3, ii cnt, zp eo, zp u, ii (slot : Nat), ep, wp, gp, ii v.tag, ii v.chunk, ii v.slot, ii (v.point : Nat), ii (v.back : Nat), ii (v.code : Nat)]
abbrev frB (b : Nat) (nx n1 n2 n3 : Value) (eo u slot : Nat) (cnt : Int) (v : FrV) (ep wp gp : Value) : As := pt (ad b) (Blk 200 (frF nx n1 n2 n3 eo u slot cnt v ep wp gp))
structure FrH where
 eo : Nat
 u : Nat
 mp : Nat
 ro : Nat
 sp : Nat
 ch : Nat
 pb : Nat
def frEL (T : TypeId) (h : FrH) (x : Cn) (slot : Nat) (gen : Int) (s : FrS) (a : OA) (y : Nat) : St :=
 [pt a (Blk T (frF (.func (.func 232) #[.pointer a] #[]) (mth 32 y) (mth 34 y) (.func (.func 120) #[.pointer a] #[]) h.eo h.u slot (s.v.cnt : Nat) s.v (zp y) (.pointer none) (.pointer none))),
  pt (ad y) (EndO h.ro slot gen s.e)]
def frLL (T : TypeId) (h : FrH) (slot : Nat) (s : FrS) (a : OA) (y : Value × Value × Value × Value) : St :=
 [pt a (Blk T (frF (.func (.func 191) #[.pointer a] #[]) y.1 y.2.1 y.2.2.1 h.eo h.u slot (s.v.cnt : Nat) s.v y.2.2.2 (.pointer none) (.pointer none)))]
def frWL (T : TypeId) (h : FrH) (x : Cn) (slot : Nat) (s : FrS) (a : OA) (y : Nat × Value) : St :=
 [pt a (Blk T (frF (.func (.func 232) #[.pointer a] #[]) (mth 235 y.1) (mth 236 y.1) (.func (.func 237) #[.pointer a] #[]) h.eo h.u slot (s.v.cnt : Nat) s.v y.2 (zp y.1) (.pointer none))),
  pt (ad y.1) (WalkO h.ch x.c s.w)]
def frPL (T : TypeId) (h : FrH) (x : Cn) (slot : Nat) (s : FrS) (a : OA) (y : Nat × Value × Value) : St :=
 [pt a (Blk T (frF (.func (.func 232) #[.pointer a] #[]) (mth 239 y.1) (mth 240 y.1) (.func (.func 241) #[.pointer a] #[]) h.eo h.u slot (s.v.cnt : Nat) s.v y.2.1 y.2.2 (.pointer none))),
  pt (ad y.1) (PushO h.sp x.spare s.p)]
def frGL (T : TypeId) (h : FrH) (x : Cn) (slot : Nat) (s : FrS) (a : OA) (y : Nat × Value × Value) : St :=
 [pt a (Blk T (frF (.func (.func 232) #[.pointer a] #[]) (mth 208 y.1) (mth 188 y.1) (.func (.func 259) #[.pointer a] #[]) h.eo h.u slot (s.v.cnt : Nat) s.v y.2.1 y.2.2 (zp y.1))),
  pt (ad y.1) (GiveO h.pb x.pool s.g)]
def frDL (T : TypeId) (h : FrH) (x : Cn) (slot : Nat) (s : FrS) (a : OA) (y : Nat × (Value × Value × Value) × Value × Value) : St :=
 [pt a (Blk T (frF .nilFunc y.2.1.1 y.2.1.2.1 y.2.1.2.2 h.eo h.u slot (s.v.cnt : Nat) s.v y.2.2.1 y.2.2.2 (zp y.1))), pt (ad y.1) (GiveO h.pb x.pool s.g)]
def frSL (T : TypeId) (h : FrH) (slot : Nat) (s : FrS) (a : OA) (y : Value × Value × Value × Value) : St :=
 [pt a (Blk T (frF .nilFunc y.1 y.2.1 y.2.2.1 h.eo h.u slot (s.v.cnt : Nat) s.v y.2.2.2 (.pointer none) (.pointer none)))]
def FrT (T : TypeId) (h : FrH) (x : Cn) (slot : Nat) (gen : Int) (s : FrS) (a : OA) : As :=
 bif s.done then (bif Nat.beq s.at_ 4 then exs (frDL T h x slot s a) else exs (frSL T h slot s a)) else match s.at_ with
 | 0 => exs (frEL T h x slot gen s a) | 1 => exs (frLL T h slot s a) | 2 => exs (frWL T h x slot s a) | 3 => exs (frPL T h x slot s a) | _ => exs (frGL T h x slot s a)
abbrev FrO := FrT 200
section
variable {T : TypeId} {h : FrH} {x : Cn} {slot : Nat} {gen : Int} {s : FrS} {a : OA}
theorem FrO.e_ (hd : s.done = false) (h0 : s.at_ = 0) : FrT T h x slot gen s a = exs (frEL T h x slot gen s a) := by unfold FrT; rw [hd, h0]; rfl
theorem FrO.l_ (hd : s.done = false) (h0 : s.at_ = 1) : FrT T h x slot gen s a = exs (frLL T h slot s a) := by unfold FrT; rw [hd, h0]; rfl
theorem FrO.w_ (hd : s.done = false) (h0 : s.at_ = 2) : FrT T h x slot gen s a = exs (frWL T h x slot s a) := by unfold FrT; rw [hd, h0]; rfl
theorem FrO.p_ (hd : s.done = false) (h0 : s.at_ = 3) : FrT T h x slot gen s a = exs (frPL T h x slot s a) := by unfold FrT; rw [hd, h0]; rfl
theorem FrO.g_ (hd : s.done = false) (h0 : s.at_ = 4) : FrT T h x slot gen s a = exs (frGL T h x slot s a) := by unfold FrT; rw [hd, h0]; rfl
theorem FrO.d_ (hd : s.done = true) (h0 : s.at_ = 4) : FrT T h x slot gen s a = exs (frDL T h x slot s a) := by unfold FrT; rw [hd, h0]; rfl
theorem FrO.s_ (hd : s.done = true) (h0 : s.at_ ≠ 4) : FrT T h x slot gen s a = exs (frSL T h slot s a) := by
 unfold FrT
 rw [hd]
 cases hb : Nat.beq s.at_ 4 with
 | true => exact absurd (bq hb) h0
 | false => rfl
end
section
variable {b : Nat} {h : FrH} {x : Cn} {slot : Nat} {gen : Int} {cnt : Int} {v : FrV} {n1 n2 n3 ep wp : Value}
theorem FrO.closeE {q : Nat} {e : EndS} (s : FrS) (hd : s.done = false) (h0 : s.at_ = 0) (hc : cnt = (s.v.cnt : Nat)) (hv : { v with cnt := s.v.cnt } = s.v) (he : e = s.e) :
  Ent (frB b (mth 232 b) (mth 32 q) (mth 34 q) (mth 120 b) h.eo h.u slot cnt v (zp q) (.pointer none) (.pointer none) :: pt (ad q) (EndO h.ro slot gen e) :: G) (pt (ad b) (FrO h x slot gen s) :: G) := by
 subst hc he
 obtain ⟨a1, v0, e0, w0, p0, g0, d0⟩ := s
 obtain ⟨c1, c2, c3, c4, c5, c6, c7⟩ := v0
 obtain ⟨e1, e2, e3, e4, e5, e6, e7⟩ := v
 dsimp only at hv
 cases hv
 exact Ent.close (f := frEL 200 h x slot gen _ (ad b)) (FrO.e_ hd h0) q
theorem FrO.closeL (s : FrS) (hd : s.done = false) (h0 : s.at_ = 1) (hc : cnt = (s.v.cnt : Nat)) (hv : { v with cnt := s.v.cnt } = s.v) :
  Ent (frB b (mth 191 b) n1 n2 n3 h.eo h.u slot cnt v ep (.pointer none) (.pointer none) :: G) (pt (ad b) (FrO h x slot gen s) :: G) := by
 subst hc
 obtain ⟨a1, v0, e0, w0, p0, g0, d0⟩ := s
 obtain ⟨c1, c2, c3, c4, c5, c6, c7⟩ := v0
 obtain ⟨e1, e2, e3, e4, e5, e6, e7⟩ := v
 dsimp only at hv
 cases hv
 exact Ent.close (f := frLL 200 h slot _ (ad b)) (FrO.l_ hd h0) (n1, n2, n3, ep)
theorem FrO.closeW {q : Nat} {w : WalkS} (s : FrS) (hd : s.done = false) (h0 : s.at_ = 2) (hc : cnt = (s.v.cnt : Nat)) (hv : { v with cnt := s.v.cnt } = s.v) (he : w = s.w) :
  Ent (frB b (mth 232 b) (mth 235 q) (mth 236 q) (mth 237 b) h.eo h.u slot cnt v ep (zp q) (.pointer none) :: pt (ad q) (WalkO h.ch x.c w) :: G) (pt (ad b) (FrO h x slot gen s) :: G) := by
 subst hc he
 obtain ⟨a1, v0, e0, w0, p0, g0, d0⟩ := s
 obtain ⟨c1, c2, c3, c4, c5, c6, c7⟩ := v0
 obtain ⟨e1, e2, e3, e4, e5, e6, e7⟩ := v
 dsimp only at hv
 cases hv
 exact Ent.close (f := frWL 200 h x slot _ (ad b)) (FrO.w_ hd h0) (q, ep)
theorem FrO.closeP {q : Nat} {p : PushS} (s : FrS) (hd : s.done = false) (h0 : s.at_ = 3) (hc : cnt = (s.v.cnt : Nat)) (hv : { v with cnt := s.v.cnt } = s.v) (he : p = s.p) :
  Ent (frB b (mth 232 b) (mth 239 q) (mth 240 q) (mth 241 b) h.eo h.u slot cnt v ep wp (.pointer none) :: pt (ad q) (PushO h.sp x.spare p) :: G) (pt (ad b) (FrO h x slot gen s) :: G) := by
 subst hc he
 obtain ⟨a1, v0, e0, w0, p0, g0, d0⟩ := s
 obtain ⟨c1, c2, c3, c4, c5, c6, c7⟩ := v0
 obtain ⟨e1, e2, e3, e4, e5, e6, e7⟩ := v
 dsimp only at hv
 cases hv
 exact Ent.close (f := frPL 200 h x slot _ (ad b)) (FrO.p_ hd h0) (q, ep, wp)
theorem FrO.closeG {q : Nat} {p : PushS} (s : FrS) (hd : s.done = false) (h0 : s.at_ = 4) (hc : cnt = (s.v.cnt : Nat)) (hv : { v with cnt := s.v.cnt } = s.v) (he : p = s.g) :
  Ent (frB b (mth 232 b) (mth 208 q) (mth 188 q) (mth 259 b) h.eo h.u slot cnt v ep wp (zp q) :: pt (ad q) (GiveO h.pb x.pool p) :: G) (pt (ad b) (FrO h x slot gen s) :: G) := by
 subst hc he
 obtain ⟨a1, v0, e0, w0, p0, g0, d0⟩ := s
 obtain ⟨c1, c2, c3, c4, c5, c6, c7⟩ := v0
 obtain ⟨e1, e2, e3, e4, e5, e6, e7⟩ := v
 dsimp only at hv
 cases hv
 exact Ent.close (f := frGL 200 h x slot _ (ad b)) (FrO.g_ hd h0) (q, ep, wp)
theorem FrO.closeD {q : Nat} {p : PushS} (s : FrS) (hd : s.done = true) (h0 : s.at_ = 4) (hc : cnt = (s.v.cnt : Nat)) (hv : { v with cnt := s.v.cnt } = s.v) (he : p = s.g) :
  Ent (frB b .nilFunc n1 n2 n3 h.eo h.u slot cnt v ep wp (zp q) :: pt (ad q) (GiveO h.pb x.pool p) :: G) (pt (ad b) (FrO h x slot gen s) :: G) := by
 subst hc he
 obtain ⟨a1, v0, e0, w0, p0, g0, d0⟩ := s
 obtain ⟨c1, c2, c3, c4, c5, c6, c7⟩ := v0
 obtain ⟨e1, e2, e3, e4, e5, e6, e7⟩ := v
 dsimp only at hv
 cases hv
 exact Ent.close (f := frDL 200 h x slot _ (ad b)) (FrO.d_ hd h0) (q, (n1, n2, n3), ep, wp)
theorem FrO.closeS (s : FrS) (hd : s.done = true) (h0 : s.at_ ≠ 4) (hc : cnt = (s.v.cnt : Nat)) (hv : { v with cnt := s.v.cnt } = s.v) :
  Ent (frB b .nilFunc n1 n2 n3 h.eo h.u slot cnt v ep (.pointer none) (.pointer none) :: G) (pt (ad b) (FrO h x slot gen s) :: G) := by
 subst hc
 obtain ⟨a1, v0, e0, w0, p0, g0, d0⟩ := s
 obtain ⟨c1, c2, c3, c4, c5, c6, c7⟩ := v0
 obtain ⟨e1, e2, e3, e4, e5, e6, e7⟩ := v
 dsimp only at hv
 cases hv
 exact Ent.close (f := frSL 200 h slot _ (ad b)) (FrO.s_ hd h0) (n1, n2, n3, ep)
end
theorem frOver {v : Value} : FX 259 [v] L (fun v L' => v = .tuple #[] ∧ L = L') := by
 refine Fm Tryz.func259 k259 ?_
 dsimp only [c259, eL]
 refine Cx.sk ?_
 exact Kr.none (.inl rfl) (Er _) ⟨rfl, rfl⟩
theorem rootsBack {g mp sb : Nat} {x : Cn} (slot : Nat) (hs : slot < x.sl) [c : Take L (ad g) (RoO mp sb x) F] {F2 : St} [s : Take F (ad sb) (SkO mp x.spare) F2] :
  FX 238 [zp g, ii slot] L (fun v L' => ∃ b, v = .tuple #[zp b, ii 0] ∧ L' = pt (ad b) (PushO sb x.spare (PushS.init [(slot : Int)])) :: L) := by
 refine Fm Tryz.func238 k238 ?_
 dsimp only [c238, eL]
 refine Xe (Et (Eo c.out) (Ec (Eo s.out))) (go ?_)
 refine Sx.bs (sz := 1) rfl rfl fun q => ?_
 refine Sa rfl (stackPush (sb := sb) (mp := mp) (k := x.spare) (l := [(slot : Int)]) (Rd.row (b := q) (E := 3) (cap := 1) rfl) (by omega) (by omega)) ?_
 rintro v L' (⟨hn, _, _⟩ | ⟨_, b, rfl, rfl⟩)
 ·exact absurd ⟨by simp, fun z hz => by rw [List.mem_singleton.1 hz]; exact ⟨by omega, by show (slot : Int) < x.sl; omega⟩⟩ hn
 refine go ?_
 refine Kr.two (.inr rfl) rfl rfl ?_ ⟨b, rfl, rfl⟩
 refine Ec (Et Ed ?_)
 exact Et (Ec (Eo s.back)) (Eo c.back)
theorem frLeave_ {b : Nat} {h : FrH} {x : Cn} {slot : Nat} {gen : Int} {v : FrV} {n1 n2 n3 ep wp : Value} {cnt : Int} (e : EndS) (w : WalkS) (hcnt : cnt = (v.cnt : Nat)) (hs : slot < x.sl) :
  FX 192 [zp b] (frB b .nilFunc n1 n2 n3 h.eo h.u slot cnt v ep wp (.pointer none) :: pt (ad h.eo) (EnO h.mp h.ro h.ch) :: pt (ad h.ro) (RoO h.mp h.sp x) :: pt (ad h.sp) (SkO h.mp x.spare) :: G)
   (fun _ L' => L' = pt (ad b) (FrO h x slot gen (frLeave (x.fr slot gen) v e w)) :: pt (ad h.eo) (EnO h.mp h.ro h.ch) :: pt (ad h.ro) (RoO h.mp h.sp x) :: pt (ad h.sp) (SkO h.mp x.spare) :: G) := by
 subst hcnt
 refine Fm Tryz.func192 k192 ?_
 dsimp only [c192, eL]
 refine go ?_
 refine Xd rfl kr_ (ge ?_)
 refine Ea kr_ rfl rfl (rootsBack (g := h.ro) (mp := h.mp) (sb := h.sp) (x := x) slot hs) (Pd kr_) ?_
 rintro v' L' ⟨q, rfl, rfl⟩
 refine ge ?_
 refine go ?_
 refine Sa rfl (machThrough (b := b) (machOnNo (b := b) kr_ (pushDoneC (b := q) (sb := h.sp) (k := x.spare) (p := PushS.init [(slot : Int)])))) ?_
 rintro v' L' ⟨rfl, w', rfl, rfl⟩
 refine go ?_
 refine Kr.none (.inl rfl) ?_ rfl
 refine Et (Ek (a := ad b)) ?_
 refine Et (Ec (Ek (a := ad q))) ?_
 refine Et (FrO.closeP (gen := gen) (v := { v with chunk := -1 }) (frLeave (x.fr slot gen) v e w) rfl rfl rfl rfl rfl) (Ec ?_)
 exact ent
set_option maxHeartbeats 1000000 in
theorem frEnded_ {b q : Nat} {h : FrH} {x : Cn} {slot : Nat} {gen : Int} {v : FrV} {e : EndS} {n1 n2 n3 : Value} {cnt : Int} (hcnt : cnt = (v.cnt : Nat)) (hs : slot < x.sl) (hd : e.done = true) :
  FX 120 [zp b] (frB b .nilFunc n1 n2 n3 h.eo h.u slot cnt v (zp q) (.pointer none) (.pointer none) :: pt (ad q) (EndO h.ro slot gen e) :: pt (ad h.eo) (EnO h.mp h.ro h.ch) :: pt (ad h.ro) (RoO h.mp h.sp x) :: pt (ad h.sp) (SkO h.mp x.spare) :: G)
   (fun _ L' => L' = pt (ad b) (FrO h x slot gen (frEnded (x.fr slot gen) v e)) :: pt (ad h.eo) (EnO h.mp h.ro h.ch) :: pt (ad h.ro) (RoO h.mp h.sp x) :: pt (ad h.sp) (SkO h.mp x.spare) :: G) := by
 subst hcnt
 refine Fm Tryz.func120 k120 ?_
 dsimp only [c120, eL]
 refine go ?_
 refine Sa rfl (machCount (b := b)) ?_
 rintro v' L' ⟨rfl, rfl⟩
 refine go ?_
 refine Sa rfl (endCode (b := q) (r := h.ro) (slot := slot) (gen := gen) (e := e) hd) ?_
 rintro v' L' ⟨rfl, rfl⟩
 refine go ?_
 by_cases hc : e.code = 0
 case neg =>
  have e1 : frEnded (x.fr slot gen) v e = ⟨0, { v with point := v.cnt, code := e.code }, e, WalkS.zero, gNone, gNone, true⟩ := by unfold frEnded; rw [if_pos hc]
  rw [e1]
  refine Xy rfl (by simp; omega) (go ?_)
  refine Kr.none (.inr rfl) ?_ rfl
  refine Et (Ek (a := ad b)) ?_
  refine Et (FrO.closeS (gen := gen) (x := x) (v := { v with point := v.cnt, code := e.code }) ⟨0, { v with point := v.cnt, code := e.code }, e, WalkS.zero, gNone, gNone, true⟩ rfl (by show (0 : Nat) ≠ 4; omega) rfl rfl) (Ec ?_)
  exact ent
 case pos =>
  rw [hc]
  refine Xn rfl (by simp) (go ?_)
  refine Sa rfl (endChunk (b := q) (r := h.ro) (slot := slot) (gen := gen) (e := e) hd) ?_
  rintro v' L' ⟨rfl, rfl⟩
  refine go ?_
  by_cases hk : 0 ≤ e.chunk
  case pos =>
   have e1 : frEnded (x.fr slot gen) v e = ⟨1, { v with point := v.cnt, code := 0, slot := slot, chunk := e.chunk }, e, WalkS.zero, gNone, gNone, false⟩ := by unfold frEnded; rw [if_neg (by omega), if_pos hk]
   rw [e1]
   refine Xy rfl (dt hk) (go ?_)
   refine Sa rfl (machGo (b := b)) ?_
   rintro v' L' ⟨rfl, rfl⟩
   refine go ?_
   refine Kr.none (.inl rfl) ?_ rfl
   refine Et (Ek (a := ad b)) ?_
   refine Et (FrO.closeL (gen := gen) (x := x) (v := { v with point := v.cnt, code := 0, slot := slot, chunk := e.chunk }) ⟨1, { v with point := v.cnt, code := 0, slot := slot, chunk := e.chunk }, e, WalkS.zero, gNone, gNone, false⟩ rfl rfl rfl rfl) (Ec ?_)
   exact ent
  case neg =>
   have e1 : frEnded (x.fr slot gen) v e = frLeave (x.fr slot gen) { v with point := v.cnt, code := 0, slot := slot, chunk := e.chunk } e WalkS.zero := by unfold frEnded; rw [if_neg (by omega), if_neg hk]; rfl
   rw [e1]
   refine Xn rfl (dz hk) (go ?_)
   refine Se_ (Ek (a := ad b)) ?_
   refine Se_ (M := frB b .nilFunc n1 n2 n3 h.eo h.u slot (v.cnt : Nat) { v with point := v.cnt, code := 0, slot := slot, chunk := e.chunk } (zp q) (.pointer none) (.pointer none) :: pt (ad h.eo) (EnO h.mp h.ro h.ch) :: pt (ad h.ro) (RoO h.mp h.sp x) :: pt (ad h.sp) (SkO h.mp x.spare) :: G) (Ec (by exact ent)) ?_
   refine Sa rfl (frLeave_ (gen := gen) (v := { v with point := v.cnt, code := 0, slot := slot, chunk := e.chunk }) e WalkS.zero rfl hs) ?_
   rintro v' L' rfl
   refine go ?_
   exact Kr.none (.inl rfl) (Er _) rfl
end
section
variable {L F G : St}
theorem supRetireC {u mp pb : Nat} {x : Cn} {s : SupS} {F : St} [t : Take L (ad u) (SupO mp pb x s) F] {tag : Int} {ys : List Int} {ya : OA} {n c : Nat} (hr : Rd F 1 ya n (ints ys)) (hb : s.lm.size + n ≤ 100000000) (hx : s.xs.length ≤ 100000000) :
  FX 256 [zp u, ii tag, .slice ya n c] L (fun v L' => (∃ k, v = ii k) ∧ L' = pt (ad u) (SupO mp pb x (supRet s tag ys)) :: F) := by
 refine (supRetire (u := u) (mp := mp) (pb := pb) (x := x) (s := s) hr hb hx).mono ?_
 rintro v L' (⟨h, rfl, rfl⟩ | ⟨h, rfl, rfl⟩)
 ·exact ⟨⟨_, rfl⟩, by unfold supRet; rw [if_pos h]⟩
 ·exact ⟨⟨_, rfl⟩, by unfold supRet; rw [if_neg h]⟩
theorem frLook_ {b : Nat} {h : FrH} {x : Cn} {slot : Nat} {gen : Int} {m : Mm} {v : FrV} {n1 n2 n3 ep : Value} {cnt : Int} {pb2 : Nat} (e : EndS) (hcnt : cnt = (v.cnt : Nat)) (hm : m.ok) (hl : x.len ≤ m.ws.length) (h0 : 0 ≤ v.chunk) (h1 : v.chunk < x.c) :
  FX 191 [zp b] (frB b .nilFunc n1 n2 n3 h.eo h.u slot cnt v ep (.pointer none) (.pointer none) :: pt (ad h.eo) (EnO h.mp h.ro h.ch) :: pt (ad h.mp) (MemO m) :: pt (ad h.ch) (ChO h.mp pb2 x) :: G)
   (fun _ L' => L' = pt (ad b) (FrO h x slot gen ⟨2, { v with tag := cutE (m.at_ 2) }, e, ⟨[v.chunk], false⟩, gNone, gNone, false⟩) :: pt (ad h.eo) (EnO h.mp h.ro h.ch) :: pt (ad h.mp) (MemO m.tick) :: pt (ad h.ch) (ChO h.mp pb2 x) :: G) := by
 subst hcnt
 have hl3 : 3 ≤ x.len := by unfold Cn.len; omega
 have hw := Ml hm 2
 refine Fm Tryz.func191 k191 ?_
 dsimp only [c191, eL]
 refine go ?_
 refine Sa rfl (cellsLoad (b := h.mp) (m := m) 2 (by omega)) ?_
 rintro v' L' ⟨rfl, rfl⟩
 refine go ?_
 refine Sa rfl (epochCut (m.at_ 2) hw) ?_
 rintro v' L' ⟨rfl, rfl⟩
 refine go ?_
 refine Xd rfl kr_ (ge ?_)
 refine Ea kr_ rfl rfl (chainWalk (g := h.ch) (mp := h.mp) (sb := pb2) (x := x) v.chunk h0 h1) (Pd kr_) ?_
 rintro v' L' ⟨q, rfl, rfl⟩
 refine ge ?_
 refine go ?_
 refine Sa rfl (machThrough (b := b) (machOnNo (b := b) kr_ (walkDone (b := q) (ch := h.ch) (c := x.c) (s := ⟨[v.chunk], false⟩)))) ?_
 rintro v' L' ⟨rfl, w', rfl, rfl⟩
 refine go ?_
 refine Kr.none (.inl rfl) ?_ rfl
 refine Et (Ek (a := ad b)) ?_
 refine Et (Ec (Ek (a := ad q))) ?_
 refine Et (FrO.closeW (gen := gen) (v := { v with tag := cutE (m.at_ 2) }) ⟨2, { v with tag := cutE (m.at_ 2) }, e, ⟨[v.chunk], false⟩, gNone, gNone, false⟩ rfl rfl rfl rfl rfl) (Ec ?_)
 exact ent
theorem frWalked_ {b q : Nat} {h : FrH} {x : Cn} {slot : Nat} {gen : Int} {v : FrV} {n1 n2 n3 ep : Value} {cnt : Int} {S : SupS} (e : EndS) (w : WalkS) (hcnt : cnt = (v.cnt : Nat)) (hs : slot < x.sl) (hd : w.done = true) (hc : x.c ≤ 4096) (hb : S.xs.length + S.lm.size ≤ 1000000) :
  FX 237 [zp b] (frB b .nilFunc n1 n2 n3 h.eo h.u slot cnt v ep (zp q) (.pointer none) :: pt (ad q) (WalkO h.ch x.c w) :: pt (ad h.u) (SupO h.mp h.pb x S) :: pt (ad h.eo) (EnO h.mp h.ro h.ch) :: pt (ad h.ro) (RoO h.mp h.sp x) :: pt (ad h.sp) (SkO h.mp x.spare) :: G)
   (fun _ L' => L' = pt (ad b) (FrO h x slot gen (frLeave (x.fr slot gen) v e w)) :: pt (ad h.u) (SupO h.mp h.pb x (supRet S v.tag w.l)) :: pt (ad h.eo) (EnO h.mp h.ro h.ch) :: pt (ad h.ro) (RoO h.mp h.sp x) :: pt (ad h.sp) (SkO h.mp x.spare) :: G) := by
 subst hcnt
 refine Fm Tryz.func237 k237 ?_
 dsimp only [c237, eL]
 refine Cx.sq ?_
 refine Xd rfl kr_ (ge ?_)
 refine Ea kr_ rfl rfl (walkList (b := q) (ch := h.ch) (c := x.c) (s := w) hd hc) (.dep rfl (.keep (fun v L' ⟨_, _, _, _, e⟩ => by subst e; exact Has.cell rfl) (.keep (fun v L' ⟨_, _, _, _, e⟩ => by subst e; exact Has.cell rfl) .nil))) ?_
 rintro v' L' ⟨g, co, rfl, hwl, rfl⟩
 refine ge ?_
 refine Ea kr_ rfl rfl (supRetireC (u := h.u) (mp := h.mp) (pb := h.pb) (x := x) (s := S) (tag := v.tag) (ys := w.l) (Rd.row (b := g) (E := 3) (cap := co) (by simp [ints])) (by omega) (by omega)) (Pd kr_) ?_
 rintro v' L' ⟨⟨k, rfl⟩, rfl⟩
 refine ge ?_
 refine go ?_
 refine Se_ (M := frB b .nilFunc n1 n2 n3 h.eo h.u slot (v.cnt : Nat) v ep (zp q) (.pointer none) :: pt (ad h.eo) (EnO h.mp h.ro h.ch) :: pt (ad h.ro) (RoO h.mp h.sp x) :: pt (ad h.sp) (SkO h.mp x.spare) :: pt (ad h.u) (SupO h.mp h.pb x (supRet S v.tag w.l)) :: G) (by exact ent) ?_
 refine Sa rfl (frLeave_ (gen := gen) (v := v) e w rfl hs) ?_
 rintro v' L' rfl
 refine go ?_
 refine Kr.none (.inl rfl) ?_ rfl
 exact ent
noncomputable def frLeft (k : Sk) (v : FrV) (S : SupS) (e : EndS) (w : WalkS) (p : PushS) : FrS := ⟨4, { v with back := v.cnt, slot := -1 }, e, w, p, giveInit k (S.xs.take (overK S.most S.xs)), (giveInit k (S.xs.take (overK S.most S.xs))).done⟩
theorem frLeft_ {b : Nat} {h : FrH} {x : Cn} {slot : Nat} {gen : Int} {v : FrV} {n1 n2 n3 ep wp : Value} {cnt : Int} {S : SupS} (e : EndS) (w : WalkS) (p : PushS) (hcnt : cnt = (v.cnt : Nat)) (hb : S.xs.length ≤ 1000000) (hm0 : 0 ≤ S.most) (hm2 : S.most ≤ 64) :
  FX 241 [zp b] (frB b .nilFunc n1 n2 n3 h.eo h.u slot cnt v ep wp (.pointer none) :: pt (ad h.u) (SupO h.mp h.pb x S) :: pt (ad h.pb) (SkO h.mp x.pool) :: G)
   (fun _ L' => L' = pt (ad b) (FrO h x slot gen (frLeft x.pool v S e w p)) :: pt (ad h.u) (SupO h.mp h.pb x { S with xs := S.xs.drop (overK S.most S.xs) }) :: pt (ad h.pb) (SkO h.mp x.pool) :: G) := by
 subst hcnt
 obtain ⟨V, hV⟩ : ∃ V : FrV, V = { v with back := v.cnt, slot := -1 } := ⟨_, rfl⟩
 obtain ⟨gi, hgi⟩ : ∃ gi, gi = giveInit x.pool (S.xs.take (overK S.most S.xs)) := ⟨_, rfl⟩
 have hcl : frLeft x.pool v S e w p = ⟨4, V, e, w, p, gi, gi.done⟩ := by unfold frLeft; rw [hgi, hV]
 rw [hcl]
 subst hV
 refine Fm Tryz.func241 k241 ?_
 dsimp only [c241, eL]
 refine go ?_
 refine Sa rfl (machCount (b := b)) ?_
 rintro v' L' ⟨rfl, rfl⟩
 refine go ?_
 refine Sa rfl (supSpill (u := h.u) (mp := h.mp) (pb := h.pb) (x := x) (s := S) (by omega) (by omega) (by omega)) ?_
 rintro v' L' ⟨r, rfl, rfl⟩
 refine go ?_
 refine Cx.orde rfl kr_ (ge ?_)
 rw [← hgi]
 cases hg : gi.done with
 | true =>
   refine Ea kr_ rfl rfl (machThrough (b := b) (machOnYes (b := b) kr_ ((giveDone (b := r) (pb := h.pb) (k := x.pool) (p := gi)).mono (by rintro v L' ⟨rfl, rfl⟩; exact ⟨by rw [hg], rfl⟩)) kr_ frOver)) (Pd kr_) ?_
   rintro v' L' ⟨rfl, w', rfl, w2, rfl, rfl⟩
   refine ge ?_
   refine Kr.none (.inl rfl) ?_ rfl
   refine Et (Ek (a := ad b)) ?_
   refine Et (Ec (Ek (a := ad r))) ?_
   refine Et (FrO.closeD (gen := gen) (v := { v with back := v.cnt, slot := -1 }) ⟨4, { v with back := v.cnt, slot := -1 }, e, w, p, gi, true⟩ rfl rfl rfl rfl rfl) (Ec ?_)
   exact ent
 | false =>
   refine Ea kr_ rfl rfl (machThrough (b := b) (machOnNo (b := b) kr_ ((giveDone (b := r) (pb := h.pb) (k := x.pool) (p := gi)).mono (by rintro v L' ⟨rfl, rfl⟩; exact ⟨by rw [hg], rfl⟩)))) (Pd kr_) ?_
   rintro v' L' ⟨rfl, w', rfl, rfl⟩
   refine ge ?_
   refine Kr.none (.inl rfl) ?_ rfl
   refine Et (Ek (a := ad b)) ?_
   refine Et (Ec (Ek (a := ad r))) ?_
   refine Et (FrO.closeG (gen := gen) (v := { v with back := v.cnt, slot := -1 }) ⟨4, { v with back := v.cnt, slot := -1 }, e, w, p, gi, false⟩ rfl rfl rfl rfl rfl) (Ec ?_)
   exact ent
end
structure FrOk (x : Cn) (f : FrS) : Prop where
 a : f.at_ ≤ 4
 n : f.v.cnt ≤ 1000000
 e : f.at_ = 0 → f.e.ok
 k : f.at_ = 0 → f.e.at_ = 1 → (rtOf f.e.was).mrk ≤ x.c + 1
 c : f.at_ = 1 → 0 ≤ f.v.chunk ∧ f.v.chunk < x.c
section
variable {L F G : St}
set_option maxHeartbeats 4000000 in
theorem frStepC {b : Nat} {h : FrH} {x : Cn} {slot : Nat} {gen : Int} {m : Mm} {S : SupS} {f : FrS} {pb2 : Nat} {F1 F2 F3 F4 F5 F6 F7 : St} (hx : x.ok) (hl : x.len ≤ m.ws.length) (hs : slot < x.sl) (hb : S.xs.length + S.lm.size ≤ 1000) (hm0 : 0 ≤ S.most) (hm2 : S.most ≤ 64) (hf : f.done = false → FrOk x f)
  [t1 : Take L (ad b) (FrO h x slot gen f) F1] [t2 : Take F1 (ad h.u) (SupO h.mp h.pb x S) F2] [t3 : Take F2 (ad h.mp) (MemO m) F3] [t4 : Take F3 (ad h.pb) (SkO h.mp x.pool) F4]
  [t5 : Take F4 (ad h.eo) (EnO h.mp h.ro h.ch) F5] [t6 : Take F5 (ad h.ro) (RoO h.mp h.sp x) F6] [t7 : Take F6 (ad h.sp) (SkO h.mp x.spare) F7] [t8 : Take F7 (ad h.ch) (ChO h.mp pb2 x) G] :
  FX 55 [zp b] L
   (fun v L' => v = .bool (!f.done) ∧ L' = pt (ad b) (FrO h x slot gen (frStep (x.fr slot gen) m S f).2.2) :: pt (ad h.u) (SupO h.mp h.pb x (frStep (x.fr slot gen) m S f).2.1) :: pt (ad h.mp) (MemO (frStep (x.fr slot gen) m S f).1) :: F3) := by
 have hback : Ent (pt (ad h.pb) (SkO h.mp x.pool) :: pt (ad h.eo) (EnO h.mp h.ro h.ch) :: pt (ad h.ro) (RoO h.mp h.sp x) :: pt (ad h.sp) (SkO h.mp x.spare) :: pt (ad h.ch) (ChO h.mp pb2 x) :: G) F3 :=
  Et (Ec (Et (Ec (Et (Ec (Et (Ec (Eo t8.back)) (Eo t7.back))) (Eo t6.back))) (Eo t5.back))) (Eo t4.back)
 obtain ⟨b1, b2, b3, b4, b5, b6, b7⟩ := hx.b
 refine Fm Tryz.func55 k55 ?_
 dsimp only [c55, eL]
 refine Xe (Et (Eo t1.out) (Ec (Et (Eo t2.out) (Ec (Et (Eo t3.out) (Ec (Et (Eo t4.out) (Ec (Et (Eo t5.out) (Ec (Et (Eo t6.out) (Ec (Et (Eo t7.out) (Ec (Eo t8.out))))))))))))))) ?_
 refine Cx.pure (memKey (b := h.mp) (m := m)) fun hm => ?_
 cases hd : f.done with
 | true =>
   have e1 : frStep (x.fr slot gen) m S f = (m, S, f) := by unfold frStep; rw [hd]; rfl
   rw [e1]
   by_cases h4 : f.at_ = 4
   ·refine Xo (a := ad b) (FrO.d_ hd h4) ?_
    rintro ⟨q, ⟨n1, n2, n3⟩, ep, wp⟩
    simp only [frDL, lc, ln]
    refine go ?_
    refine Sa rfl (machStepDone (b := b)) ?_
    rintro v' L' ⟨rfl, rfl⟩
    refine go ?_
    exact Ko rfl (Et (FrO.closeD (v := f.v) f hd h4 rfl rfl rfl) (Ec (Ec (Ec hback)))) ⟨rfl, rfl⟩
   ·refine Xo (a := ad b) (FrO.s_ hd h4) ?_
    rintro ⟨n1, n2, n3, ep⟩
    simp only [frSL, lc, ln]
    refine go ?_
    refine Sa rfl (machStepDone (b := b)) ?_
    rintro v' L' ⟨rfl, rfl⟩
    refine go ?_
    exact Ko rfl (Et (FrO.closeS (v := f.v) f hd h4 rfl rfl) (Ec (Ec (Ec hback)))) ⟨rfl, rfl⟩
 | false =>
   obtain ⟨ka, kn, ke, kk, kc⟩ := hf hd
   obtain ⟨V, hV⟩ : ∃ V : FrV, V = { f.v with cnt := f.v.cnt + 1 } := ⟨_, rfl⟩
   have hVc : IntKind.i64.wrap ((f.v.cnt : Int) + 1) = (V.cnt : Nat) := by rw [hV]; exact cntW kn
   have hVt : V.tag = f.v.tag := by rw [hV]
   have hVk : V.chunk = f.v.chunk := by rw [hV]
   rcases (show f.at_ = 0 ∨ f.at_ = 1 ∨ f.at_ = 2 ∨ f.at_ = 3 ∨ f.at_ = 4 by omega) with h0 | h0 | h0 | h0 | h0
   ·refine Xo (a := ad b) (FrO.e_ hd h0) ?_
    intro q
    simp only [frEL, lc, ln]
    have hke := ke h0
    obtain ⟨E, hE⟩ : ∃ E, endStep (x.root + slot) gen m f.e = E := ⟨_, rfl⟩
    have hes := endStepC (b := q) (r := h.ro) (mp := h.mp) (sp := h.sp) (slot := slot) (gen := gen) (x := x) (m := m) (e := f.e) hx hl hs hke
     (L := pt (ad b) (Blk 200 (frF .nilFunc (mth 32 q) (mth 34 q) (mth 120 b) h.eo h.u slot (IntKind.i64.wrap ((f.v.cnt : Int) + 1)) f.v (zp q) (.pointer none) (.pointer none))) :: pt (ad q) (EndO h.ro slot gen f.e) :: pt (ad h.u) (SupO h.mp h.pb x S) :: pt (ad h.mp) (MemO m) :: pt (ad h.pb) (SkO h.mp x.pool) :: pt (ad h.eo) (EnO h.mp h.ro h.ch) :: pt (ad h.ro) (RoO h.mp h.sp x) :: pt (ad h.sp) (SkO h.mp x.spare) :: pt (ad h.ch) (ChO h.mp pb2 x) :: G)
    have hea : E.1.at_ ≤ 1 := by rw [← hE]; unfold endStep; (repeat' split) <;> first | exact hke.a | (show 1 ≤ 1; omega) | (show 0 ≤ 1; omega)
    rw [hE] at hes
    cases hq : E.1.done with
    | true =>
      have e1 : frStep (x.fr slot gen) m S f = (E.2, S, frEnded (x.fr slot gen) V E.1) := by unfold frStep; rw [hd, h0, hV]; simp only [bf, if_false, hE, hq, if_true]
      rw [e1]
      refine go ?_
      refine Sa rfl (machStep (b := b) kr_ (machGoes (b := b) kr_ hes
       (R2 := fun v L' => v = .tuple #[] ∧ ∃ w : Value, L' = pt (ad b) (FrO h x slot gen (frEnded (x.fr slot gen) V E.1)) :: pt (ad h.eo) (EnO h.mp h.ro h.ch) :: pt (ad h.ro) (RoO h.mp h.sp x) :: pt (ad h.sp) (SkO h.mp x.spare) :: pt (ad h.u) (SupO h.mp h.pb x S) :: pt (ad h.mp) (MemO E.2) :: pt (ad h.pb) (SkO h.mp x.pool) :: pt (ad h.ch) (ChO h.mp pb2 x) :: G) ?_)) ?_
      ·rintro v L1 ⟨rfl, rfl⟩
       have hon := machOnYes (b := b) kr_ (fd := 34) (ft := 120) (w := zp q) (u := zp b)
        (L := pt (ad q) (EndO h.ro slot gen E.1) :: pt (ad h.mp) (MemO E.2) :: pt (ad b) (Blk 200 (frF .nilFunc (mth 32 q) (mth 34 q) (mth 120 b) h.eo h.u slot (IntKind.i64.wrap ((f.v.cnt : Int) + 1)) f.v (zp q) (.pointer none) (.pointer none))) :: pt (ad h.u) (SupO h.mp h.pb x S) :: pt (ad h.pb) (SkO h.mp x.pool) :: pt (ad h.eo) (EnO h.mp h.ro h.ch) :: pt (ad h.ro) (RoO h.mp h.sp x) :: pt (ad h.sp) (SkO h.mp x.spare) :: pt (ad h.ch) (ChO h.mp pb2 x) :: G)
        ((endDone (b := q) (r := h.ro) (slot := slot) (gen := gen) (e := E.1) hea).mono (by rintro v L' ⟨rfl, rfl⟩; exact ⟨by rw [hq], rfl⟩)) kr_
        (Fx.ent (M := frB b .nilFunc (mth 32 q) (mth 34 q) (mth 120 b) h.eo h.u slot (IntKind.i64.wrap ((f.v.cnt : Int) + 1)) V (zp q) (.pointer none) (.pointer none) :: pt (ad q) (EndO h.ro slot gen E.1) :: pt (ad h.eo) (EnO h.mp h.ro h.ch) :: pt (ad h.ro) (RoO h.mp h.sp x) :: pt (ad h.sp) (SkO h.mp x.spare) :: pt (ad h.u) (SupO h.mp h.pb x S) :: pt (ad h.mp) (MemO E.2) :: pt (ad h.pb) (SkO h.mp x.pool) :: pt (ad h.ch) (ChO h.mp pb2 x) :: G) (by rw [hV]; exact ent)
         (frEnded_ (b := b) (q := q) (h := h) (x := x) (slot := slot) (gen := gen) (v := V) (e := E.1) hVc hs hq))
       refine hon.mono ?_
       rintro v L' ⟨rfl, w, rfl⟩
       exact ⟨rfl, .tuple #[], rfl⟩
      ·rintro v L' ⟨rfl, w, _, w2, _, w3, rfl⟩
       refine go ?_
       refine Ko rfl (Ec ?_) ⟨rfl, rfl⟩
       refine Et (M := pt (ad h.u) (SupO h.mp h.pb x S) :: pt (ad h.mp) (MemO E.2) :: _) (by exact ent) (Ec (Ec hback))
    | false =>
      have e1 : frStep (x.fr slot gen) m S f = (E.2, S, ⟨0, V, E.1, WalkS.zero, gNone, gNone, false⟩) := by unfold frStep; rw [hd, h0, hV]; simp only [bf, if_false, hE, hq]
      rw [e1]
      refine go ?_
      refine Sa rfl (machStep (b := b) kr_ (machGoes (b := b) kr_ hes
       (R2 := fun v L' => v = .tuple #[] ∧ L' = frB b (mth 232 b) (mth 32 q) (mth 34 q) (mth 120 b) h.eo h.u slot (IntKind.i64.wrap ((f.v.cnt : Int) + 1)) f.v (zp q) (.pointer none) (.pointer none) :: pt (ad q) (EndO h.ro slot gen E.1) :: pt (ad h.mp) (MemO E.2) :: pt (ad h.u) (SupO h.mp h.pb x S) :: pt (ad h.pb) (SkO h.mp x.pool) :: pt (ad h.eo) (EnO h.mp h.ro h.ch) :: pt (ad h.ro) (RoO h.mp h.sp x) :: pt (ad h.sp) (SkO h.mp x.spare) :: pt (ad h.ch) (ChO h.mp pb2 x) :: G) ?_)) ?_
      ·rintro v L1 ⟨rfl, rfl⟩
       refine (machOnNo (b := b) kr_ ((endDone (b := q) (r := h.ro) (slot := slot) (gen := gen) (e := E.1) hea).mono (by rintro v L' ⟨rfl, rfl⟩; exact ⟨by rw [hq], rfl⟩))).mono ?_
       rintro v L' ⟨rfl, rfl⟩
       exact ⟨rfl, rfl⟩
      ·rintro v L' ⟨rfl, w, _, w2, _, rfl⟩
       refine go ?_
       refine Ko rfl ?_ ⟨rfl, rfl⟩
       refine Et (FrO.closeE (h := h) (x := x) (gen := gen) (v := f.v) ⟨0, V, E.1, WalkS.zero, gNone, gNone, false⟩ rfl rfl hVc (by rw [hV]) rfl) (Ec ?_)
       exact Et Ent.swap (Ec (Ec hback))
   ·obtain ⟨kc0, kc1⟩ := kc h0
    subst hV
    refine Xo (a := ad b) (FrO.l_ hd h0) ?_
    rintro ⟨n1, n2, n3, ep⟩
    simp only [frLL, lc, ln]
    have e1 : frStep (x.fr slot gen) m S f = (m.tick, S, ⟨2, { f.v with cnt := f.v.cnt + 1, tag := cutE (m.at_ 2) }, f.e, ⟨[f.v.chunk], false⟩, gNone, gNone, false⟩) := by unfold frStep; rw [hd, h0]; rfl
    rw [e1]
    refine Xe (M := frB b (mth 191 b) n1 n2 n3 h.eo h.u slot (f.v.cnt : Nat) f.v ep (.pointer none) (.pointer none) :: pt (ad h.eo) (EnO h.mp h.ro h.ch) :: pt (ad h.mp) (MemO m) :: pt (ad h.ch) (ChO h.mp pb2 x) :: pt (ad h.u) (SupO h.mp h.pb x S) :: pt (ad h.pb) (SkO h.mp x.pool) :: pt (ad h.ro) (RoO h.mp h.sp x) :: pt (ad h.sp) (SkO h.mp x.spare) :: G) (by exact ent) (go ?_)
    refine Sa rfl (machStep (b := b) kr_ (frLook_ (b := b) (h := h) (x := x) (slot := slot) (gen := gen) (m := m) (v := { f.v with cnt := f.v.cnt + 1 }) (pb2 := pb2) f.e hVc hm.1 hl kc0 kc1)) ?_
    rintro v' L' ⟨rfl, w, rfl⟩
    refine go ?_
    refine Ko rfl (Ec ?_) ⟨rfl, rfl⟩
    refine Et (M := pt (ad h.u) (SupO h.mp h.pb x S) :: pt (ad h.mp) (MemO m.tick) :: _) (by exact ent) (Ec (Ec hback))
   ·subst hV
    refine Xo (a := ad b) (FrO.w_ hd h0) ?_
    rintro ⟨q, ep⟩
    simp only [frWL, lc, ln]
    obtain ⟨T, hT⟩ : ∃ T, walkStep x.link x.c m f.w = T := ⟨_, rfl⟩
    have hts := walkStepC (b := q) (ch := h.ch) (mp := h.mp) (sb := pb2) (x := x) (m := m) (s := f.w) hx hl
     (L := pt (ad b) (Blk 200 (frF .nilFunc (mth 235 q) (mth 236 q) (mth 237 b) h.eo h.u slot (IntKind.i64.wrap ((f.v.cnt : Int) + 1)) f.v ep (zp q) (.pointer none))) :: pt (ad q) (WalkO h.ch x.c f.w) :: pt (ad h.u) (SupO h.mp h.pb x S) :: pt (ad h.mp) (MemO m) :: pt (ad h.pb) (SkO h.mp x.pool) :: pt (ad h.eo) (EnO h.mp h.ro h.ch) :: pt (ad h.ro) (RoO h.mp h.sp x) :: pt (ad h.sp) (SkO h.mp x.spare) :: pt (ad h.ch) (ChO h.mp pb2 x) :: G)
    rw [hT] at hts
    cases hq : T.1.done with
    | true =>
      have e1 : frStep (x.fr slot gen) m S f = (T.2, supRet S f.v.tag T.1.l, frLeave (x.fr slot gen) { f.v with cnt := f.v.cnt + 1 } f.e T.1) := by unfold frStep; rw [hd, h0]; simp only [bf, if_false, hT, hq, if_true]
      rw [e1]
      refine go ?_
      refine Sa rfl (machStep (b := b) kr_ (machGoes (b := b) kr_ hts
       (R2 := fun v L' => v = .tuple #[] ∧ ∃ w : Value, L' = pt (ad b) (FrO h x slot gen (frLeave (x.fr slot gen) { f.v with cnt := f.v.cnt + 1 } f.e T.1)) :: pt (ad h.u) (SupO h.mp h.pb x (supRet S f.v.tag T.1.l)) :: pt (ad h.eo) (EnO h.mp h.ro h.ch) :: pt (ad h.ro) (RoO h.mp h.sp x) :: pt (ad h.sp) (SkO h.mp x.spare) :: pt (ad h.mp) (MemO T.2) :: pt (ad h.pb) (SkO h.mp x.pool) :: pt (ad h.ch) (ChO h.mp pb2 x) :: G) ?_)) ?_
      ·rintro v L1 ⟨rfl, rfl⟩
       have hon := machOnYes (b := b) kr_ (fd := 236) (ft := 237) (w := zp q) (u := zp b)
        (L := pt (ad q) (WalkO h.ch x.c T.1) :: pt (ad h.mp) (MemO T.2) :: pt (ad b) (Blk 200 (frF .nilFunc (mth 235 q) (mth 236 q) (mth 237 b) h.eo h.u slot (IntKind.i64.wrap ((f.v.cnt : Int) + 1)) f.v ep (zp q) (.pointer none))) :: pt (ad h.u) (SupO h.mp h.pb x S) :: pt (ad h.pb) (SkO h.mp x.pool) :: pt (ad h.eo) (EnO h.mp h.ro h.ch) :: pt (ad h.ro) (RoO h.mp h.sp x) :: pt (ad h.sp) (SkO h.mp x.spare) :: pt (ad h.ch) (ChO h.mp pb2 x) :: G)
        ((walkDone (b := q) (ch := h.ch) (c := x.c) (s := T.1)).mono (by rintro v L' ⟨rfl, rfl⟩; exact ⟨by rw [hq], rfl⟩)) kr_
        (Fx.ent (M := frB b .nilFunc (mth 235 q) (mth 236 q) (mth 237 b) h.eo h.u slot (IntKind.i64.wrap ((f.v.cnt : Int) + 1)) { f.v with cnt := f.v.cnt + 1 } ep (zp q) (.pointer none) :: pt (ad q) (WalkO h.ch x.c T.1) :: pt (ad h.u) (SupO h.mp h.pb x S) :: pt (ad h.eo) (EnO h.mp h.ro h.ch) :: pt (ad h.ro) (RoO h.mp h.sp x) :: pt (ad h.sp) (SkO h.mp x.spare) :: pt (ad h.mp) (MemO T.2) :: pt (ad h.pb) (SkO h.mp x.pool) :: pt (ad h.ch) (ChO h.mp pb2 x) :: G) (by exact ent)
         (frWalked_ (b := b) (q := q) (h := h) (x := x) (slot := slot) (gen := gen) (v := { f.v with cnt := f.v.cnt + 1 }) (S := S) f.e T.1 hVc hs hq b2 (by omega)))
       refine hon.mono ?_
       rintro v L' ⟨rfl, w, rfl⟩
       exact ⟨rfl, .tuple #[], rfl⟩
      ·rintro v L' ⟨rfl, w, _, w2, _, w3, rfl⟩
       refine go ?_
       refine Ko rfl (Ec ?_) ⟨rfl, rfl⟩
       refine Et (M := pt (ad h.u) (SupO h.mp h.pb x (supRet S f.v.tag T.1.l)) :: pt (ad h.mp) (MemO T.2) :: _) (by exact ent) (Ec (Ec hback))
    | false =>
      have e1 : frStep (x.fr slot gen) m S f = (T.2, S, ⟨2, { f.v with cnt := f.v.cnt + 1 }, f.e, T.1, gNone, gNone, false⟩) := by unfold frStep; rw [hd, h0]; simp only [bf, if_false, hT, hq]
      rw [e1]
      refine go ?_
      refine Sa rfl (machStep (b := b) kr_ (machGoes (b := b) kr_ hts
       (R2 := fun v L' => v = .tuple #[] ∧ L' = frB b (mth 232 b) (mth 235 q) (mth 236 q) (mth 237 b) h.eo h.u slot (IntKind.i64.wrap ((f.v.cnt : Int) + 1)) f.v ep (zp q) (.pointer none) :: pt (ad q) (WalkO h.ch x.c T.1) :: pt (ad h.mp) (MemO T.2) :: pt (ad h.u) (SupO h.mp h.pb x S) :: pt (ad h.pb) (SkO h.mp x.pool) :: pt (ad h.eo) (EnO h.mp h.ro h.ch) :: pt (ad h.ro) (RoO h.mp h.sp x) :: pt (ad h.sp) (SkO h.mp x.spare) :: pt (ad h.ch) (ChO h.mp pb2 x) :: G) ?_)) ?_
      ·rintro v L1 ⟨rfl, rfl⟩
       refine (machOnNo (b := b) kr_ ((walkDone (b := q) (ch := h.ch) (c := x.c) (s := T.1)).mono (by rintro v L' ⟨rfl, rfl⟩; exact ⟨by rw [hq], rfl⟩))).mono ?_
       rintro v L' ⟨rfl, rfl⟩
       exact ⟨rfl, rfl⟩
      ·rintro v L' ⟨rfl, w, _, w2, _, rfl⟩
       refine go ?_
       refine Ko rfl ?_ ⟨rfl, rfl⟩
       refine Et (FrO.closeW (h := h) (x := x) (gen := gen) (v := f.v) ⟨2, { f.v with cnt := f.v.cnt + 1 }, f.e, T.1, gNone, gNone, false⟩ rfl rfl hVc rfl rfl) (Ec ?_)
       exact Et Ent.swap (Ec (Ec hback))
   ·subst hV
    refine Xo (a := ad b) (FrO.p_ hd h0) ?_
    rintro ⟨q, ep, wp⟩
    simp only [frPL, lc, ln]
    obtain ⟨T, hT⟩ : ∃ T, pushStep x.spare m f.p = T := ⟨_, rfl⟩
    have hts := pushStepC (b := q) (sb := h.sp) (mp := h.mp) (k := x.spare) (m := m) (p := f.p) (hx.spare (n := m.ws.length) hl hm.2)
     (L := pt (ad b) (Blk 200 (frF .nilFunc (mth 239 q) (mth 240 q) (mth 241 b) h.eo h.u slot (IntKind.i64.wrap ((f.v.cnt : Int) + 1)) f.v ep wp (.pointer none))) :: pt (ad q) (PushO h.sp x.spare f.p) :: pt (ad h.u) (SupO h.mp h.pb x S) :: pt (ad h.mp) (MemO m) :: pt (ad h.pb) (SkO h.mp x.pool) :: pt (ad h.eo) (EnO h.mp h.ro h.ch) :: pt (ad h.ro) (RoO h.mp h.sp x) :: pt (ad h.sp) (SkO h.mp x.spare) :: pt (ad h.ch) (ChO h.mp pb2 x) :: G)
    rw [hT] at hts
    cases hq : T.1.done with
    | true =>
      have e1 : frStep (x.fr slot gen) m S f = (T.2, { S with xs := S.xs.drop (overK S.most S.xs) }, frLeft x.pool { f.v with cnt := f.v.cnt + 1 } S f.e f.w T.1) := by unfold frStep; rw [hd, h0]; simp only [bf, if_false, hT, hq, if_true]; rfl
      rw [e1]
      refine go ?_
      refine Sa rfl (machStep (b := b) kr_ (machGoes (b := b) kr_ hts
       (R2 := fun v L' => v = .tuple #[] ∧ ∃ w : Value, L' = pt (ad b) (FrO h x slot gen (frLeft x.pool { f.v with cnt := f.v.cnt + 1 } S f.e f.w T.1)) :: pt (ad h.u) (SupO h.mp h.pb x { S with xs := S.xs.drop (overK S.most S.xs) }) :: pt (ad h.pb) (SkO h.mp x.pool) :: pt (ad h.mp) (MemO T.2) :: pt (ad h.eo) (EnO h.mp h.ro h.ch) :: pt (ad h.ro) (RoO h.mp h.sp x) :: pt (ad h.sp) (SkO h.mp x.spare) :: pt (ad h.ch) (ChO h.mp pb2 x) :: G) ?_)) ?_
      ·rintro v L1 ⟨rfl, rfl⟩
       have hon := machOnYes (b := b) kr_ (fd := 240) (ft := 241) (w := zp q) (u := zp b)
        (L := pt (ad q) (PushO h.sp x.spare T.1) :: pt (ad h.mp) (MemO T.2) :: pt (ad b) (Blk 200 (frF .nilFunc (mth 239 q) (mth 240 q) (mth 241 b) h.eo h.u slot (IntKind.i64.wrap ((f.v.cnt : Int) + 1)) f.v ep wp (.pointer none))) :: pt (ad h.u) (SupO h.mp h.pb x S) :: pt (ad h.pb) (SkO h.mp x.pool) :: pt (ad h.eo) (EnO h.mp h.ro h.ch) :: pt (ad h.ro) (RoO h.mp h.sp x) :: pt (ad h.sp) (SkO h.mp x.spare) :: pt (ad h.ch) (ChO h.mp pb2 x) :: G)
        ((pushDoneC (b := q) (sb := h.sp) (k := x.spare) (p := T.1)).mono (by rintro v L' ⟨rfl, rfl⟩; exact ⟨by rw [hq], rfl⟩)) kr_
        (Fx.ent (M := frB b .nilFunc (mth 239 q) (mth 240 q) (mth 241 b) h.eo h.u slot (IntKind.i64.wrap ((f.v.cnt : Int) + 1)) { f.v with cnt := f.v.cnt + 1 } ep wp (.pointer none) :: pt (ad h.u) (SupO h.mp h.pb x S) :: pt (ad h.pb) (SkO h.mp x.pool) :: pt (ad h.mp) (MemO T.2) :: pt (ad h.eo) (EnO h.mp h.ro h.ch) :: pt (ad h.ro) (RoO h.mp h.sp x) :: pt (ad h.sp) (SkO h.mp x.spare) :: pt (ad h.ch) (ChO h.mp pb2 x) :: G) (by exact ent)
         (frLeft_ (b := b) (h := h) (x := x) (slot := slot) (gen := gen) (v := { f.v with cnt := f.v.cnt + 1 }) (S := S) f.e f.w T.1 hVc (by omega) hm0 hm2))
       refine hon.mono ?_
       rintro v L' ⟨rfl, w, rfl⟩
       exact ⟨rfl, .tuple #[], rfl⟩
      ·rintro v L' ⟨rfl, w, _, w2, _, w3, rfl⟩
       refine go ?_
       refine Ko rfl (Ec ?_) ⟨rfl, rfl⟩
       refine Et (M := pt (ad h.u) (SupO h.mp h.pb x { S with xs := S.xs.drop (overK S.most S.xs) }) :: pt (ad h.mp) (MemO T.2) :: _) (by exact ent) (Ec (Ec hback))
    | false =>
      have e1 : frStep (x.fr slot gen) m S f = (T.2, S, ⟨3, { f.v with cnt := f.v.cnt + 1 }, f.e, f.w, T.1, gNone, false⟩) := by unfold frStep; rw [hd, h0]; simp only [bf, if_false, hT, hq]
      rw [e1]
      refine go ?_
      refine Sa rfl (machStep (b := b) kr_ (machGoes (b := b) kr_ hts
       (R2 := fun v L' => v = .tuple #[] ∧ L' = frB b (mth 232 b) (mth 239 q) (mth 240 q) (mth 241 b) h.eo h.u slot (IntKind.i64.wrap ((f.v.cnt : Int) + 1)) f.v ep wp (.pointer none) :: pt (ad q) (PushO h.sp x.spare T.1) :: pt (ad h.mp) (MemO T.2) :: pt (ad h.u) (SupO h.mp h.pb x S) :: pt (ad h.pb) (SkO h.mp x.pool) :: pt (ad h.eo) (EnO h.mp h.ro h.ch) :: pt (ad h.ro) (RoO h.mp h.sp x) :: pt (ad h.sp) (SkO h.mp x.spare) :: pt (ad h.ch) (ChO h.mp pb2 x) :: G) ?_)) ?_
      ·rintro v L1 ⟨rfl, rfl⟩
       refine (machOnNo (b := b) kr_ ((pushDoneC (b := q) (sb := h.sp) (k := x.spare) (p := T.1)).mono (by rintro v L' ⟨rfl, rfl⟩; exact ⟨by rw [hq], rfl⟩))).mono ?_
       rintro v L' ⟨rfl, rfl⟩
       exact ⟨rfl, rfl⟩
      ·rintro v L' ⟨rfl, w, _, w2, _, rfl⟩
       refine go ?_
       refine Ko rfl ?_ ⟨rfl, rfl⟩
       refine Et (FrO.closeP (h := h) (x := x) (gen := gen) (v := f.v) ⟨3, { f.v with cnt := f.v.cnt + 1 }, f.e, f.w, T.1, gNone, false⟩ rfl rfl hVc rfl rfl) (Ec ?_)
       exact Et Ent.swap (Ec (Ec hback))
   ·subst hV
    refine Xo (a := ad b) (FrO.g_ hd h0) ?_
    rintro ⟨q, ep, wp⟩
    simp only [frGL, lc, ln]
    obtain ⟨T, hT⟩ : ∃ T, pushStep x.pool m f.g = T := ⟨_, rfl⟩
    have hts := giveStep (b := q) (mp := h.mp) (pb := h.pb) (k := x.pool) (m := m) (p := f.g) (hx.pool (n := m.ws.length) hl hm.2)
     (L := pt (ad b) (Blk 200 (frF .nilFunc (mth 208 q) (mth 188 q) (mth 259 b) h.eo h.u slot (IntKind.i64.wrap ((f.v.cnt : Int) + 1)) f.v ep wp (zp q))) :: pt (ad q) (GiveO h.pb x.pool f.g) :: pt (ad h.u) (SupO h.mp h.pb x S) :: pt (ad h.mp) (MemO m) :: pt (ad h.pb) (SkO h.mp x.pool) :: pt (ad h.eo) (EnO h.mp h.ro h.ch) :: pt (ad h.ro) (RoO h.mp h.sp x) :: pt (ad h.sp) (SkO h.mp x.spare) :: pt (ad h.ch) (ChO h.mp pb2 x) :: G)
    have e1 : frStep (x.fr slot gen) m S f = (T.2, S, ⟨4, { f.v with cnt := f.v.cnt + 1 }, f.e, f.w, f.p, T.1, T.1.done⟩) := by unfold frStep; rw [hd, h0]; simp only [bf, if_false, hT]
    rw [hT] at hts
    rw [e1]
    refine go ?_
    cases hq : T.1.done with
    | true =>
      refine Sa rfl (machStep (b := b) kr_ (machGoes (b := b) kr_ hts
       (R2 := fun v L' => v = .tuple #[] ∧ ∃ w : Value, w = .tuple #[] ∧ pt (ad q) (GiveO h.pb x.pool T.1) :: pt (ad h.mp) (MemO T.2) :: pt (ad b) (Blk 200 (frF .nilFunc (mth 208 q) (mth 188 q) (mth 259 b) h.eo h.u slot (IntKind.i64.wrap ((f.v.cnt : Int) + 1)) f.v ep wp (zp q))) :: pt (ad h.u) (SupO h.mp h.pb x S) :: pt (ad h.pb) (SkO h.mp x.pool) :: pt (ad h.eo) (EnO h.mp h.ro h.ch) :: pt (ad h.ro) (RoO h.mp h.sp x) :: pt (ad h.sp) (SkO h.mp x.spare) :: pt (ad h.ch) (ChO h.mp pb2 x) :: G = L') ?_)) ?_
      ·rintro v L1 ⟨rfl, rfl⟩
       exact machOnYes (b := b) kr_ ((giveDone (b := q) (pb := h.pb) (k := x.pool) (p := T.1)).mono (by rintro v L' ⟨rfl, rfl⟩; exact ⟨by rw [hq], rfl⟩)) kr_ frOver
      ·rintro v L' ⟨rfl, w, _, w2, _, w3, _, rfl⟩
       refine go ?_
       refine Ko rfl ?_ ⟨rfl, rfl⟩
       refine Et (Ek (a := ad b)) ?_
       refine Et (FrO.closeD (h := h) (x := x) (gen := gen) (v := f.v) ⟨4, { f.v with cnt := f.v.cnt + 1 }, f.e, f.w, f.p, T.1, true⟩ rfl rfl hVc rfl rfl) (Ec ?_)
       exact Et Ent.swap (Ec (Ec hback))
    | false =>
      refine Sa rfl (machStep (b := b) kr_ (machGoes (b := b) kr_ hts
       (R2 := fun v L' => v = .tuple #[] ∧ L' = frB b (mth 232 b) (mth 208 q) (mth 188 q) (mth 259 b) h.eo h.u slot (IntKind.i64.wrap ((f.v.cnt : Int) + 1)) f.v ep wp (zp q) :: pt (ad q) (GiveO h.pb x.pool T.1) :: pt (ad h.mp) (MemO T.2) :: pt (ad h.u) (SupO h.mp h.pb x S) :: pt (ad h.pb) (SkO h.mp x.pool) :: pt (ad h.eo) (EnO h.mp h.ro h.ch) :: pt (ad h.ro) (RoO h.mp h.sp x) :: pt (ad h.sp) (SkO h.mp x.spare) :: pt (ad h.ch) (ChO h.mp pb2 x) :: G) ?_)) ?_
      ·rintro v L1 ⟨rfl, rfl⟩
       refine (machOnNo (b := b) kr_ ((giveDone (b := q) (pb := h.pb) (k := x.pool) (p := T.1)).mono (by rintro v L' ⟨rfl, rfl⟩; exact ⟨by rw [hq], rfl⟩))).mono ?_
       rintro v L' ⟨rfl, rfl⟩
       exact ⟨rfl, rfl⟩
      ·rintro v L' ⟨rfl, w, _, w2, _, rfl⟩
       refine go ?_
       refine Ko rfl ?_ ⟨rfl, rfl⟩
       refine Et (FrO.closeG (h := h) (x := x) (gen := gen) (v := f.v) ⟨4, { f.v with cnt := f.v.cnt + 1 }, f.e, f.w, f.p, T.1, false⟩ rfl rfl hVc rfl rfl) (Ec ?_)
       exact Et Ent.swap (Ec (Ec hback))
end
section
variable {L F G : St}
theorem endsFree {h : FrH} {x : Cn} (slot : Nat) (gen : Int) (hs : slot < x.sl) [t : Take L (ad h.eo) (EnO h.mp h.ro h.ch) F] {F2 : St} [c : Take F (ad h.ro) (RoO h.mp h.sp x) F2] :
  FX 48 [zp h.eo, zp h.u, ii slot, ii gen] L (fun v L' => ∃ b, v = .tuple #[zp b, ii 0] ∧ L' = pt (ad b) (FrO h x slot gen FrS.init) :: L) := by
 refine Fm Tryz.func48 k48 ?_
 dsimp only [c48, eL]
 refine Xe (Et (Eo t.out) (Ec (Eo c.out))) (go ?_)
 refine Sa rfl (rootsEnd (g := h.ro) (mp := h.mp) (sb := h.sp) (x := x) slot gen hs) ?_
 rintro v L' ⟨e, rfl, rfl⟩
 refine go ?_
 refine Sx.bx rfl rfl fun b => ?_
 refine Sr (frF .nilFunc .nilFunc .nilFunc .nilFunc h.eo h.u slot 0 ⟨0, 0, -1, -1, 0, 0, 0⟩ (zp e) (.pointer none) (.pointer none)) rfl (go ?_)
 refine Sa rfl (machThrough (b := b) (machOnNo (b := b) kr_ (endDone (b := e) (r := h.ro) (slot := slot) (gen := gen) (e := EndS.init) (by show 0 ≤ 1; omega)))) ?_
 rintro v' L' ⟨rfl, w', rfl, rfl⟩
 refine go ?_
 refine Kr.two (.inr rfl) rfl rfl ?_ ⟨b, rfl, rfl⟩
 refine Et (Ek (a := ad b)) ?_
 refine Et (Ec (Ek (a := ad e))) ?_
 refine Et (FrO.closeE (h := h) (x := x) (gen := gen) (v := ⟨0, 0, -1, -1, 0, 0, 0⟩) FrS.init rfl rfl rfl rfl rfl) (Ec ?_)
 exact Et (Ec (Eo c.back)) (Eo t.back)
theorem frDoneY {b : Nat} {h : FrH} {x : Cn} {slot : Nat} {gen : Int} {s : FrS} {F1 : St} (hd : s.done = true) [t1 : Take L (ad b) (FrO h x slot gen s) F1] : FX 56 [zp b] L (fun v L' => v = .bool true ∧ L = L') := by
 refine Fx.kept (t := t1) ?_
 refine Fm Tryz.func56 k56 ?_
 dsimp only [c56, eL]
 refine Xe (Eo t1.out) ?_
 by_cases h4 : s.at_ = 4
 ·refine Xo (a := ad b) (FrO.d_ hd h4) ?_
  rintro ⟨q, ⟨n1, n2, n3⟩, ep, wp⟩
  simp only [frDL, lc, ln]
  refine go ?_
  refine Sa rfl (machDoneYes (b := b)) ?_
  rintro v' L' ⟨rfl, rfl⟩
  refine go ?_
  exact Ko rfl (FrO.closeD (v := s.v) s hd h4 rfl rfl rfl) ⟨rfl, rfl⟩
 ·refine Xo (a := ad b) (FrO.s_ hd h4) ?_
  rintro ⟨n1, n2, n3, ep⟩
  simp only [frSL, lc, ln]
  refine go ?_
  refine Sa rfl (machDoneYes (b := b)) ?_
  rintro v' L' ⟨rfl, rfl⟩
  refine go ?_
  exact Ko rfl (FrO.closeS (v := s.v) s hd h4 rfl rfl) ⟨rfl, rfl⟩
theorem frCodeD {b : Nat} {h : FrH} {x : Cn} {slot : Nat} {gen : Int} {s : FrS} {F1 : St} (hd : s.done = true) [t1 : Take L (ad b) (FrO h x slot gen s) F1] : FX 50 [zp b] L (fun v L' => v = ii (s.v.code : Nat) ∧ L = L') := by
 refine Fx.kept (t := t1) ?_
 refine Fm Tryz.func50 k50 ?_
 dsimp only [c50, eL]
 refine Xe (Eo t1.out) (go ?_)
 refine Sa rfl (frDoneY (b := b) (h := h) (x := x) (slot := slot) (gen := gen) (s := s) hd) ?_
 rintro v L' ⟨rfl, rfl⟩
 refine go ?_
 by_cases h4 : s.at_ = 4
 ·refine Sx.openp (a := ad b) (FrO.d_ hd h4) ?_
  rintro ⟨q, ⟨n1, n2, n3⟩, ep, wp⟩
  simp only [frDL, lc, ln]
  refine go ?_
  exact Ko rfl (FrO.closeD (v := s.v) s hd h4 rfl rfl rfl) ⟨rfl, rfl⟩
 ·refine Sx.openp (a := ad b) (FrO.s_ hd h4) ?_
  rintro ⟨n1, n2, n3, ep⟩
  simp only [frSL, lc, ln]
  refine go ?_
  exact Ko rfl (FrO.closeS (v := s.v) s hd h4 rfl rfl) ⟨rfl, rfl⟩
theorem frPointD {b : Nat} {h : FrH} {x : Cn} {slot : Nat} {gen : Int} {s : FrS} {F1 : St} (hd : s.done = true) [t1 : Take L (ad b) (FrO h x slot gen s) F1] : FX 51 [zp b] L (fun v L' => v = ii (s.v.point : Nat) ∧ L = L') := by
 refine Fx.kept (t := t1) ?_
 refine Fm Tryz.func51 k51 ?_
 dsimp only [c51, eL]
 refine Xe (Eo t1.out) ?_
 by_cases h4 : s.at_ = 4
 ·refine Xo (a := ad b) (FrO.d_ hd h4) ?_
  rintro ⟨q, ⟨n1, n2, n3⟩, ep, wp⟩
  simp only [frDL, lc, ln]
  refine go ?_
  exact Ko rfl (FrO.closeD (v := s.v) s hd h4 rfl rfl rfl) ⟨rfl, rfl⟩
 ·refine Xo (a := ad b) (FrO.s_ hd h4) ?_
  rintro ⟨n1, n2, n3, ep⟩
  simp only [frSL, lc, ln]
  refine go ?_
  exact Ko rfl (FrO.closeS (v := s.v) s hd h4 rfl rfl) ⟨rfl, rfl⟩
theorem frBackD {b : Nat} {h : FrH} {x : Cn} {slot : Nat} {gen : Int} {s : FrS} {F1 : St} (hd : s.done = true) [t1 : Take L (ad b) (FrO h x slot gen s) F1] : FX 52 [zp b] L (fun v L' => v = ii (s.v.back : Nat) ∧ L = L') := by
 refine Fx.kept (t := t1) ?_
 refine Fm Tryz.func52 k52 ?_
 dsimp only [c52, eL]
 refine Xe (Eo t1.out) ?_
 by_cases h4 : s.at_ = 4
 ·refine Xo (a := ad b) (FrO.d_ hd h4) ?_
  rintro ⟨q, ⟨n1, n2, n3⟩, ep, wp⟩
  simp only [frDL, lc, ln]
  refine go ?_
  exact Ko rfl (FrO.closeD (v := s.v) s hd h4 rfl rfl rfl) ⟨rfl, rfl⟩
 ·refine Xo (a := ad b) (FrO.s_ hd h4) ?_
  rintro ⟨n1, n2, n3, ep⟩
  simp only [frSL, lc, ln]
  refine go ?_
  exact Ko rfl (FrO.closeS (v := s.v) s hd h4 rfl rfl) ⟨rfl, rfl⟩
theorem frSlotD {b : Nat} {h : FrH} {x : Cn} {slot : Nat} {gen : Int} {s : FrS} {F1 : St} (hd : s.done = true) [t1 : Take L (ad b) (FrO h x slot gen s) F1] : FX 60 [zp b] L (fun v L' => v = ii s.v.slot ∧ L = L') := by
 refine Fx.kept (t := t1) ?_
 refine Fm Tryz.func60 k60 ?_
 dsimp only [c60, eL]
 refine Xe (Eo t1.out) ?_
 by_cases h4 : s.at_ = 4
 ·refine Xo (a := ad b) (FrO.d_ hd h4) ?_
  rintro ⟨q, ⟨n1, n2, n3⟩, ep, wp⟩
  simp only [frDL, lc, ln]
  refine go ?_
  exact Ko rfl (FrO.closeD (v := s.v) s hd h4 rfl rfl rfl) ⟨rfl, rfl⟩
 ·refine Xo (a := ad b) (FrO.s_ hd h4) ?_
  rintro ⟨n1, n2, n3, ep⟩
  simp only [frSL, lc, ln]
  refine go ?_
  exact Ko rfl (FrO.closeS (v := s.v) s hd h4 rfl rfl) ⟨rfl, rfl⟩
end
section
variable {L F G : St}
theorem endingNew {mp : Nat} {m : Mm} {x : Cn} (hx : x.ok) (hl : x.len ≤ m.ws.length) [t : Take L (ad mp) (MemO m) F] :
  FX 47 [zp mp, x.v] L (fun v L' => ∃ eo ro sp ch pb, v = .tuple #[zp eo, ii 0] ∧
   L' = pt (ad eo) (EnO mp ro ch) :: pt (ad ch) (ChO mp pb x) :: pt (ad pb) (SkO mp x.pool) :: pt (ad ro) (RoO mp sp x) :: pt (ad sp) (SkO mp x.spare) :: L) := by
 refine Fm Tryz.func47 k47 ?_
 dsimp only [c47, eL]
 refine Cx.sq ?_
 refine Cx.rg ?_
 refine Sx.bx rfl rfl fun g0 => (go ?_)
 refine Sa rfl (rootsNew (mp := mp) (m := m) hx hl) ?_
 rintro v L' ⟨ro, sp, rfl, rfl⟩
 refine go ?_
 refine Sa rfl (chainNew (mp := mp) (m := m) hx hl) ?_
 rintro v L' ⟨ch, pb, rfl, rfl⟩
 refine go ?_
 refine Sx.bx rfl rfl fun eo => ?_
 refine Sr [zp mp, zp ro, zp ch] rfl (go ?_)
 refine Kr.two (.inr rfl) rfl rfl ?_ ⟨eo, ro, sp, ch, pb, rfl, rfl⟩
 refine Ec (Ec (Ec (Ec (Ec ?_))))
 exact Ed
structure He where
 eo : Nat
 ro : Nat
 sp : Nat
 ch : Nat
 pb : Nat
abbrev ehV (x : Cn) (n : Hn) (e : He) (r r2 : OA) (k c c2 : Nat) : List Value :=
 [ii x.w, ii x.c, ii x.wd, ii x.sl, ii x.ca, ii x.ba, zp n.mp, zp n.ro, zp n.g, zp e.eo, zp n.pb, .slice r k c, zp n.w, .slice r2 k c2]
abbrev ehF (x : Cn) (n : Hn) (e : He) (r r2 : OA) (k c c2 : Nat) (Q : Nat → Who) (S S2 : Nat → SupS) (m m2 : Mm) (G : St) : St :=
 pt (ad n.a) (Blk 97 (ehV x n e r r2 k c c2)) :: pt r (Row 47 1 k c (ptrs k fun i => (Q i).u)) :: pt r2 (Row 81 1 k c2 (ptrs k fun i => (Q i).s)) ::
 pt (ad n.mp) (MemO m) :: pt (ad n.pb) (SkO n.mp x.pool) :: pt (ad n.ro) (RoO n.mp n.sp x) :: pt (ad n.sp) (SkO n.mp x.spare) :: pt (ad n.g) (GrO n.mp x) ::
 pt (ad n.w) (RWO x n.rm n.rp n.rs n.re) :: pt (ad n.rm) (RMemO m2) :: pt (ad n.rp) (RSkO n.rm x.pool) :: pt (ad n.rs) (RSkO n.rm x.spare) :: pt (ad n.re) (REpO x n.rm) ::
 pt (ad e.eo) (EnO n.mp e.ro e.ch) :: pt (ad e.ro) (RoO n.mp e.sp x) :: pt (ad e.sp) (SkO n.mp x.spare) :: pt (ad e.ch) (ChO n.mp e.pb x) :: pt (ad e.pb) (SkO n.mp x.pool) ::
 (many k (fun i => whoL n.mp n.w x (Q i) (S i) (S2 i)) ++ G)
set_option maxHeartbeats 4000000 in
theorem enMade {x : Cn} (hx : x.ok) : FX 46 [x.v] L (fun v L' => ∃ (n : Hn) (e : He) (r r2 c c2 : Nat) (Q : Nat → Who), v = zp n.a ∧
  L' = ehF x n e (ad r) (ad r2) 3 c c2 Q (fun _ => SupS.nil x.ca) (fun _ => SupS.nil x.ca) (allM x) (allM x) L) := by
 obtain ⟨b1, b2, b3, b4, b5, b6, b7⟩ := hx.b
 have hlen := hx.len_le
 have hl1 : 1 ≤ x.len := by unfold Cn.len; omega
 have hpl := poolM_len x
 have hzl := zeroM_len x
 have hal := allM_len x
 have hroot : x.root + x.sl = x.slot := by unfold Cn.root Cn.slot; omega
 have hslot : x.slot + x.sl = x.link := by unfold Cn.slot Cn.link; omega
 have hzr : zeroRt x (fillM x.spare (fillM x.pool (zeroM x))) x.sl = allM x := by
  refine zeroRt_same (m := allM x) (by rw [hal]; have : x.link ≤ x.len := by unfold Cn.link Cn.len; omega
                                       omega) (fun i hi => ?_) x.sl (Nat.le_refl _)
  exact allM_at hx (by unfold Cn.root; omega) (by unfold Cn.root; omega) (by omega) (by omega)
 refine Fm Tryz.func46 k46 ?_
 dsimp only [c46, eL]
 refine Cx.sq ?_
 refine Cx.rg ?_
 refine Sx.bx rfl rfl fun g0 => (go ?_)
 refine Sa rfl (layLen (x.w : Int) x.c x.wd x.sl x.ca x.ba hx) ?_
 rintro v L' ⟨rfl, rfl⟩
 rw [x.lenC]
 refine go ?_
 refine Sa rfl (cellsNew x.len hl1 hlen) ?_
 rintro v L' ⟨mp, rfl, rfl⟩
 refine go ?_
 refine Sa rfl (chainNew (mp := mp) (m := zeroM x) hx (by omega)) ?_
 rintro v L' ⟨ch, pb, rfl, rfl⟩
 refine go ?_
 refine Sa rfl (rootsNew (mp := mp) (m := zeroM x) hx (by omega)) ?_
 rintro v L' ⟨ro, sp, rfl, rfl⟩
 refine go ?_
 refine Sa rfl (grantNew (mp := mp) (m := zeroM x) hx (by omega)) ?_
 rintro v L' ⟨g, rfl, rfl⟩
 refine go ?_
 refine Sa rfl (endingNew (mp := mp) (m := zeroM x) hx (by omega)) ?_
 rintro v L' ⟨eo, ro2, sp2, ch2, pb3, rfl, rfl⟩
 refine go ?_
 refine Sa rfl (chainPool (g := ch) (mp := mp) (sb := pb) (x := x)) ?_
 rintro v L' ⟨rfl, rfl⟩
 refine go ?_
 refine Sa rfl (chainFill (g := ch) (mp := mp) (sb := pb) (x := x) (m := zeroM x) (hx.pool (by omega) (by omega))) ?_
 rintro v L' rfl
 refine go ?_
 refine Sa rfl (rootsFill (g := ro) (mp := mp) (sb := sp) (x := x) (m := fillM x.pool (zeroM x)) hx (by rw [fillM_len]; omega)) ?_
 rintro v L' rfl
 rw [hzr]
 refine go ?_
 refine Xd rfl kr_ (ge ?_)
 refine Eb kr_ rfl rfl (chainPool (g := ch) (mp := mp) (sb := pb) (x := x)) (ge ?_)
 refine Ea kr_ rfl rfl (refWNew hx) (.dep rfl (.dep rfl (.keep (fun v L' ⟨_, _, _, _, _, _, e⟩ => by subst e; exact Has.blk) .nil))) ?_
 rintro v L' ⟨w, rm, rp, rs, re, rfl, rfl⟩
 refine ge ?_
 refine Ev.bxH kr_ rfl rfl rfl (Pd kr_) fun a => (ge ?_)
 refine go ?_
 refine Cx.lp (α := {p : Nat × (Nat → Who) × (OA × Nat) × (OA × Nat) // p.1 ≤ 3})
  (fun p => [(1, zp g0), (3, zp mp), (13, zp a), (14, ii (p.1.1 : Nat))])
  (fun p => pt (ad g0) (Blk 24 x.l) :: ehF x ⟨a, mp, ro, sp, g, pb, w, rm, rp, rs, re⟩ ⟨eo, ro2, sp2, ch2, pb3⟩ p.1.2.2.1.1 p.1.2.2.2.1 p.1.1 p.1.2.2.1.2 p.1.2.2.2.2 p.1.2.1 (fun _ => SupS.nil x.ca) (fun _ => SupS.nil x.ca) (allM x) (allM x) L)
  (fun p => 3 - p.1.1) ⟨(0, fun _ => ⟨0, 0, 0⟩, (none, 0), (none, 0)), Nat.zero_le _⟩ sb4 ?_ ?_
 ·dsimp only [ehF]
  rw [many_zero]
  refine Et (Ek (a := ad g0)) (Ec ?_)
  refine Et (Ek (a := ad a)) (Ec ?_)
  refine Et (Ent.rownil 81 1) (Et (Ent.rownil 47 1) (Ec (Ec ?_)))
  simp only [ln]
  rw [show allM x = fillM x.spare (fillM x.pool (zeroM x)) from rfl]
  exact ent
 rintro ⟨⟨j, Q, ⟨r, c⟩, ⟨r2, c2⟩⟩, hj⟩
 dsimp only [ehF] at hj ⊢
 refine go ?_
 refine Xi rfl (fun h => ?_) (fun h => ?_)
 ·refine go ?_
  refine Sa rfl (supNew (mp := mp) (m := allM x) hx (by omega)) ?_
  rintro v L' ⟨u, pb2, rfl, rfl⟩
  refine go ?_
  refine Sx.bs (sz := 1) rfl rfl fun q => ?_
  refine Sx.ap (ra := r) rfl rfl (Rd.row (b := q) (E := 47) (cap := 1) rfl) rfl (by simp [maxLen]; omega) (by omega) fun r' c' hc => (go ?_)
  refine Cx.orde rfl kr_ (ge ?_)
  refine Ea kr_ rfl rfl (refSupply (w := w) (rm := rm) (rp := rp) (rs := rs) (re := re) (x := x)) (.dep rfl (.keep (fun v L' ⟨_, _, _, _, e⟩ => by subst e; exact Has.cell rfl) .nil)) ?_
  rintro v L' ⟨s, st, lm, rfl, rfl⟩
  refine ge ?_
  refine Ev.bsH (sz := 1) kr_ rfl rfl rfl (.dep rfl (.keep (fun v L' ⟨_, _, e⟩ => by subst e; exact Has.cell rfl) .nil)) fun q2 => (ge ?_)
  refine Ev.apH (ra := r2) kr_ rfl rfl rfl (Rd.row (b := q2) (E := 81) (cap := 1) rfl) rfl (by simp [maxLen]; omega) (by omega) (Pd kr_) fun r2' c2' hc2 hk2 => (ge ?_)
  refine Es (b := a) kr_ rfl rfl rfl rfl rfl (by rfl) rfl (Pd kr_) (ge ?_)
  refine go ?_
  rw [w64 (n := (j : Int) + 1) (by omega) (by omega)]
  refine Kn ⟨(j + 1, updQ Q j ⟨u, pb2, s⟩, (r', c'), (r2', c2')), by dsimp only; omega⟩ sb4 ?_ (by dsimp only; omega)
  have eu : ptrs j (fun i => (updQ Q j ⟨u, pb2, s⟩ i).u) = ptrs j fun i => (Q i).u := ptrs_congr fun i hi => by simp [updQ, show i ≠ j by omega]
  have es : ptrs j (fun i => (updQ Q j ⟨u, pb2, s⟩ i).s) = ptrs j fun i => (Q i).s := ptrs_congr fun i hi => by simp [updQ, show i ≠ j by omega]
  have em : many j (fun i => whoL mp w x (updQ Q j ⟨u, pb2, s⟩ i) (SupS.nil x.ca) (SupS.nil x.ca)) = many j fun i => whoL mp w x (Q i) (SupS.nil x.ca) (SupS.nil x.ca) := many_congr fun i hi => by simp [updQ, show i ≠ j by omega]
  dsimp only [ehF]
  rw [ptrs_succ, ptrs_succ, many_succ, eu, es, em]
  simp only [updQ, if_true, List.append_assoc]
  refine Et (Ek (a := ad g0)) (Ec ?_)
  refine Et (RSupO.close (a := ad s) (st := st) (lm := lm) (w := w) (SupS.nil x.ca) rfl rfl rfl) ?_
  iterate 18 (refine Em ?_)
  refine Et ?_ (Ent.deep (N := whoL mp w x ⟨u, pb2, s⟩ (SupS.nil x.ca) (SupS.nil x.ca)))
  simp only [whoL, lc, ln]
  exact ent
 ·obtain rfl : j = 3 := by omega
  refine Cx.rowkey (a := r) fun _ _ _ hk1 => ?_
  refine Cx.rowkey (a := r2) fun _ _ _ hk2 => ?_
  obtain ⟨ra, rfl⟩ : ∃ g, r = ad g := by
   rcases hk1 with h | h
   ·omega
   ·exact h
  obtain ⟨rb, rfl⟩ : ∃ g, r2 = ad g := by
   rcases hk2 with h | h
   ·omega
   ·exact h
  refine go ?_
  exact Ko rfl Ed ⟨⟨a, mp, ro, sp, g, pb, w, rm, rp, rs, re⟩, ⟨eo, ro2, sp2, ch2, pb3⟩, ra, rb, c, c2, Q, rfl, rfl⟩
end
section
variable {L F G : St}
end
end
structure ColS where
 at_ : Nat
 a : AdvS
 g : PushS
 done : Bool
def ColS.init : ColS := ⟨0, AdvS.init, ⟨[], 0, 0, true⟩, false⟩
section
open Go
attribute [local irreducible] Sx Cx Rx Fx Krg Ksq Kbl Klp Kr
section
variable {L F G : St}
end
end
structure Agree (A : Nat → Prop) (m m2 : Mm) : Prop where
 len : m2.ws.length = m.ws.length
 n : m2.n = m.n
 at_ : ∀ a, A a → m2.at_ a = m.at_ a
structure Covers (A : Nat → Prop) (k : Sk) : Prop where
 h : A k.head
 l : ∀ i, i < k.n → A (k.links + i)
structure TkOk (k : Sk) (len : Nat) (r : Mm × SupS × TakeS) : Prop where
 m : r.1.ok
 l : r.1.ws.length = len
 t : r.2.2.ok
 q : r.2.2.done = false → r.2.2.at_ = 1 → r.2.2.q.ok k
def SupS.size (s : SupS) : Nat := s.xs.length + s.lm.size
structure AlGood (x : Cn) (slot : Nat) (r : Mm × SupS × AlS) : Prop where
 l : r.1.ws.length = x.len
 m : r.1.ok
 k : (rtOf (r.1.at_ (x.root + slot))).ok
 s : r.2.1.xs.length + r.2.1.lm.size ≤ 1000
 m0 : 0 ≤ r.2.1.most
 m2 : r.2.1.most ≤ 64
 a : r.2.2.done = false → AlOk x r.2.2
structure AlRun (x : Cn) (p : AlP) (r : Mm × SupS × AlS) (N : Nat) : Prop where
 good : ∀ j, j ≤ N → AlGood x p.slot (alIt p j r)
 nd : ∀ j, j < N → (alIt p j r).2.2.done = false
 d : (alIt p N r).2.2.done = true
structure RefOk (k : Sk) (a : AlS) : Prop where
 code : a.v.code = 0
 obj : a.v.obj = Hd.zero
 hd : a.at_ ≤ 2 → a.v.hand = -1
 z : a.at_ ≤ 2 → a.v.zat = 0
 a5 : a.at_ ≤ 5
 ask : a.at_ = 2 → a.v.asked = true
 q : a.at_ = 2 → a.t.q.ok k
 t1 : a.at_ = 2 → a.t.at_ = 1 ∧ a.t.done = false
 n1 : a.at_ ≠ 1
 ti : a.at_ = 2 → a.t.is_ = false
theorem giveInit_nil (k : Sk) : giveInit k [] = PushS.init [] := giveInit_yes ⟨List.nodup_nil, fun _ h => (by cases h)⟩
theorem alClose_none {k : Sk} {S : SupS} {v : AlV} {t : TakeS} {code : Nat} {o : Hd} (hh : v.hand = -1) (hs : (S.xs.length : Int) ≤ S.most) :
  alClose k S v t code o = (S, ⟨6, { v with code := code, obj := o, point := v.cnt, ends := true, hand := -1 }, t, PushS.init [], true⟩) := by
 unfold alClose
 rw [if_neg (by omega)]
 have h0 : overK S.most S.xs = 0 := by unfold overK; omega
 simp only [h0, List.take_zero, List.drop_zero, giveInit_nil]
 simp [PushS.init]
section
variable {x : Cn} {slot : Nat} {gen : Int} {n : Nat} {m : Mm} {S : SupS}
abbrev alR (m : Mm) (S : SupS) : Mm × SupS × AlS := (m, S, AlS.init)
end
def clrM (m : Mm) (a : Nat) : Nat → Mm
 | 0 => m
 | i + 1 => (clrM m a i).put (a + i) 0
theorem clrM_len (m : Mm) (a : Nat) : ∀ i, (clrM m a i).ws.length = m.ws.length
 | 0 => rfl
 | i + 1 => by show ((clrM m a i).put (a + i) 0).ws.length = _; rw [Mm.len_put]; exact clrM_len m a i
theorem clrM_ok {m : Mm} (h : m.ok) (a : Nat) : ∀ i, (clrM m a i).ok
 | 0 => h
 | i + 1 => Mm.ok_put (clrM_ok h a i) (by omega)
theorem clrM_at {m : Mm} {a : Nat} : ∀ {i : Nat}, a + i ≤ m.ws.length → ∀ b, (clrM m a i).at_ b = if a ≤ b ∧ b < a + i then 0 else m.at_ b
 | 0, _, b => by rw [if_neg (by omega)]; rfl
 | i + 1, h, b => by
   show ((clrM m a i).put (a + i) 0).at_ b = _
   rw [Mp _ (by rw [clrM_len]; omega), clrM_at (by omega) b]
   by_cases h1 : a + i = b
   ·rw [if_pos h1, if_pos (by omega)]
   ·rw [if_neg h1]
    by_cases h2 : a ≤ b ∧ b < a + i
    ·rw [if_pos h2, if_pos (by omega)]
    ·rw [if_neg h2, if_neg (by omega)]
section
variable {x : Cn} {slot : Nat} {gen : Int} {n : Nat} {m : Mm} {S : SupS}
end
section
variable {x : Cn} {slot : Nat} {gen : Int} {n : Nat} {m : Mm} {S : SupS}
end
section
open Go
attribute [local irreducible] Sx Cx Rx Fx Krg Ksq Kbl Klp Kr
theorem crStep_ok {k : Sk} {ro cl len : Nat} {m : Mm} {c : CreS} (hk : k.ok len) (hm : m.ok) (hcl : cl ≤ 3) (h : c.ok k) (hn : c.cnt + 1 ≤ 1000000) : (crStep k ro cl m c).1.ok k ∧ (crStep k ro cl m c).2.ok ∧ (crStep k ro cl m c).2.ws.length = m.ws.length ∧ (crStep k ro cl m c).1.cnt ≤ c.cnt + 1 := by
 obtain ⟨h1, h2, h3, h4, h5⟩ := h
 have hq := popStep_ok hk hm h2
 have hpm := popStep_mem hk hm h2
 unfold crStep
 split
 ·exact ⟨⟨h1, h2, h3, h4, h5⟩, hm, rfl, by show c.cnt ≤ c.cnt + 1; omega⟩
 ·split
  ·rename_i ha
   split
   ·unfold crPopped
    split
    ·exact ⟨⟨by show c.at_ ≤ 2; omega, hq, h3, fun h => absurd ha h, hn⟩, hpm.1, hpm.2, Nat.le_refl _⟩
    ·rename_i s l hg
     exact ⟨⟨by show 1 ≤ 2; omega, hq, h3, fun _ => hq.g s (by dsimp only at hg; rw [hg]; simp), hn⟩, hpm.1, hpm.2, Nat.le_refl _⟩
   ·exact ⟨⟨h1, hq, h3, fun h => absurd ha h, hn⟩, hpm.1, hpm.2, Nat.le_refl _⟩
  ·rename_i ha
   exact ⟨⟨by show 2 ≤ 2; omega, h2, Ml hm _, fun _ => h4 (by omega), hn⟩, hm, rfl, Nat.le_refl _⟩
  ·rename_i ha _
   exact ⟨⟨h1, h2, h3, h4, hn⟩, Mm.ok_put hm (Rt.w_lt (nextRt_ok h3 hcl)), Mm.len_put, Nat.le_refl _⟩
theorem crIt_ok {k : Sk} {ro cl len : Nat} {m : Mm} (hk : k.ok len) (hm : m.ok) (hcl : cl ≤ 3) : ∀ j, j ≤ 100000 → (crIt k ro cl j (CreS.init, m)).1.ok k ∧ (crIt k ro cl j (CreS.init, m)).2.ok ∧ (crIt k ro cl j (CreS.init, m)).2.ws.length = m.ws.length ∧ (crIt k ro cl j (CreS.init, m)).1.cnt ≤ j
 | 0, _ => ⟨⟨by show 0 ≤ 2; omega, PopS.ok_init hk.n1 1, by show 0 < 18446744073709551616; omega, fun h => absurd rfl h, by show 0 ≤ 1000000; omega⟩, hm, rfl, Nat.le_refl _⟩
 | j + 1, hj => by
   obtain ⟨a, b, c, d⟩ := crIt_ok hk hm hcl j (by omega)
   have := crStep_ok (ro := ro) hk b hcl a (by omega)
   exact ⟨this.1, this.2.1, this.2.2.1.trans c, by have := this.2.2.2; show (crStep k ro cl (crIt k ro cl j (CreS.init, m)).2 (crIt k ro cl j (CreS.init, m)).1).1.cnt ≤ j + 1; omega⟩
section
variable {L F G : St}
theorem alDone {b g u pb : Nat} {x : Cn} {slot : Nat} {gen : Int} {n : Nat} {s : AlS} {F1 : St} (hd : s.done = true) [t1 : Take L (ad b) (AlO g u pb x slot gen n s) F1] : FX 27 [zp b] L (fun v L' => v = .bool true ∧ L = L') := by
 refine Fx.kept (t := t1) ?_
 refine Fm Tryz.func27 k27 ?_
 dsimp only [c27, eL]
 refine Xe (Eo t1.out) ?_
 refine Xo (a := ad b) (AlO.dd_ hd) ?_
 rintro ⟨q, n1, n2, n3, tp⟩
 simp only [alDL, lc, ln]
 refine go ?_
 refine Sa rfl (machDoneYes (b := b)) ?_
 rintro v L' ⟨rfl, rfl⟩
 refine go ?_
 exact Ko rfl (AlO.closeD (v := s.v) (rt := rtOf s.v.was) s hd rfl rfl rfl rfl) ⟨rfl, rfl⟩
end
theorem region0 {x : Cn} (hx : x.ok) (cl : Nat) (hcl : cl ≤ 3) : ∃ M, (crIt x.spare x.root cl 10 (CreS.init, allM x)).2 = M ∧ M.n = 5 ∧ M.ws.length = x.len ∧ M.ok ∧ Pool x.pool M (iotaI x.c) ∧ rtOf (M.at_ (x.root + 0)) = ⟨1, 1, cl, 0⟩ ∧ (∀ a, a ≠ 1 → a ≠ x.root → M.at_ a = (allM x).at_ a) ∧
  Pool x.spare (allM x) (((0 : Nat) : Int) :: (iotaI x.sl).tail) ∧ laterT (rtOf ((allM x).at_ (x.root + 0))).gen = 1 := by
 obtain ⟨b1, b2, b3, b4, b5, b6, b7⟩ := hx.b
 have hlen := hx.len_le
 have hl := allM_len x
 have hk := hx.spare (n := (allM x).ws.length) (by omega) (by omega)
 have hroot : x.root + x.sl = x.slot := by unfold Cn.root Cn.slot; omega
 have hslot : x.slot + x.sl = x.link := by unfold Cn.slot Cn.link; omega
 have g3 : 3 ≤ x.root := by unfold Cn.root; omega
 have hsp := allM_spare hx
 have hio : iotaI x.sl = ((0 : Nat) : Int) :: (iotaI x.sl).tail := by
  have h0 := iota_get (n := x.sl) (i := 0) (by omega)
  have hl0 : (iotaI x.sl).length = x.sl := by simp [iotaI]
  cases he : iotaI x.sl with
  | nil => rw [he] at hl0; simp at hl0; omega
  | cons z l => rw [he] at h0; simp only [itI, List.getD_cons_zero] at h0; rw [h0]; rfl
 rw [hio] at hsp
 have h0 : (allM x).at_ (x.root + 0) = 0 := allM_at hx (by omega) (by omega) (by omega) (by omega)
 have hroot0 : (allM x).at_ (x.root + 0) < 18446744073709551616 := by omega
 obtain ⟨C, M, e10, _, _, _, _, _, hn, hml, hmo, _, hrv, hoth⟩ := cr_alone (k := x.spare) (ro := x.root) (cl := cl) (m := allM x) hk rfl (allM_ok hx) hsp (by show x.root + x.sl ≤ x.slot; omega) (by show 1 < x.root; omega) hcl
 rw [tn] at hrv hoth
 refine ⟨M, by rw [e10], ?_, hml.trans hl, hmo, ?_, ?_, fun a ha hb => hoth a ha (by omega), hsp, by rw [h0]; rfl⟩
 ·rw [hn]; unfold allM poolM; rw [fillM_n, fillM_n]; rfl
 ·have hp := allM_pool hx
  refine ⟨?_, hp.nd⟩
  rw [hoth _ (by show (0 : Nat) ≠ 1; omega) (by show 0 ≠ x.root + 0; omega)]
  refine hp.c.congr fun z hz => ?_
  have hz2 := hp.c.mem z hz
  exact hoth _ (by show x.link + z.toNat ≠ 1; omega) (by show x.link + z.toNat ≠ x.root + 0; omega)
 ·rw [hrv, rtOf_w (nextRt_ok hroot0 hcl), h0]; rfl
section
variable {L F G : St}
end
section
variable {L F G : St}
abbrev rhF (x : Cn) (n : Hn) (e : He) (r r2 : OA) (k c c2 : Nat) (m : Mm) (G : St) : St :=
 pt (ad n.a) (Blk 97 (ehV x n e r r2 k c c2)) :: pt (ad n.mp) (MemO m) :: pt (ad n.ro) (RoO n.mp n.sp x) :: pt (ad n.sp) (SkO n.mp x.spare) ::
 pt (ad n.rm) (RMemO m) :: pt (ad n.w) (RWO x n.rm n.rp n.rs n.re) :: pt (ad n.rs) (RSkO n.rm x.spare) :: G
set_option maxHeartbeats 4000000 in
theorem enRegion0 {x : Cn} {n : Hn} {e : He} {r r2 : OA} {k c c2 : Nat} {m : Mm} (who words : Int) (hx : x.ok) (hl : m.ws.length = x.len) (hm : m.ok) {s : Nat} {l : List Int} (hp : Pool x.spare m ((s : Int) :: l)) :
  FX 54 [zp n.a, ii who, ii 0, ii words] (rhF x n e r r2 k c c2 m G)
   (fun v L' => v = .tuple #[ii s, ii (laterT (rtOf (m.at_ (x.root + s))).gen : Nat), .bool true] ∧ L' = rhF x n e r r2 k c c2 (crIt x.spare x.root 0 10 (CreS.init, m)).2 G) := by
 have hlen := hx.len_le
 have hk := hx.spare (n := m.ws.length) (by omega) (by omega)
 have hroot : x.root + x.sl = x.slot := by unfold Cn.root Cn.slot; omega
 obtain ⟨C, M, e10, hd, hcode, hslot, hat, hwas, _⟩ := cr_alone (k := x.spare) (ro := x.root) (cl := 0) (m := m) hk rfl hm hp (by show x.root + x.sl ≤ x.slot; omega) (by show 1 < x.root; unfold Cn.root; omega) (by omega)
 rw [tn] at hwas
 refine Fm Tryz.func54 k54 ?_
 dsimp only [c54, eL]
 refine go ?_
 refine Xd rfl kr_ (ge ?_)
 iterate 4 (refine Ev.bring 1 rfl ?_; refine ge ?_)
 refine Ea kr_ rfl rfl (rootsCreate (g := n.ro) (mp := n.mp) (sb := n.sp) (x := x) 0 (by omega) hx) (.keep (fun v L' ⟨_, _, e⟩ => by subst e; exact Has.cell rfl) (.dep rfl .nil)) ?_
 rintro v L' ⟨b, rfl, rfl⟩
 refine ge ?_
 refine Ea kr_ rfl rfl (refCreate (w := n.w) (rm := n.rm) (rp := n.rp) (rs := n.rs) (re := n.re) (x := x) 0 (by omega)) (Pd kr_) ?_
 rintro v L' ⟨bb, rfl, rfl⟩
 refine ge ?_
 refine go ?_
 refine Cx.lp (α := {j : Nat // j ≤ 10}) (fun j => [(0, zp n.a), (2, ii 0), (11, zp b), (12, zp bb), (13, ii j.1)])
  (fun j => pt (ad b) (CreO n.ro n.sp x.spare 0 (crIt x.spare x.root 0 j.1 (CreS.init, m)).1) :: pt (ad bb) (RCreO n.w n.rs 0 (crIt x.spare x.root 0 j.1 (CreS.init, m)).1) :: rhF x n e r r2 k c c2 (crIt x.spare x.root 0 j.1 (CreS.init, m)).2 G)
  (fun j => 10 - j.1) ⟨0, by omega⟩ sb5 ?_ ?_
 ·dsimp only [rhF, crIt]
  exact ent
 rintro ⟨j, hj⟩
 dsimp only [rhF]
 obtain ⟨k1, k2, k3, k4⟩ := crIt_ok (ro := x.root) (cl := 0) (m := m) hk hm (by omega) j (by omega)
 refine go ?_
 refine Xi rfl (fun h => ?_) (fun h => ?_)
 ·refine go ?_
  refine Sa rfl (crStepC (b := b) (r := n.ro) (mp := n.mp) (sp := n.sp) (x := x) (m := (crIt x.spare x.root 0 j (CreS.init, m)).2) (cl := 0) (c := (crIt x.spare x.root 0 j (CreS.init, m)).1) hx (by omega) (by omega) k1) ?_
  rintro v L' ⟨rfl, rfl⟩
  refine go ?_
  refine Sa rfl (refCrStep (b := bb) (w := n.w) (rm := n.rm) (rp := n.rp) (rs := n.rs) (re := n.re) (x := x) (m := (crIt x.spare x.root 0 j (CreS.init, m)).2) (cl := 0) (c := (crIt x.spare x.root 0 j (CreS.init, m)).1) hx (by omega) (by omega) k1) ?_
  rintro v L' ⟨rfl, rfl⟩
  refine go ?_
  rw [w64 (n := (j : Int) + 1) (by omega) (by omega)]
  refine Kn ⟨j + 1, by omega⟩ sb5 ?_ (by dsimp only; omega)
  dsimp only [rhF, crIt]
  refine Et (Ek (a := ad b)) (Ec ?_)
  exact ent
 ·obtain rfl : j = 10 := by omega
  rw [e10]
  dsimp only
  refine go ?_
  refine Sa rfl (crRegion (b := b) (r := n.ro) (sp := n.sp) (k := x.spare) (cl := 0) (c := C) hd hat hcode) ?_
  rintro v L' ⟨rfl, rfl⟩
  rw [hslot, hwas]
  refine go ?_
  refine Sa rfl (crDone (b := b) (r := n.ro) (sp := n.sp) (k := x.spare) (cl := 0) (c := C) hd) ?_
  rintro v L' ⟨rfl, rfl⟩
  refine go ?_
  refine Sa rfl (crCode (b := b) (r := n.ro) (sp := n.sp) (k := x.spare) (cl := 0) (c := C) hd) ?_
  rintro v L' ⟨rfl, rfl⟩
  rw [hcode]
  refine go ?_
  refine Se_ (Ek (a := ad bb)) ?_
  refine Sx.openp (a := ad bb) rfl ?_
  intro p
  have er : C.rslot = s := by unfold CreS.rslot; rw [if_neg (by omega), hslot]
  have eg : C.rgen = laterT (rtOf (m.at_ (x.root + s))).gen := by unfold CreS.rgen; rw [if_pos ⟨hd, hat⟩, hwas]
  simp only [rcrL, lc, ln, er, eg, hd, hcode]
  refine go ?_
  refine Sx.gyes rfl (by simp) (go ?_)
  refine Xn rfl (by simp) (go ?_)
  refine Cx.lp (α := Unit) (fun _ => [(14, ii (s : Nat)), (15, ii (laterT (rtOf (m.at_ (x.root + s))).gen : Nat)), (2, ii 0), (16, ii 0)])
   (fun _ => rhF x n e r r2 k c c2 M G) (fun _ => 0) () sb4 ?_ ?_
  ·dsimp only [rhF]
   refine Et Ed ?_
   exact ent
  rintro ⟨⟩
  refine go ?_
  refine Kr.three (.inr rfl) rfl rfl rfl (Er _) ⟨rfl, rfl⟩
abbrev frH (n : Hn) (e : He) (Q : Nat → Who) (i : Nat) : FrH := ⟨e.eo, (Q i).u, n.mp, e.ro, e.sp, e.ch, (Q i).pb⟩
abbrev fgF (x : Cn) (n : Hn) (e : He) (r : Nat) (r2 : OA) (k c c2 : Nat) (Q : Nat → Who) (i : Nat) (S : SupS) (m : Mm) (G : St) : St :=
 pt (ad n.a) (Blk 97 (ehV x n e (ad r) r2 k c c2)) :: pt (ad r) (Row 47 1 k c (ptrs k fun i => (Q i).u)) :: pt (ad (Q i).u) (SupO n.mp (Q i).pb x S) ::
 pt (ad n.mp) (MemO m) :: pt (ad (Q i).pb) (SkO n.mp x.pool) :: pt (ad e.eo) (EnO n.mp e.ro e.ch) :: pt (ad e.ro) (RoO n.mp e.sp x) :: pt (ad e.sp) (SkO n.mp x.spare) :: pt (ad e.ch) (ChO n.mp e.pb x) :: G
structure FrGood (x : Cn) (slot : Nat) (r : Mm × SupS × FrS) : Prop where
 l : r.1.ws.length = x.len
 m : r.1.ok
 s : r.2.1.xs.length + r.2.1.lm.size ≤ 1000
 m0 : 0 ≤ r.2.1.most
 m2 : r.2.1.most ≤ 64
 a : r.2.2.done = false → FrOk x r.2.2
structure FrRun (x : Cn) (p : FrP) (r : Mm × SupS × FrS) (N : Nat) : Prop where
 good : ∀ j, j ≤ N → FrGood x p.slot (frIt p j r)
 nd : ∀ j, j < N → (frIt p j r).2.2.done = false
 d : (frIt p N r).2.2.done = true
set_option maxHeartbeats 4000000 in
theorem enFrees {x : Cn} {n : Hn} {e : He} {r : Nat} {r2 : OA} {k c c2 : Nat} {Q : Nat → Who} {i : Nat} {S : SupS} {m : Mm} {slot : Nat} {gen : Int} (N : Nat) (hN : N < 400) (hi : i < k) (hk : k ≤ 64) (hx : x.ok) (hs : slot < x.sl) (hr : FrRun x (x.fr slot gen) (m, S, FrS.init) N) :
  FX 49 [zp n.a, ii i, ii slot, ii gen] (fgF x n e r r2 k c c2 Q i S m G)
   (fun v L' => ∃ b, v = .tuple #[zp b, ii N] ∧ L' = pt (ad b) (FrO (frH n e Q i) x slot gen (frIt (x.fr slot gen) N (m, S, FrS.init)).2.2) ::
    fgF x n e r r2 k c c2 Q i (frIt (x.fr slot gen) N (m, S, FrS.init)).2.1 (frIt (x.fr slot gen) N (m, S, FrS.init)).1 G) := by
 obtain ⟨hgood, hnd, hd⟩ := hr
 refine Fm Tryz.func49 k49 ?_
 dsimp only [c49, eL]
 refine go ?_
 refine Xd rfl kr_ (ge ?_)
 refine El (b := r) (v := zp (Q i).u) kr_ rfl rfl (by rw [show 0 + (i : Int).toNat * 1 = i by omega]; exact ptrs_get (U := fun i => (Q i).u) hi) (ge ?_)
 refine Ea kr_ rfl rfl (endsFree (h := frH n e Q i) (x := x) slot gen hs) (Pd kr_) ?_
 rintro v L' ⟨b, rfl, rfl⟩
 refine ge ?_
 refine go ?_
 refine Cx.lp (α := {j : Nat // j ≤ N}) (fun j => [(10, zp b), (12, ii j.1), (13, ii j.1)])
  (fun j => pt (ad b) (FrO (frH n e Q i) x slot gen (frIt (x.fr slot gen) j.1 (m, S, FrS.init)).2.2) :: fgF x n e r r2 k c c2 Q i (frIt (x.fr slot gen) j.1 (m, S, FrS.init)).2.1 (frIt (x.fr slot gen) j.1 (m, S, FrS.init)).1 G)
  (fun j => N - j.1) ⟨0, by omega⟩ sb3 ?_ ?_
 ·dsimp only [fgF, frIt]
  exact ent
 rintro ⟨j, hj⟩
 dsimp only [fgF]
 obtain ⟨g1, g2, g3, g4, g5, g6⟩ := hgood j hj
 repeat' (first|refine Zo0 rfl ?_|refine Zo1 ?_|refine Zo2 ?_|refine Zo3 ?_|refine Zo4 ?_|refine Zo5 ?_|refine Zo6 ?_|refine Zo7 ?_|refine Zo8 rfl ?_|refine Zo9 rfl ?_|refine Zoa ?_|refine Zob ?_|refine Zoc ?_|refine Zod ?_|refine Zoe ?_|refine Zof ?_|refine Zog ?_|refine Zoh ?_|refine Zom rfl (by rfl) ?_|refine Zon rfl rfl ?_|refine Zoo rfl rfl rfl rfl (by rfl) (by rfl) ?_|refine Zop rfl trivial ?_|refine Zoq rfl rfl rfl ?_)
 rw [dt (show (j : Int) < 400 by omega)]
 refine go ?_
 refine Sa rfl (frStepC (b := b) (h := frH n e Q i) (x := x) (slot := slot) (gen := gen) (S := (frIt (x.fr slot gen) j (m, S, FrS.init)).2.1) (m := (frIt (x.fr slot gen) j (m, S, FrS.init)).1) (f := (frIt (x.fr slot gen) j (m, S, FrS.init)).2.2) (pb2 := e.pb) hx (by omega) hs g3 g4 g5 g6) ?_
 rintro v L' ⟨rfl, rfl⟩
 by_cases hjn : j = N
 ·subst hjn
  have ee : frStep (x.fr slot gen) (frIt (x.fr slot gen) j (m, S, FrS.init)).1 (frIt (x.fr slot gen) j (m, S, FrS.init)).2.1 (frIt (x.fr slot gen) j (m, S, FrS.init)).2.2 = frIt (x.fr slot gen) j (m, S, FrS.init) := by
   unfold frStep; rw [if_pos hd]
  rw [hd, ee]
  refine go ?_
  refine Kr.two (.inr rfl) rfl rfl ?_ ⟨b, rfl, rfl⟩
  exact ent
 ·rw [hnd j (by omega)]
  refine go ?_
  rw [w64 (n := (j : Int) + 1) (by omega) (by omega)]
  refine Kn ⟨j + 1, by omega⟩ sb3 ?_ (by dsimp only; omega)
  dsimp only [fgF, frIt]
  exact ent
end
end
theorem frIt_add {p : FrP} {r : Mm × SupS × FrS} {j : Nat} : ∀ i, frIt p i (frIt p j r) = frIt p (j + i) r
 | 0 => rfl
 | i + 1 => by
   show frStep p (frIt p i (frIt p j r)).1 (frIt p i (frIt p j r)).2.1 (frIt p i (frIt p j r)).2.2 = _
   rw [frIt_add i]
   rfl
section
variable {x : Cn} {slot : Nat} {gen : Int} {m : Mm} {S : SupS}
theorem FrRun.append {p : FrP} {r r1 : Mm × SupS × FrS} {a N : Nat} (he : frIt p a r = r1) (h1 : ∀ j, j < a → FrGood x p.slot (frIt p j r) ∧ (frIt p j r).2.2.done = false) (h2 : FrRun x p r1 N) : FrRun x p r (a + N) := by
 subst he
 refine ⟨fun j hj => ?_, fun j hj => ?_, ?_⟩
 ·by_cases h : j < a
  ·exact (h1 j h).1
  ·obtain ⟨i, rfl⟩ : ∃ i, j = a + i := ⟨j - a, by omega⟩
   rw [← frIt_add]
   exact h2.good i (by omega)
 ·by_cases h : j < a
  ·exact (h1 j h).2
  ·obtain ⟨i, rfl⟩ : ∃ i, j = a + i := ⟨j - a, by omega⟩
   rw [← frIt_add]
   exact h2.nd i (by omega)
 ·rw [← frIt_add]
  exact h2.d
theorem frOk_init : FrOk x FrS.init := ⟨by show 0 ≤ 4; omega, by show 0 ≤ 1000000; omega, fun _ => EndS.ok_init, (fun _ h => by cases h), (fun h => by cases h)⟩
theorem fr_end2 (hl : m.ws.length = x.len) (hm : m.ok) (hs : S.xs.length + S.lm.size ≤ 1000) (hm0 : 0 ≤ S.most) (hm2 : S.most ≤ 64) (hlv : (rtOf (m.at_ (x.root + slot))).live gen) (hmk : (rtOf (m.at_ (x.root + slot))).mrk ≤ x.c + 1) (hc : x.c ≤ 4096) :
  frIt (x.fr slot gen) 2 (m, S, FrS.init) = (m.tick.put (x.root + slot) (Rt.w ⟨(rtOf (m.at_ (x.root + slot))).gen, 0, 0, 0⟩), S, frEnded (x.fr slot gen) ⟨2, 0, -1, -1, 0, 0, 0⟩ ⟨1, 2, m.at_ (x.root + slot), 0, (rtOf (m.at_ (x.root + slot))).chunk, 2, true⟩) ∧
   (∀ j, j < 2 → FrGood x slot (frIt (x.fr slot gen) j (m, S, FrS.init)) ∧ (frIt (x.fr slot gen) j (m, S, FrS.init)).2.2.done = false) := by
 have hwl := Ml hm (x.root + slot)
 obtain ⟨W, hW⟩ : ∃ W, m.at_ (x.root + slot) = W := ⟨_, rfl⟩
 rw [hW] at hlv hmk hwl ⊢
 have e : endStep (x.root + slot) gen m EndS.init = (⟨1, 1, W, 0, -1, 0, false⟩, m.tick) := by
  unfold endStep
  simp only [EndS.init, bf, if_false]
  rw [hW, if_pos hlv]
 have hW2 : m.tick.at_ (x.root + slot) = W := hW
 have e' : endStep (x.root + slot) gen m.tick ⟨1, 1, W, 0, -1, 0, false⟩ = (⟨1, 2, W, 0, (rtOf W).chunk, 2, true⟩, m.tick.put (x.root + slot) (Rt.w ⟨(rtOf W).gen, 0, 0, 0⟩)) := by
  unfold endStep
  simp only [bf, if_false]
  unfold Mm.cas
  rw [if_pos hW2, if_pos hW2]
 have e1 : frIt (x.fr slot gen) 1 (m, S, FrS.init) = (m.tick, S, ⟨0, ⟨1, 0, -1, -1, 0, 0, 0⟩, ⟨1, 1, W, 0, -1, 0, false⟩, WalkS.zero, gNone, gNone, false⟩) := by
  show frStep (x.fr slot gen) m S FrS.init = _
  unfold frStep FrS.init
  simp only [bf, if_false]
  rw [e]
  simp only [bf, if_false]
 refine ⟨?_, fun j hj => ?_⟩
 ·show frStep (x.fr slot gen) (frIt (x.fr slot gen) 1 (m, S, FrS.init)).1 (frIt (x.fr slot gen) 1 (m, S, FrS.init)).2.1 (frIt (x.fr slot gen) 1 (m, S, FrS.init)).2.2 = _
  rw [e1]
  unfold frStep
  simp only [bf, if_false]
  rw [e']
  simp only [if_true]
 ·rcases (show j = 0 ∨ j = 1 by omega) with rfl | rfl
  ·exact ⟨⟨hl, hm, hs, hm0, hm2, fun _ => frOk_init⟩, rfl⟩
  ·rw [e1]
   exact ⟨⟨hl, hm, hs, hm0, hm2, fun _ => ⟨by show 0 ≤ 4; omega, by show 1 ≤ 1000000; omega, fun _ => ⟨by show 1 ≤ 1; omega, hwl, fun _ => by show (rtOf W).mrk ≤ 4097; omega, by show 1 ≤ 1000000; omega⟩, fun _ _ => hmk, (fun h => by cases h)⟩⟩, rfl⟩
theorem fr_push {v : FrV} {e : EndS} {w : WalkS} {l : List Int} (hx : x.ok) (hl : m.ws.length = x.len) (hm : m.ok) (hsl : slot < x.sl) (hp : Pool x.spare m l) (hn : (slot : Int) ∉ l) (hv : v.cnt ≤ 1000) (hs : S.xs.length + S.lm.size ≤ 1000) (hm0 : 0 ≤ S.most) (hm2 : S.most ≤ 64) (hx0 : (S.xs.length : Int) ≤ S.most) :
  ∃ M pp, frIt (x.fr slot gen) 3 (m, S, frLeave (x.fr slot gen) v e w) = (M, S, ⟨4, { v with chunk := -1, cnt := v.cnt + 3, back := v.cnt + 3, slot := -1 }, e, w, pp, PushS.init [], true⟩) ∧ FrRun x (x.fr slot gen) (m, S, frLeave (x.fr slot gen) v e w) 3 ∧
   M.ws.length = x.len ∧ M.ok ∧ Pool x.spare M ((slot : Int) :: l) ∧ (∀ a, a ≠ 1 → a ≠ x.slot + slot → M.at_ a = m.at_ a) := by
 have hlen := hx.len_le
 have hk := hx.spare (n := m.ws.length) (by omega) (by omega)
 have hrg : ∀ i ∈ [(slot : Int)], 0 ≤ i ∧ i < x.spare.n := fun i hi => by rw [List.mem_singleton.1 hi]; exact ⟨by omega, by show (slot : Int) < x.sl; omega⟩
 obtain ⟨M, e3, _, hMl, hMp, hMa, hnd⟩ := push_alone (k := x.spare) (m := m) (l := l) (x := [(slot : Int)]) hk rfl hp (by simp) (by simp) hrg (fun i hi => by rw [List.mem_singleton.1 hi]; exact hn)
 have e3' : pushIt x.spare 3 (PushS.init [(slot : Int)], m) = (⟨[(slot : Int)], 0, m.at_ 1, true⟩, M) := e3
 have hnd' : ∀ j, j < 3 → (pushIt x.spare j (PushS.init [(slot : Int)], m)).1.done = false := hnd
 have hin : ∀ j, (pushIt x.spare j (PushS.init [(slot : Int)], m)).2.ok ∧ (pushIt x.spare j (PushS.init [(slot : Int)], m)).1.ok x.spare ∧ (pushIt x.spare j (PushS.init [(slot : Int)], m)).2.ws.length = m.ws.length := by
  intro j
  induction j with
  | zero => exact ⟨hm, PushS.ok_init hrg, rfl⟩
  | succ j ih =>
    rw [pushIt_succ]
    exact ⟨(pushStep_mem hk ih.1 ih.2.1).1, pushStep_ok ih.1 ih.2.1, (pushStep_mem hk ih.1 ih.2.1).2.trans ih.2.2⟩
 have key : ∀ j, j < 3 → frIt (x.fr slot gen) j (m, S, frLeave (x.fr slot gen) v e w) = ((pushIt x.spare j (PushS.init [(slot : Int)], m)).2, S, ⟨3, { v with chunk := -1, cnt := v.cnt + j }, e, w, (pushIt x.spare j (PushS.init [(slot : Int)], m)).1, gNone, false⟩) := by
  intro j
  induction j with
  | zero => exact fun _ => rfl
  | succ j ih =>
    intro hj
    have hd := hnd' (j + 1) hj
    rw [pushIt_succ] at hd ⊢
    show frStep (x.fr slot gen) (frIt (x.fr slot gen) j (m, S, frLeave (x.fr slot gen) v e w)).1 (frIt (x.fr slot gen) j (m, S, frLeave (x.fr slot gen) v e w)).2.1 (frIt (x.fr slot gen) j (m, S, frLeave (x.fr slot gen) v e w)).2.2 = _
    rw [ih (by omega)]
    unfold frStep
    simp only [bf, if_false, hd]
    rfl
 have hov : overK S.most S.xs = 0 := by unfold overK; omega
 have e4 : frIt (x.fr slot gen) 3 (m, S, frLeave (x.fr slot gen) v e w) = (M, S, ⟨4, { v with chunk := -1, cnt := v.cnt + 3, back := v.cnt + 3, slot := -1 }, e, w, ⟨[(slot : Int)], 0, m.at_ 1, true⟩, PushS.init [], true⟩) := by
  show frStep (x.fr slot gen) (frIt (x.fr slot gen) 2 (m, S, frLeave (x.fr slot gen) v e w)).1 (frIt (x.fr slot gen) 2 (m, S, frLeave (x.fr slot gen) v e w)).2.1 (frIt (x.fr slot gen) 2 (m, S, frLeave (x.fr slot gen) v e w)).2.2 = _
  rw [key 2 (by omega)]
  have hp3 : pushStep x.spare (pushIt x.spare 2 (PushS.init [(slot : Int)], m)).2 (pushIt x.spare 2 (PushS.init [(slot : Int)], m)).1 = (⟨[(slot : Int)], 0, m.at_ 1, true⟩, M) := by rw [← pushIt_succ]; exact e3'
  unfold frStep
  simp only [bf, if_false, hp3, if_true, hov, List.take_zero, List.drop_zero, giveInit_nil]
  rfl
 have hMo : M.ok := by have := (hin 3).1; rw [e3'] at this; exact this
 refine ⟨M, _, e4, ⟨fun j hj => ?_, fun j hj => ?_, by rw [e4]⟩, hMl.trans hl, hMo, hMp, fun a h1 h2 => hMa a h1 (fun i hi => by rw [List.mem_singleton.1 hi, tn]; exact h2)⟩
 ·by_cases h3 : j < 3
  ·rw [key j h3]
   exact ⟨(hin j).2.2.trans hl, (hin j).1, hs, hm0, hm2, fun _ => ⟨by show 3 ≤ 4; omega, by show v.cnt + j ≤ 1000000; omega, (fun h => by cases h), (fun h => by cases h), (fun h => by cases h)⟩⟩
  ·obtain rfl : j = 3 := by omega
   rw [e4]
   exact ⟨hMl.trans hl, hMo, hs, hm0, hm2, (fun h => by cases h)⟩
 ·rw [key j hj]
theorem fr_bare {l : List Int} (hx : x.ok) (hl : m.ws.length = x.len) (hm : m.ok) (hsl : slot < x.sl) (hp : Pool x.spare m l) (hn : (slot : Int) ∉ l) (hs : S.xs.length + S.lm.size ≤ 1000) (hm0 : 0 ≤ S.most) (hm2 : S.most ≤ 64) (hx0 : (S.xs.length : Int) ≤ S.most)
  (hlv : (rtOf (m.at_ (x.root + slot))).live gen) (hmk : (rtOf (m.at_ (x.root + slot))).mrk = 1) :
  ∃ M A, frIt (x.fr slot gen) 5 (m, S, FrS.init) = (M, S, A) ∧ FrRun x (x.fr slot gen) (m, S, FrS.init) 5 ∧ A.done = true ∧ A.at_ = 4 ∧ A.g.done = true ∧ A.v.code = 0 ∧ A.v.point = 2 ∧ A.v.back = 5 ∧ A.v.slot = -1 ∧ M.ws.length = x.len ∧ M.ok ∧ Pool x.spare M ((slot : Int) :: l) ∧
   rtOf (M.at_ (x.root + slot)) = ⟨(rtOf (m.at_ (x.root + slot))).gen, 0, 0, 0⟩ ∧ (∀ a, a ≠ 1 → a ≠ x.slot + slot → a ≠ x.root + slot → M.at_ a = m.at_ a) := by
 obtain ⟨b1, b2, b3, b4, b5, b6, b7⟩ := hx.b
 have g1 : x.root + x.sl = x.slot := by unfold Cn.root Cn.slot; omega
 have g2 : x.slot + x.sl ≤ x.len := by unfold Cn.slot Cn.len; omega
 have g3 : 3 ≤ x.root := by unfold Cn.root; omega
 obtain ⟨e2, hg2⟩ := fr_end2 (x := x) (slot := slot) (gen := gen) (m := m) (S := S) hl hm hs hm0 hm2 hlv (by omega) b2
 have hgl := rtOf_gen (Ml hm (x.root + slot))
 have hR : Rt.ok ⟨(rtOf (m.at_ (x.root + slot))).gen, 0, 0, 0⟩ := ⟨hgl, by show 0 ≤ 4097; omega, by show 0 ≤ 3; omega, by show 0 ≤ 1024; omega⟩
 have hput : ∀ a, (m.tick.put (x.root + slot) (Rt.w ⟨(rtOf (m.at_ (x.root + slot))).gen, 0, 0, 0⟩)).at_ a = if x.root + slot = a then Rt.w ⟨(rtOf (m.at_ (x.root + slot))).gen, 0, 0, 0⟩ else m.at_ a := fun a => Mp a (by show _ < m.ws.length; omega)
 obtain ⟨m2, hm2e⟩ : ∃ m2, m.tick.put (x.root + slot) (Rt.w ⟨(rtOf (m.at_ (x.root + slot))).gen, 0, 0, 0⟩) = m2 := ⟨_, rfl⟩
 have hml2 : m2.ws.length = x.len := by rw [← hm2e, Mm.len_put]; exact hl
 have hmo2 : m2.ok := by rw [← hm2e]; exact Mm.ok_put (Mm.ok_tick hm) (Rt.w_lt hR)
 rw [hm2e] at hput e2
 have hp2 : Pool x.spare m2 l := by
  refine ⟨?_, hp.nd⟩
  rw [hput, if_neg (by show ¬ x.root + slot = 1; omega)]
  refine hp.c.congr fun z hz => ?_
  have := hp.c.mem z hz
  rw [hput, if_neg (by show ¬ x.root + slot = x.slot + z.toNat; omega)]
 have he : frEnded (x.fr slot gen) ⟨2, 0, -1, -1, 0, 0, 0⟩ ⟨1, 2, m.at_ (x.root + slot), 0, (rtOf (m.at_ (x.root + slot))).chunk, 2, true⟩ = frLeave (x.fr slot gen) ⟨2, 0, -1, slot, 2, 0, 0⟩ ⟨1, 2, m.at_ (x.root + slot), 0, (rtOf (m.at_ (x.root + slot))).chunk, 2, true⟩ WalkS.zero := by
  unfold frEnded
  have hch : (rtOf (m.at_ (x.root + slot))).chunk = -1 := by unfold Rt.chunk; rw [if_pos (by omega)]
  dsimp only
  rw [if_neg (by omega), if_neg (by omega)]
 rw [he] at e2
 obtain ⟨M, pp, e3, hr3, c1, c2, c3, c4⟩ := fr_push (x := x) (slot := slot) (gen := gen) (m := m2) (S := S) (v := ⟨2, 0, -1, slot, 2, 0, 0⟩) (e := ⟨1, 2, m.at_ (x.root + slot), 0, (rtOf (m.at_ (x.root + slot))).chunk, 2, true⟩) (w := WalkS.zero) hx hml2 hmo2 hsl hp2 hn (by show 2 ≤ 1000; omega) hs hm0 hm2 hx0
 have hrun := FrRun.append e2 hg2 hr3
 rw [← e2, frIt_add] at e3
 refine ⟨M, _, e3, hrun, rfl, rfl, rfl, rfl, rfl, rfl, rfl, c1, c2, c3, ?_, fun a h1 h2 h3 => ?_⟩
 ·rw [c4 _ (by omega) (by omega), hput, if_pos rfl, rtOf_w hR]
 ·rw [c4 a h1 h2, hput, if_neg (fun h => h3 h.symm)]
theorem region0s {x : Cn} (hx : x.ok) (cl : Nat) (hcl : cl ≤ 3) : Pool x.spare (crIt x.spare x.root cl 10 (CreS.init, allM x)).2 (iotaI x.sl).tail ∧ iotaI x.sl = ((0 : Nat) : Int) :: (iotaI x.sl).tail := by
 obtain ⟨b1, b2, b3, b4, b5, b6, b7⟩ := hx.b
 have hlen := hx.len_le
 have hl := allM_len x
 have hk := hx.spare (n := (allM x).ws.length) (by omega) (by omega)
 have hroot : x.root + x.sl = x.slot := by unfold Cn.root Cn.slot; omega
 have g3 : 3 ≤ x.root := by unfold Cn.root; omega
 have hsp := allM_spare hx
 have hio : iotaI x.sl = ((0 : Nat) : Int) :: (iotaI x.sl).tail := by
  have h0 := iota_get (n := x.sl) (i := 0) (by omega)
  have hl0 : (iotaI x.sl).length = x.sl := by simp [iotaI]
  cases he : iotaI x.sl with
  | nil => rw [he] at hl0; simp at hl0; omega
  | cons z l => rw [he] at h0; simp only [itI, List.getD_cons_zero] at h0; rw [h0]; rfl
 refine ⟨?_, hio⟩
 rw [hio] at hsp
 obtain ⟨C, M, e10, _, _, _, _, _, hn, hml, hmo, hp, _⟩ := cr_alone (k := x.spare) (ro := x.root) (cl := cl) (m := allM x) hk rfl (allM_ok hx) hsp (by show x.root + x.sl ≤ x.slot; omega) (by show 1 < x.root; omega) hcl
 rw [e10]
 exact hp
end
section
open Go
attribute [local irreducible] Sx Cx Rx Fx Krg Ksq Kbl Klp Kr
section
variable {L F G : St}
theorem SupS.kept_nil {s : SupS} (h : s.xs = []) : s.kept = s := by
 cases s; simp only [SupS.kept]; simp only at h; subst h; rfl
theorem refTakeNew {s w rm rp rs re : Nat} {x : Cn} {S : SupS} {F1 F2 : St} (hx : x.ok) (hb : S.xs.length + S.lm.size ≤ 1000000) [t2 : Take L (ad s) (RSupO w S) F1] [t3 : Take F1 (ad w) (RWO x rm rp rs re) F2] [t4 : Take F2 (ad rp) (RSkO rm x.pool) G] :
  FX 180 [zp s] L
   (fun v L' => ∃ b, v = zp b ∧ L' = pt (ad b) (RTakeO s rp (takeInit x.ba S).2) :: pt (ad s) (RSupO w (takeInit x.ba S).1) :: F1) := by
 obtain ⟨b1, b2, b3, b4, b5, b6, b7⟩ := hx.b
 refine Fm Tryz.func180 k180 ?_
 dsimp only [c180, eL]
 refine go ?_
 refine Sx.bx rfl rfl fun b => (go ?_)
 refine Sa rfl (refKept (b := b) (s := s) (w := w) (S := S) (n := 0) (seen := -1) (pp := .pointer none) (by omega)) ?_
 rintro v L' ⟨rfl, rfl⟩
 by_cases hxs : S.xs = []
 ·rw [dz (fun h => h hxs), if_pos hxs, SupS.kept_nil hxs]
  refine Sx.nil ?_
  refine Krg.i ?_
  refine Ksq.nm ?_
  refine Cx.sq ?_
  refine Cx.sq ?_
  refine Xe (Ec (Ec (Et (Eo t3.out) (Ec (Eo t4.out))))) ?_
  refine Xo (a := ad s) rfl ?_
  rintro ⟨st, lm⟩
  simp only [rsupL, lc, ln]
  refine go ?_
  refine Sa rfl (refLimboLen (b := lm) (m := S.lm) (by omega)) ?_
  rintro v L' ⟨rfl, rfl⟩
  refine go ?_
  by_cases hz : 0 < S.lm.size
  ·have e0 : takeInit x.ba S = (S, TakeS.none_) := by unfold takeInit keepT; rw [if_pos hxs]; simp only; rw [if_pos hz]
   rw [e0]
   refine Xn rfl (dz (by omega)) (go ?_)
   refine Ko rfl ?_ ⟨b, rfl, rfl⟩
   refine Et (Et (Ek (a := ad b)) (RTakeO.closeL (rp := rp) TakeS.none_ rfl rfl rfl)) (Ec ?_)
   refine Et (RSupO.close (a := ad s) (st := st) (lm := lm) (w := w) S rfl rfl rfl) (Ec ?_)
   exact Et (Ec (Eo t4.back)) (Eo t3.back)
  ·have e0 : takeInit x.ba S = (S, { TakeS.none_ with at_ := 1, q := PopS.init x.ba }) := by unfold takeInit keepT; rw [if_pos hxs]; simp only; rw [if_neg hz]
   rw [e0]
   refine Xy rfl (dt (by omega)) ?_
   refine Xe (RSupO.close (a := ad s) (st := st) (lm := lm) (w := w) S rfl rfl rfl) (go ?_)
   refine Sa rfl (refTakePop (b := b) (s := s) (w := w) (rm := rm) (rp := rp) (rs := rs) (re := re) (x := x) (S := S) (n := 0) (ch := -1) (seen := -1) (pp := .pointer none) b6) ?_
   rintro v L' ⟨p, rfl, rfl⟩
   refine go ?_
   refine Ko rfl ?_ ⟨b, rfl, rfl⟩
   refine Et (RTakeO.closeP (rp := rp) { TakeS.none_ with at_ := 1, q := PopS.init x.ba } rfl (by simp) rfl rfl) (Ec (Ec ?_))
   exact Et (Ec (Eo t4.back)) (Eo t3.back)
 ·have e0 : takeInit x.ba S = (S.kept, { TakeS.none_ with chunk := lastI S.xs, is_ := true, done := true }) := by unfold takeInit keepT; rw [if_neg hxs]
  rw [e0, dt hxs, if_neg hxs]
  refine go ?_
  refine Ko rfl ?_ ⟨b, rfl, rfl⟩
  refine Et (RTakeO.closeD (rp := rp) { TakeS.none_ with chunk := lastI S.xs, is_ := true, done := true } rfl rfl rfl) ?_
  exact Er _
set_option maxHeartbeats 1000000 in
theorem refTakeStep {b s w rm rp rs re : Nat} {x : Cn} {S : SupS} {m : Mm} {t : TakeS} {F1 F2 F3 F4 : St} (hx : x.ok) (hl : x.len ≤ m.ws.length) (ht : t.ok) (hq : t.done = false → t.at_ = 1 → t.q.ok x.pool) (hb : S.xs.length + S.lm.size ≤ 1000000)
  [t1 : Take L (ad b) (RTakeO s rp t) F1] [t2 : Take F1 (ad s) (RSupO w S) F2] [t3 : Take F2 (ad rm) (RMemO m) F3] [t4 : Take F3 (ad w) (RWO x rm rp rs re) F4] [t5 : Take F4 (ad rp) (RSkO rm x.pool) G] :
  FX 108 [zp b] L
   (fun v L' => v = .bool (!t.done) ∧ L' = pt (ad b) (RTakeO s rp (takeStep x.pool x.ba m S t).2.2) :: pt (ad s) (RSupO w (takeStep x.pool x.ba m S t).2.1) :: pt (ad rm) (RMemO (takeStep x.pool x.ba m S t).1) :: F3) := by
 obtain ⟨b1, b2, b3, b4, b5, b6, b7⟩ := hx.b
 have hl3 : 3 ≤ x.len := by unfold Cn.len; omega
 have hback : Ent (pt (ad w) (RWO x rm rp rs re) :: pt (ad rp) (RSkO rm x.pool) :: G) F3 := Et (Ec (Eo t5.back)) (Eo t4.back)
 refine Fm Tryz.func108 k108 ?_
 dsimp only [c108, eL]
 refine Xe (Et (Eo t1.out) (Ec (Et (Eo t2.out) (Ec (Et (Eo t3.out) (Ec (Et (Eo t4.out) (Ec (Eo t5.out))))))))) ?_
 refine Cx.pure (rmemKey (rm := rm) (m := m)) fun hm => ?_
 cases hd : t.done with
 | true =>
   have e1 : takeStep x.pool x.ba m S t = (m, S, t) := by unfold takeStep; rw [hd]; rfl
   rw [e1]
   refine Xo (a := ad b) (RTakeO.d hd) ?_
   rintro ⟨n, pp⟩
   simp only [rtakeDL, lc, ln]
   refine go ?_
   exact Ko rfl (Et (RTakeO.closeD t hd rfl rfl) (Ec (Ec (Ec hback)))) ⟨rfl, rfl⟩
 | false =>
   have ha := ht.a
   rcases (show t.at_ = 0 ∨ t.at_ = 1 by omega) with h0 | h0
   ·have hlt := Ml hm.1 2
    have hsz := size_ready (cutE (m.at_ 2)) S.lm
    have hsx : (S.ready (cutE (m.at_ 2))).xs.length ≤ 100000000 := by
     show (S.xs ++ (readyAll (cutE (m.at_ 2)) S.lm).1).length ≤ _
     rw [List.length_append]; omega
    refine Xo (a := ad b) (RTakeO.l hd h0) ?_
    rintro pp
    simp only [rtakeLL, lc, ln]
    refine Xo (a := ad s) rfl ?_
    rintro ⟨st, lm⟩
    simp only [rsupL, lc, ln]
    refine go ?_
    refine Sa rfl (refLoad (rm := rm) (m := m) 2 (by omega)) ?_
    rintro v L' ⟨rfl, rfl⟩
    refine go ?_
    refine Sa rfl (refCut (m.at_ 2) hlt) ?_
    rintro v L' ⟨rfl, rfl⟩
    refine go ?_
    refine Xe (RSupO.close (a := ad s) (st := st) (lm := lm) (w := w) S rfl rfl rfl) ?_
    refine Xd rfl kr_ (ge ?_)
    refine Ea kr_ rfl rfl (refSupReady (s := s) (w := w) (S := S) (now := cutE (m.at_ 2)) (by omega) (by omega) (by unfold cutE; omega)) (Pd kr_) ?_
    rintro v L' ⟨rfl, rfl⟩
    refine ge ?_
    refine go ?_
    refine Sa rfl (refKept (b := b) (s := s) (w := w) (S := S.ready (cutE (m.at_ 2))) (n := 0) (seen := cutE (m.at_ 2)) (pp := pp) hsx) ?_
    rintro v L' ⟨rfl, rfl⟩
    by_cases hxs : (S.ready (cutE (m.at_ 2))).xs = []
    ·have e1 : takeStep x.pool x.ba m S t = (m.tick, S.ready (cutE (m.at_ 2)), { t with seen := cutE (m.at_ 2), at_ := 1, q := PopS.init x.ba }) := by
      unfold takeStep keepT; rw [hd, h0]; simp only [bf, if_false]; rw [if_pos hxs]
     rw [e1, dz (show ¬ ((S.ready (cutE (m.at_ 2))).xs ≠ []) from fun h => h hxs), if_pos hxs, SupS.kept_nil hxs]
     refine go ?_
     refine Sa rfl (refTakePop (b := b) (s := s) (w := w) (rm := rm) (rp := rp) (rs := rs) (re := re) (x := x) (S := S.ready (cutE (m.at_ 2))) (n := 0) (ch := -1) (seen := cutE (m.at_ 2)) (pp := pp) b6) ?_
     rintro v L' ⟨p, rfl, rfl⟩
     refine go ?_
     refine Ko rfl ?_ ⟨rfl, rfl⟩
     refine Et (RTakeO.closeP (rp := rp) { t with seen := cutE (m.at_ 2), at_ := 1, q := PopS.init x.ba } hd (by simp) rfl rfl) (Ec (Ec ?_))
     refine Et ?_ (Ec hback)
     exact ent
    ·have e1 : takeStep x.pool x.ba m S t = (m.tick, (S.ready (cutE (m.at_ 2))).kept, { t with seen := cutE (m.at_ 2), chunk := lastI (S.ready (cutE (m.at_ 2))).xs, is_ := true, done := true }) := by
      unfold takeStep keepT; rw [hd, h0]; simp only [bf, if_false]; rw [if_neg hxs]
     rw [e1, dt hxs, if_neg hxs]
     refine go ?_
     refine Ko rfl ?_ ⟨rfl, rfl⟩
     refine Et (RTakeO.closeD (rp := rp) { t with seen := cutE (m.at_ 2), chunk := lastI (S.ready (cutE (m.at_ 2))).xs, is_ := true, done := true } rfl rfl rfl) (Ec (Ec ?_))
     refine Et ?_ (Ec hback)
     exact ent
   ·have hk := hx.pool (n := m.ws.length) hl hm.2
    have hqo := hq hd h0
    refine Xo (a := ad b) (RTakeO.p hd (by omega)) ?_
    rintro p
    simp only [rtakePL, lc, ln]
    refine go ?_
    refine Sa rfl (refPopStep (b := p) (sb := rp) (rm := rm) (k := x.pool) (m := m) (q := t.q) hk hqo) ?_
    rintro v L' ⟨rfl, rfl⟩
    have hq' := popStep_ok hk hm.1 hqo
    obtain ⟨q1, hq1⟩ : ∃ q1, (popStep x.pool m t.q).1 = q1 := ⟨_, rfl⟩
    obtain ⟨m1, hm1⟩ : ∃ m1, (popStep x.pool m t.q).2 = m1 := ⟨_, rfl⟩
    have hp1 : popStep x.pool m t.q = (q1, m1) := by rw [← hq1, ← hm1]
    rw [hq1] at hq'
    rw [hp1]
    dsimp only
    cases hqd : q1.done with
    | false =>
      have e1 : takeStep x.pool x.ba m S t = (m1, S, { t with q := q1 }) := by unfold takeStep; rw [hd, h0]; simp only [bf, if_false]; rw [hp1]; simp only [hqd, bf, if_false]
      rw [e1]
      refine Sx.nil ?_
      refine Krg.i ?_
      refine Ksq.nm ?_
      refine Cx.sq ?_
      refine Xo (a := ad p) rfl ?_
      rintro ⟨r, c⟩
      simp only [rpopL, lc, ln]
      rw [hqd]
      refine go ?_
      refine Ko rfl ?_ ⟨rfl, rfl⟩
      refine Et (RPopO.close (sb := rp) (a := ad p) (r := r) q1 rfl rfl rfl rfl rfl rfl (by rw [hqd]) rfl) ?_
      refine Et (Et (Ek (a := ad b)) (RTakeO.closeP (rp := rp) { t with q := q1 } hd (by dsimp only; omega) rfl rfl)) (Ec ?_)
      refine Et ?_ (Ec (Ec hback))
      exact ent
    | true =>
      have e1 : takeStep x.pool x.ba m S t = (m1, popped S { t with q := q1 }) := by unfold takeStep; rw [hd, h0]; simp only [bf, if_false]; rw [hp1]; simp only [hqd, if_true]
      rw [e1]
      refine Sx.nil ?_
      refine Krg.i ?_
      refine Ksq.nm ?_
      refine Cx.sq ?_
      refine Xo (a := ad p) rfl ?_
      rintro ⟨r, c⟩
      simp only [rpopL, lc, ln]
      rw [hqd]
      refine go ?_
      refine Se_ (RPopO.close (sb := rp) (a := ad p) (r := r) q1 rfl rfl rfl rfl rfl rfl (by rw [hqd]) rfl) ?_
      refine Sa rfl (refPopGot (b := p) (sb := rp) (rm := rm) (k := x.pool) (q := q1) hqd hq'.len) ?_
      rintro v L' ⟨ro, co, rfl, rfl⟩
      refine go ?_
      cases hg : q1.got with
      | nil =>
        have e2 : popped S { t with q := q1 } = (S, { t with q := q1, done := true }) := by unfold popped; simp only [hg]
        rw [e2]
        refine go ?_
        refine Ko rfl ?_ ⟨rfl, rfl⟩
        refine Et (Et (Ek (a := ad b)) (RTakeO.closeD (rp := rp) { t with q := q1, done := true } rfl (by unfold TakeS.ch; simp only; rw [(ht.i hd).2]; rfl) rfl)) (Ec ?_)
        refine Et ?_ (Ec (Ec hback))
        exact ent
      | cons y l =>
        have e2 : popped S { t with q := q1 } = (S.give l, { t with q := q1, chunk := y, is_ := true, done := true }) := by unfold popped; simp only [hg]
        have h8 := hq'.len
        rw [hg] at h8
        simp only [List.length_cons] at h8 ⊢
        rw [e2]
        refine Xy rfl (dt (by omega)) ?_
        refine Cx.rowkey (a := ro) fun hx0 hn0 hc0 hk0 => ?_
        obtain ⟨rg, rfl⟩ := row_some (i := 0) (by omega) (hk0.imp (fun h => ⟨h.1, h.2.1, h.2.2⟩) id)
        refine gg ?_
        refine Sx.ldr (b := rg) rfl (v := ii y) rfl (go ?_)
        refine Xe (Ek (a := ad s)) ?_
        refine Xo (a := ad s) rfl ?_
        rintro ⟨st, lm⟩
        simp only [rsupL, lc, ln]
        refine Xd rfl kr_ (ge ?_)
        refine Ea kr_ rfl rfl (refGive (b := st) (ys := l) (Rd.suffix_ (g := rg) (i := 1) hx0 hn0 (by omega)) (by omega)) (Pd kr_) ?_
        rintro v L' ⟨rfl, rfl⟩
        refine ge ?_
        refine go ?_
        refine Ko rfl ?_ ⟨rfl, rfl⟩
        refine Et (Et (Ek (a := ad b)) (RTakeO.closeD (rp := rp) { t with q := q1, chunk := y, is_ := true, done := true } rfl rfl rfl)) (Ec ?_)
        refine Et (RSupO.close (a := ad s) (st := st) (lm := lm) (w := w) (S.give l) rfl rfl rfl) (Ec ?_)
        refine Et ?_ (Ec hback)
        exact ent
end
section
variable {L F G : St}
theorem refWord {x : Cn} (hx : x.ok) (k j : Nat) (hk : k < x.c) (hj : j < x.wd) : FX 111 [x.v, ii k, ii j] L (fun v L' => v = ii ((x.word + k * x.wd + j : Nat) : Int) ∧ L = L') := by
 obtain ⟨b1, b2, b3, b4, b5, b6, b7⟩ := hx.b
 have hlt := word_lt (x := x) hk hj
 have hlen := hx.len_le
 obtain ⟨K, hK⟩ : ∃ K, k * x.wd = K := ⟨_, rfl⟩
 have hK2 : (k : Int) * (x.wd : Int) = (K : Int) := by rw [← hK]; push_cast; rfl
 rw [hK] at hlt ⊢
 have hw : x.word = 3 + x.w + x.sl + x.sl + x.c := rfl
 refine Fm Tryz.func111 k111 ?_
 dsimp only [c111, eL]
 refine Cx.sq ?_
 refine Cx.rg ?_
 refine Sx.bx rfl rfl fun g => (go ?_)
 refine Sa rfl (refMay_ (x.w : Int) x.c x.wd x.sl x.ca x.ba) ?_
 rintro v L' ⟨rfl, rfl⟩
 rw [dt (show MayC (x.w : Int) x.c x.wd x.sl x.ca x.ba from hx)]
 refine go ?_
 refine Sx.gyes rfl (dz (by omega)) (go ?_)
 refine Xn rfl (dz (by omega)) (go ?_)
 rw [hK2, w64 (n := (3 : Int) + x.w) (by omega) (by omega), w64 (n := (2 : Int) * x.sl) (by omega) (by omega), w64 (n := (3 : Int) + x.w + 2 * x.sl) (by omega) (by omega), w64 (n := (3 : Int) + x.w + 2 * x.sl + x.c) (by omega) (by omega), w64 (n := (K : Int)) (by omega) (by omega), w64 (n := (3 : Int) + x.w + 2 * x.sl + x.c + K) (by omega) (by omega), w64 (n := (3 : Int) + x.w + 2 * x.sl + x.c + K + j) (by omega) (by omega)]
 refine Ko rfl Ed ⟨congrArg (Value.int .i64) ?_, rfl⟩
 omega
theorem refChunk (r : Rt) (h : r.mrk < 65536) : FX 103 [rtV r] L (fun v L' => v = ii r.chunk ∧ L = L') := by
 refine Fm Tryz.func103 k103 ?_
 dsimp only [c103, eL]
 refine Cx.sq ?_
 refine Cx.rg ?_
 refine Sx.bx rfl rfl fun g => (go ?_)
 refine Xi rfl (fun h2 => ?_) (fun h2 => ?_)
 ·refine go ?_
  exact Ko rfl Ed ⟨by unfold Rt.chunk; rw [if_pos (by omega)], rfl⟩
 ·refine go ?_
  rw [w64 (n := (r.mrk : Int) - 2) (by omega) (by omega)]
  exact Ko rfl Ed ⟨by unfold Rt.chunk; rw [if_neg (by omega)], rfl⟩
theorem refLive (r : Rt) (gen : Int) : FX 99 [rtV r, ii gen] L (fun v L' => v = .bool (decide (r.live gen)) ∧ L = L') := by
 refine Fm Tryz.func99 k99 ?_
 dsimp only [c99, eL]
 refine Cx.sq ?_
 refine Cx.rg ?_
 refine Sx.bx rfl rfl fun g => (go ?_)
 by_cases h1 : 1 ≤ r.mrk
 ·refine Sx.gyes rfl (dt (by omega)) (go ?_)
  refine Ko rfl Ed ⟨congrArg Value.bool (decide_eq_decide.2 ⟨fun h => ⟨h1, h⟩, fun h => h.2⟩), rfl⟩
 ·refine Sx.gno rfl (dz (by omega)) (go ?_)
  refine Ko rfl Ed ⟨?_, rfl⟩
  rw [dz (fun h => h1 h.1)]
theorem refIn (n lo hi : Int) : FX 173 [ii n, ii lo, ii hi] L (fun v L' => v = .bool (decide (lo ≤ n ∧ n ≤ hi)) ∧ L = L') := in_ n lo hi
set_option maxHeartbeats 1000000 in
theorem refRound (cl n : Nat) (hc : cl ≤ 3) (hn : 1 ≤ n) (hn2 : n ≤ 1024) : FX 178 [ii cl, ii n] L (fun v L' => v = ii (roundS cl n : Nat) ∧ L = L') := by
 have hrl := roundS_lt (n := n) hc
 have hrg := roundS_ge (n := n) hc
 refine Fm Tryz.func178 k178 ?_
 dsimp only [c178, eL]
 refine go ?_
 refine Sa rfl (refIn (n : Int) 1 1024) ?_
 rintro v L' ⟨rfl, rfl⟩
 rw [dt (show (1 : Int) ≤ n ∧ (n : Int) ≤ 1024 by omega)]
 refine go ?_
 refine Cx.lp (α := {i : Nat // i ≤ cl}) (fun i => [(0, ii (cl : Nat)), (1, ii (n : Nat)), (5, ii ((2 ^ i.1 : Nat) : Int)), (6, ii (i.1 : Nat))]) (fun _ => L) (fun i => cl - i.1) ⟨0, Nat.zero_le _⟩ sb4 (Er _) ?_
 rintro ⟨i, hi⟩
 dsimp only
 have hpi : 2 ^ i ≤ 8 := by rcases (show i = 0 ∨ i = 1 ∨ i = 2 ∨ i = 3 by omega) with rfl | rfl | rfl | rfl <;> decide
 have hps : 2 ^ (i + 1) = 2 ^ i * 2 := Nat.pow_succ 2 i
 refine go ?_
 by_cases h : i < cl
 ·refine Sx.gyes rfl (dt (by omega)) (go ?_)
  refine Xy rfl (dt (by omega)) (go ?_)
  rw [w64 (n := (i : Int) + 1) (by omega) (by omega), w64 (n := 2 * ((2 ^ i : Nat) : Int)) (by omega) (by omega)]
  refine Kn ⟨i + 1, by omega⟩ (sub.cons rfl (sub.cons rfl (sub.cons (by rw [show (((2 ^ (i + 1) : Nat)) : Int) = 2 * ((2 ^ i : Nat) : Int) by omega]; rfl) sb1))) (Er _) (by dsimp only; omega)
 ·obtain rfl : i = cl := by omega
  refine Sx.gno rfl (dz (by omega)) (go ?_)
  obtain ⟨P, hP⟩ : ∃ P, P = 2 ^ i := ⟨_, rfl⟩
  rw [← hP] at hpi ⊢
  have hp1 : 1 ≤ P := by rw [hP]; exact Nat.one_le_two_pow
  obtain ⟨R, hR⟩ : ∃ R, roundS i n = R := ⟨_, rfl⟩
  rw [hR] at hrl hrg ⊢
  have hfin : ∀ k : Nat, n ≤ k → k ≤ R → k % P = 0 → k = R := by
   intro k h1 h2 h3
   rcases roundS_cases (n := n) hc with ⟨rfl, e⟩ | ⟨rfl, e⟩ | ⟨rfl, e⟩ | ⟨rfl, e⟩
   all_goals (rw [hR] at e; simp at hP; subst hP; omega)
  have hmore : ∀ k : Nat, n ≤ k → k ≤ R → k % P ≠ 0 → k + 1 ≤ R := by
   intro k h1 h2 h3
   rcases Nat.lt_or_ge k R with h | h
   ·omega
   ·exfalso
    obtain rfl : k = R := by omega
    rcases roundS_cases (n := n) hc with ⟨rfl, e⟩ | ⟨rfl, e⟩ | ⟨rfl, e⟩ | ⟨rfl, e⟩
    all_goals (rw [hR] at e; simp at hP; subst hP; omega)
  refine Cx.lp (α := {k : Nat // n ≤ k ∧ k ≤ R}) (fun k => [(1, ii (k.1 : Nat)), (5, ii (P : Nat))]) (fun _ => L) (fun k => R - k.1) ⟨n, Nat.le_refl _, hrg⟩ sb2 (Er _) ?_
  rintro ⟨k, hk1, hk2⟩
  dsimp only
  refine go ?_
  refine Sv rfl (by omega) ?_
  have em : Int.tmod (k : Int) (P : Int) = ((k % P : Nat) : Int) := rfl
  have hkm : k % P < P := Nat.mod_lt _ hp1
  rw [em]
  refine go ?_
  refine Cx.ifn rfl (fun hz => ?_) (fun hz => ?_)
  ·refine go ?_
   rw [w64 (n := (k : Int) + 1) (by omega) (by omega)]
   have := hmore k hk1 hk2 (by omega)
   refine Kn ⟨k + 1, by omega, by omega⟩ sb2 (Er _) (by dsimp only; omega)
  ·refine go ?_
   have := hfin k hk1 hk2 (by omega)
   exact Ko rfl (Er _) ⟨by rw [this], rfl⟩
theorem refRight (wd need : Nat) (hw : 1 ≤ wd) (hw2 : wd ≤ 1024) (hn : 1 ≤ need) (hn2 : need ≤ wd) : FX 186 [ii wd, ii need] L (fun v L' => v = .bool true ∧ L = L') := by
 refine Fm Tryz.func186 k186 ?_
 dsimp only [c186, eL]
 refine go ?_
 refine Sa rfl (refIn (wd : Int) 1 1024) ?_
 rintro v L' ⟨rfl, rfl⟩
 rw [dt (show (1 : Int) ≤ wd ∧ (wd : Int) ≤ 1024 by omega)]
 refine go ?_
 refine Sa rfl (refIn (need : Int) 1 (wd : Int)) ?_
 rintro v L' ⟨rfl, rfl⟩
 rw [dt (show (1 : Int) ≤ need ∧ (need : Int) ≤ wd by omega)]
 refine go ?_
 exact Ko rfl (Er _) ⟨rfl, rfl⟩
theorem refAlone1 (wd need : Nat) (hw : 1 ≤ wd) (hw2 : wd ≤ 1024) (hn : 1 ≤ need) (hn2 : need ≤ wd) : FX 187 [ii wd, ii need] L (fun v L' => v = .bool (decide (wd < 2 * need)) ∧ L = L') := by
 refine Fm Tryz.func187 k187 ?_
 dsimp only [c187, eL]
 refine go ?_
 refine Sa rfl (refRight wd need hw hw2 hn hn2) ?_
 rintro v L' ⟨rfl, rfl⟩
 refine go ?_
 rw [w64 (n := (wd : Int) - need) (by omega) (by omega)]
 refine Ko rfl (Er _) ⟨congrArg Value.bool (decide_eq_decide.2 (by omega)), rfl⟩
theorem refFits2 (wd off need : Nat) (hw : 1 ≤ wd) (hw2 : wd ≤ 1024) (hn : 1 ≤ need) (hn2 : need ≤ wd) (ho : off ≤ 4096) : FX 179 [ii wd, ii off, ii need] L (fun v L' => v = .bool (decide (fitsS wd off need)) ∧ L = L') := by
 refine Fm Tryz.func179 k179 ?_
 dsimp only [c179, eL]
 refine go ?_
 refine Sa rfl (refRight wd need hw hw2 hn hn2) ?_
 rintro v L' ⟨rfl, rfl⟩
 refine go ?_
 refine Sa rfl (refAlone1 wd need hw hw2 hn hn2) ?_
 rintro v L' ⟨rfl, rfl⟩
 by_cases h : wd < 2 * need
 ·rw [dt h]
  refine go ?_
  refine Ko rfl (Er _) ⟨congrArg Value.bool (dz (fun hh => ?_)).symm, rfl⟩
  have := hh.1; omega
 ·rw [dz h]
  refine go ?_
  rw [w64 (n := (wd : Int) - need) (by omega) (by omega)]
  refine Ko rfl (Er _) ⟨congrArg Value.bool (decide_eq_decide.2 ?_), rfl⟩
  unfold fitsS; omega
theorem refAfter (wd need : Nat) (hw : 1 ≤ wd) (hw2 : wd ≤ 1024) (hn : 1 ≤ need) (hn2 : need ≤ wd) : FX 113 [ii wd, ii need] L (fun v L' => v = ii (afterS wd need : Nat) ∧ L = L') := by
 refine Fm Tryz.func113 k113 ?_
 dsimp only [c113, eL]
 refine go ?_
 refine Sa rfl (refRight wd need hw hw2 hn hn2) ?_
 rintro v L' ⟨rfl, rfl⟩
 refine go ?_
 refine Sa rfl (refAlone1 wd need hw hw2 hn hn2) ?_
 rintro v L' ⟨rfl, rfl⟩
 refine Sx.nil ?_
 refine Krg.i ?_
 refine Ksq.nm ?_
 refine Xi rfl (fun h => ?_) (fun h => ?_)
 ·refine go ?_
  exact Ko rfl (Er _) ⟨by unfold afterS; rw [if_pos h], rfl⟩
 ·refine go ?_
  exact Ko rfl (Er _) ⟨by unfold afterS; rw [if_neg h], rfl⟩
end
section
variable {L F G : St}
abbrev ralV (sa slot : Nat) (gen : Int) (n at_ : Nat) (cnt : Int) (v : AlV) (tp gp : Value) (dry d : Bool) : List Value :=
 [zp sa, ii (slot : Nat), ii gen, ii (n : Nat), ii (at_ : Nat), ii cnt, ii (v.point : Nat), ii (v.need : Nat), ii v.hand, ii (v.zat : Nat), wd v.was, tp, gp, ii (v.code : Nat),
  ii v.obj.slot, ii v.obj.gen, ii v.obj.chunk, ii v.obj.off, ii v.obj.len, .bool dry, .bool d]
abbrev ralB (b sa slot : Nat) (gen : Int) (n at_ : Nat) (cnt : Int) (v : AlV) (tp gp : Value) (dry d : Bool) : As := pt (ad b) (Blk 87 (ralV sa slot gen n at_ cnt v tp gp dry d))
def dryOk (s : AlS) (dry : Bool) : Prop := s.at_ ≤ 1 → s.v.hand < 0 → dry = s.v.asked
def ralSL (T : TypeId) (sa slot : Nat) (gen : Int) (n : Nat) (s : AlS) (a : OA) (y : Value × Value × Bool) : St :=
 [lift (dryOk s y.2.2), pt a (Blk T (ralV sa slot gen n s.at_ (s.v.cnt : Nat) s.v y.1 y.2.1 y.2.2 s.done))]
def ralTL (T : TypeId) (sa rp slot : Nat) (gen : Int) (n : Nat) (s : AlS) (a : OA) (y : Nat × Value) : St :=
 [pt a (Blk T (ralV sa slot gen n 2 (s.v.cnt : Nat) s.v (zp y.1) y.2 false false)), pt (ad y.1) (RTakeO sa rp s.t)]
def RAlT (T : TypeId) (sa rp slot : Nat) (gen : Int) (n : Nat) (s : AlS) (a : OA) : As := bif !s.done && Nat.beq s.at_ 2 then exs (ralTL T sa rp slot gen n s a) else exs (ralSL T sa slot gen n s a)
abbrev RAlO := RAlT 87
theorem RAlO.t_ {T : TypeId} {sa rp slot : Nat} {gen : Int} {n : Nat} {s : AlS} {a : OA} (h : s.done = false) (h2 : s.at_ = 2) : RAlT T sa rp slot gen n s a = exs (ralTL T sa rp slot gen n s a) := by unfold RAlT; rw [h, h2]; rfl
theorem RAlO.s_ {T : TypeId} {sa rp slot : Nat} {gen : Int} {n : Nat} {s : AlS} {a : OA} (h : s.done = true ∨ s.at_ ≠ 2) : RAlT T sa rp slot gen n s a = exs (ralSL T sa slot gen n s a) := by
 unfold RAlT
 rcases h with h | h
 ·rw [h]; rfl
 ·cases hb : Nat.beq s.at_ 2 with
  | true => exact absurd (bq hb) h
  | false => rw [Bool.and_false]; rfl
theorem RAlO.closeS {b sa rp slot at_ : Nat} {gen : Int} {n : Nat} {cnt : Int} {v : AlV} {tp gp : Value} {dry d : Bool} (s : AlS) (h : s.done = true ∨ s.at_ ≠ 2) (hd : d = s.done) (ha : at_ = s.at_) (hc : cnt = (s.v.cnt : Nat)) (hv : { v with cnt := s.v.cnt, ends := s.v.ends, asked := s.v.asked } = s.v) (hdr : dryOk s dry) :
  Ent (ralB b sa slot gen n at_ cnt v tp gp dry d :: G) (pt (ad b) (RAlO sa rp slot gen n s) :: G) := by
 subst hd ha hc
 obtain ⟨a1, v0, t0, g0, d0⟩ := s
 obtain ⟨c1, c2, c3, c4, c5, c6, c7, c8, c9, c10⟩ := v0
 obtain ⟨e1, e2, e3, e4, e5, e6, e7, e8, e9, e10⟩ := v
 dsimp only at hv
 cases hv
 refine Et (Ent.lift hdr (Er _)) ?_
 exact Ent.close (f := ralSL 87 sa slot gen n _ (ad b)) (RAlO.s_ h) (tp, gp, dry)
theorem RAlO.closeT {b sa rp slot q : Nat} {gen : Int} {n : Nat} {cnt : Int} {v : AlV} {gp : Value} {t : TakeS} (s : AlS) (h : s.done = false) (ha : s.at_ = 2) (hc : cnt = (s.v.cnt : Nat)) (hv : { v with cnt := s.v.cnt, ends := s.v.ends, asked := s.v.asked } = s.v) (ht : t = s.t) :
  Ent (ralB b sa slot gen n 2 cnt v (zp q) gp false false :: pt (ad q) (RTakeO sa rp t) :: G) (pt (ad b) (RAlO sa rp slot gen n s) :: G) := by
 subst hc ht
 obtain ⟨a1, v0, t0, g0, d0⟩ := s
 obtain ⟨c1, c2, c3, c4, c5, c6, c7, c8, c9, c10⟩ := v0
 obtain ⟨e1, e2, e3, e4, e5, e6, e7, e8, e9, e10⟩ := v
 dsimp only at hv
 cases hv
 exact Ent.close (f := ralTL 87 sa rp slot gen n _ (ad b)) (RAlO.t_ h ha) (q, gp)
theorem refSupAlloc {sa rp : Nat} (slot : Nat) (gen : Int) (n : Nat) :
  FX 37 [zp sa, ii slot, ii gen, ii n] L (fun v L' => ∃ b, v = zp b ∧ L' = pt (ad b) (RAlO sa rp slot gen n AlS.init) :: L) := by
 refine Fm Tryz.func37 k37 ?_
 dsimp only [c37, eL]
 refine go ?_
 refine Sx.bx rfl rfl fun b => ?_
 refine Sr (ralV sa slot gen n 0 0 AlV.init (.pointer none) (.pointer none) false false) rfl (go ?_)
 refine Ko rfl ?_ ⟨b, rfl, rfl⟩
 exact RAlO.closeS (v := AlV.init) AlS.init (.inr (by decide)) rfl rfl rfl rfl (fun _ _ => rfl)
theorem refAlTaken {b sa rp slot at_ q : Nat} {gen : Int} {n : Nat} {v : AlV} {gp : Value} {t : TakeS} {cnt : Int} (hcnt : cnt = (v.cnt : Nat)) (hd : t.done = true) (hask : v.asked = true) (hz : v.zat = 0) (hh : v.hand = -1) (hch : t.is_ = true → 0 ≤ t.chunk) :
  FX 109 [zp b] (ralB b sa slot gen n at_ cnt v (zp q) gp false false :: pt (ad q) (RTakeO sa rp t) :: G)
   (fun _ L' => L' = pt (ad b) (RAlO sa rp slot gen n (alTaken v t)) :: G) := by
 subst hcnt
 obtain ⟨c1, c2, c3, c4, c5, c6, c7, c8, c9, c10⟩ := v
 dsimp only at hz hask hh
 subst hz hask hh
 refine Fm Tryz.func109 k109 ?_
 dsimp only [c109, eL]
 refine Xe (Ec (Er _)) ?_
 refine Xe (Ent.swap) ?_
 refine Xo (a := ad q) (RTakeO.d hd) ?_
 rintro ⟨m, pp⟩
 simp only [rtakeDL, lc, ln]
 refine go ?_
 cases hi : t.is_ with
 | true =>
   have e : alTaken ⟨c1, -1, 0, true, c5, c6, c7, c8, c9, c10⟩ t = ⟨3, ⟨c1, t.chunk, 0, true, c5, c6, c7, c8, c9, c10⟩, t, gNone, false⟩ := by unfold alTaken; rw [hi]; rfl
   have ec : t.ch = t.chunk := by unfold TakeS.ch; rw [hi]; rfl
   have := hch hi
   rw [e, ec]
   refine Xn rfl (dz (by omega)) (go ?_)
   refine Kr.none (.inl rfl) ?_ rfl
   refine Et (Ek (a := ad b)) ?_
   refine Et (RAlO.closeS (rp := rp) (v := ⟨c1, t.chunk, 0, true, c5, c6, c7, c8, c9, c10⟩) ⟨3, ⟨c1, t.chunk, 0, true, c5, c6, c7, c8, c9, c10⟩, t, gNone, false⟩ (.inr (by show 3 ≠ 2; omega)) rfl rfl rfl rfl (fun h => by exact absurd h (by show ¬ 3 ≤ 1; omega))) (Ec ?_)
   exact ent
 | false =>
   have e : alTaken ⟨c1, -1, 0, true, c5, c6, c7, c8, c9, c10⟩ t = ⟨0, ⟨c1, -1, 0, true, c5, c6, c7, c8, c9, c10⟩, t, gNone, false⟩ := by unfold alTaken; rw [hi]; rfl
   have ec : t.ch = -1 := by unfold TakeS.ch; rw [hi]; rfl
   rw [e, ec]
   refine go ?_
   refine Kr.none (.inr rfl) ?_ rfl
   refine Et (Ek (a := ad b)) ?_
   refine Et (RAlO.closeS (rp := rp) (v := ⟨c1, -1, 0, true, c5, c6, c7, c8, c9, c10⟩) ⟨0, ⟨c1, -1, 0, true, c5, c6, c7, c8, c9, c10⟩, t, gNone, false⟩ (.inr (by show 0 ≠ 2; omega)) rfl rfl rfl rfl (fun _ _ => rfl)) (Ec ?_)
   exact ent
end
section
variable {L F G : St}
theorem rt_was_lt {w : Nat} (h : (rtOf w).ok) : w < 18446744073709551616 := by
 have : w / 4294967296 < 4294967296 := h.g
 omega
end
section
variable {L F G : St}
theorem takeStep_pop {k : Sk} {ba : Int} {m : Mm} {s : SupS} {t : TakeS} {len : Nat} (hk : k.ok len) (hm : m.ok) (hq : t.q.ok k) (h1 : t.at_ = 1) (hd : t.done = false) :
  ((takeStep k ba m s t).2.2.done = false → (takeStep k ba m s t).2.2.at_ = 1) ∧ ((takeStep k ba m s t).2.2.is_ = true → (takeStep k ba m s t).2.2.done = true → t.is_ = false → 0 ≤ (takeStep k ba m s t).2.2.chunk) := by
 have hp := popStep_ok hk hm hq
 unfold takeStep
 rw [hd, h1]
 simp only [bf, if_false]
 split
 ·unfold popped
  dsimp only
  split
  ·exact ⟨fun h => (by cases h), fun h1 _ h2 => by dsimp only at h1; rw [h2] at h1; cases h1⟩
  ·rename_i y l hg
   refine ⟨fun h => (by cases h), fun _ _ _ => ?_⟩
   exact (hp.g y (by rw [hg]; simp)).1
 ·exact ⟨fun _ => rfl, fun _ h _ => by cases h⟩
end
section
variable {L F G : St}
structure AlStp (x : Cn) (s : Nat) (g : Int) (words : Nat) (r : Mm × SupS) (N : Nat) (r' : Mm × SupS) : Prop where
 run : AlRun x (x.al s g words) (alR r.1 r.2) N
 lt : N < 200
 em : (alIt (x.al s g words) N (alR r.1 r.2)).1 = r'.1
 es : (alIt (x.al s g words) N (alR r.1 r.2)).2.1 = r'.2
 ref : ∀ t, t < N → RefOk x.pool (alIt (x.al s g words) t (alR r.1 r.2)).2.2 ∧ (alIt (x.al s g words) t (alR r.1 r.2)).2.1.xs = [] ∧ (alIt (x.al s g words) t (alR r.1 r.2)).2.1.lm.size = 0 ∧ ((alIt (x.al s g words) t (alR r.1 r.2)).2.2.at_ = 2 → (alIt (x.al s g words) t (alR r.1 r.2)).2.2.t.is_ = false)
abbrev rhG (x : Cn) (n : Hn) (r r2 k c c2 : Nat) (Q : Nat → Who) (i : Nat) (S : SupS) (G : St) : St :=
 pt (ad r) (Row 47 1 k c (ptrs k fun i => (Q i).u)) :: pt (ad (Q i).u) (SupO n.mp (Q i).pb x S) :: pt (ad (Q i).pb) (SkO n.mp x.pool) :: pt (ad n.g) (GrO n.mp x) ::
 pt (ad r2) (Row 81 1 k c2 (ptrs k fun i => (Q i).s)) :: pt (ad (Q i).s) (RSupO n.w S) :: pt (ad n.rp) (RSkO n.rm x.pool) :: G
end
end
structure WI (x : Cn) (sl : List Int) (j : Nat) (m : Mm) : Prop where
 len : m.ws.length = x.len
 ok : m.ok
 pool : Pool x.pool m ((iotaI x.c).drop j)
 root : rtOf (m.at_ (x.root + 0)) = ⟨1, j + 1, 0, if j = 0 then 0 else x.wd⟩
 link : ∀ i, i < j → m.at_ (x.link + i) = i
 spare : Pool x.spare m sl
theorem iota_drop {c j : Nat} (h : j < c) : (iotaI c).drop j = (j : Int) :: (iotaI c).drop (j + 1) := by
 rw [List.drop_eq_getElem_cons (by simp [iotaI]; exact h)]
 simp [iotaI]
section
variable {x : Cn} {m : Mm} {S : SupS}
end
theorem Pool.tick {k : Sk} {m : Mm} {l : List Int} (h : Pool k m l) : Pool k m.tick l := ⟨h.c.congr fun _ _ => rfl, h.nd⟩
structure PopI (k : Sk) (m : Mm) (l : List Int) (q : PopS) : Prop where
 le : hdT q.was ≤ hdT (m.at_ k.head)
 eq : hdT q.was = hdT (m.at_ k.head) → q.was = m.at_ k.head
 pre : q.was = m.at_ k.head → (∃ r, l = q.got ++ r) ∧ (q.at_ = 2 → q.under = (l.drop q.got.length).headD (-1))
def PopH (k : Sk) (m : Mm) (l : List Int) (q : PopS) : Prop := q.done = false → q.at_ ≠ 0 → PopI k m l q
structure PushI (k : Sk) (m : Mm) (p : PushS) : Prop where
 links : ∀ i, i + 1 < p.l.length → i < p.at_ → m.at_ (k.links + (itI p.l i).toNat) = (itI p.l (i + 1) + 1).toNat
 last : p.at_ = p.l.length + 1 → m.at_ (k.links + (itI p.l (p.l.length - 1)).toNat) = (k.top p.was + 1).toNat
 le : p.l.length ≤ p.at_ → hdT p.was ≤ hdT (m.at_ k.head)
 eq : p.l.length ≤ p.at_ → hdT p.was = hdT (m.at_ k.head) → p.was = m.at_ k.head
def PushH (k : Sk) (m : Mm) (p : PushS) : Prop := p.done = false → PushI k m p
def HeadGoes (k : Sk) (m m' : Mm) (l l' : List Int) : Prop := (m'.at_ k.head = m.at_ k.head ∧ l' = l) ∨ hdT (m.at_ k.head) < hdT (m'.at_ k.head)
theorem PopH.frame {k : Sk} {m m' : Mm} {l l' : List Int} {q : PopS} (h : PopH k m l q) (g : HeadGoes k m m' l l') : PopH k m' l' q := by
 intro hd ha
 have h := h hd ha
 rcases g with ⟨e, rfl⟩ | g
 ·exact ⟨by rw [e]; exact h.le, by rw [e]; exact h.eq, by rw [e]; exact h.pre⟩
 ·have hl := h.le
  exact ⟨by omega, fun e => by omega, fun e => by rw [← e] at g; omega⟩
theorem PushH.frame {k : Sk} {m m' : Mm} {l l' : List Int} {p : PushS} (h : PushH k m p) (g : HeadGoes k m m' l l') (hl : ∀ x ∈ p.l, m'.at_ (k.links + x.toNat) = m.at_ (k.links + x.toNat)) (hne : p.done = false → p.l ≠ []) : PushH k m' p := by
 intro hd
 have hlp := List.length_pos_iff.2 (hne hd)
 have h := h hd
 refine ⟨fun i h1 h2 => by rw [hl _ (itI_mem (by omega))]; exact h.links i h1 h2, fun ha => by rw [hl _ (itI_mem (by omega))]; exact h.last ha, fun ha => ?_, fun ha => ?_⟩
 ·have := h.le ha
  rcases g with ⟨e, _⟩ | g
  ·rw [e]; exact this
  ·omega
 ·have := h.le ha
  rcases g with ⟨e, _⟩ | g
  ·rw [e]; exact h.eq ha
  ·intro e; omega
def Tagged (k : Sk) (m : Mm) : Prop := hdT (m.at_ k.head) < 4294967295
theorem laterT_gt {t : Nat} (h : t < 4294967295) : laterT t = t + 1 := by unfold laterT; rw [if_pos h]
theorem popStep_inv {k : Sk} {m : Mm} {l : List Int} {q : PopS} {len : Nat} (hk : k.ok len) (hml : m.ws.length = len) (hp : Pool k m l) (hq : q.ok k) (ht : Tagged k m) (h : PopH k m l q) :
  ∃ l', Pool k (popStep k m q).2 l' ∧ PopH k (popStep k m q).2 l' (popStep k m q).1 ∧ HeadGoes k m (popStep k m q).2 l l' ∧ (∀ a, a ≠ k.head → (popStep k m q).2.at_ a = m.at_ a) ∧ hdT ((popStep k m q).2.at_ k.head) ≤ hdT (m.at_ k.head) + 1 ∧
   ((popStep k m q).1.done = false → l' = l) ∧ (q.done = false → (popStep k m q).1.done = true → l = (popStep k m q).1.got ++ l') := by
 have h8 := hk.n2
 cases hd : q.done with
 | true =>
   have e : popStep k m q = (q, m) := by unfold popStep; rw [if_pos hd]
   rw [e]
   exact ⟨l, hp, h, .inl ⟨rfl, rfl⟩, fun _ _ => rfl, Nat.le_succ _, fun _ => rfl, fun h => by cases h⟩
 | false =>
   have ha := hq.a
   rcases (show q.at_ = 0 ∨ q.at_ = 1 ∨ q.at_ = 2 by omega) with h0 | h0 | h0
   ·by_cases ht0 : 0 ≤ k.top (m.at_ k.head)
    ·have e : popStep k m q = ({ q with was := m.at_ k.head, got := [k.top (m.at_ k.head)], at_ := 1 }, m.tick) := by
      unfold popStep; rw [hd, h0]; simp only [bf, if_false]; rw [if_pos ht0]
     rw [e]
     refine ⟨l, hp.tick, fun _ _ => ⟨Nat.le_refl _, fun _ => rfl, fun _ => ⟨?_, fun h => by cases h⟩⟩, .inl ⟨rfl, rfl⟩, fun _ _ => rfl, by show hdT (m.at_ k.head) ≤ _; omega, fun _ => rfl, fun _ h => by simp only at h; rw [hd] at h; cases h⟩
     cases l with
     | nil => have : k.top (m.at_ k.head) = -1 := hp.c; omega
     | cons x r => exact ⟨r, by rw [hp.c.1]; rfl⟩
    ·have e : popStep k m q = ({ q with was := m.at_ k.head, got := [], done := true }, m.tick) := by
      unfold popStep; rw [hd, h0]; simp only [bf, if_false]; rw [if_neg ht0]
     rw [e]
     exact ⟨l, hp.tick, fun h => (by cases h), .inl ⟨rfl, rfl⟩, fun _ _ => rfl, by show hdT (m.at_ k.head) ≤ _; omega, fun _ => rfl, fun _ _ => rfl⟩
   ·have hI := h hd (by omega)
    have hne := hq.ne hd (by omega)
    have hlp := List.length_pos_iff.2 hne
    have hnext : q.was = m.at_ k.head → k.below (m.at_ (k.links + (lastI q.got).toNat)) = (l.drop q.got.length).headD (-1) := fun hw => by
     obtain ⟨⟨r, hr⟩, _⟩ := hI.pre hw
     have hj : q.got.length - 1 < l.length := by rw [hr, List.length_append]; omega
     have hd' := (hp.c.drop_ (j := q.got.length - 1) hj).head_
     rw [show q.got.length - 1 + 1 = q.got.length by omega] at hd'
     rw [← hd']
     have e1 : l[q.got.length - 1] = lastI q.got := by
      have : l[q.got.length - 1]? = some (lastI q.got) := by
       rw [hr, List.getElem?_append_left (by omega)]
       unfold lastI
       rw [List.getLastD_eq_getLast?, List.getLast?_eq_getElem?, List.getElem?_eq_getElem (by omega)]; rfl
      rw [List.getElem?_eq_getElem hj] at this
      exact Option.some.inj this
     rw [e1]
    by_cases hb : 0 ≤ k.below (m.at_ (k.links + (lastI q.got).toNat)) ∧ (q.got.length : Int) < q.most
    ·have e : popStep k m q = ({ q with under := k.below (m.at_ (k.links + (lastI q.got).toNat)), got := q.got ++ [k.below (m.at_ (k.links + (lastI q.got).toNat))] }, m.tick) := by
      unfold popStep; rw [hd, h0]; simp only [bf, if_false]; rw [if_pos hb]
     rw [e]
     refine ⟨l, hp.tick, fun _ _ => ⟨hI.le, hI.eq, fun hw => ⟨?_, fun h => by simp only at h; omega⟩⟩, .inl ⟨rfl, rfl⟩, fun _ _ => rfl, by show hdT (m.at_ k.head) ≤ _; omega, fun _ => rfl, fun _ h => by simp only at h; rw [hd] at h; cases h⟩
     obtain ⟨⟨r, hr⟩, _⟩ := hI.pre hw
     have hn := hnext hw
     rw [hr, List.drop_left] at hn
     cases r with
     | nil => rw [hn] at hb; simp at hb
     | cons y r => exact ⟨r, by simp only; rw [hn, hr]; simp⟩
    ·have e : popStep k m q = ({ q with under := k.below (m.at_ (k.links + (lastI q.got).toNat)), at_ := 2 }, m.tick) := by
      unfold popStep; rw [hd, h0]; simp only [bf, if_false]; rw [if_neg hb]
     rw [e]
     exact ⟨l, hp.tick, fun _ _ => ⟨hI.le, hI.eq, fun hw => ⟨(hI.pre hw).1, fun _ => hnext hw⟩⟩, .inl ⟨rfl, rfl⟩, fun _ _ => rfl, by show hdT (m.at_ k.head) ≤ _; omega, fun _ => rfl, fun _ h => by simp only at h; rw [hd] at h; cases h⟩
   ·have hI := h hd (by omega)
    have e : popStep k m q = ({ q with at_ := 0, done := decide (m.at_ k.head = q.was) }, m.cas k.head q.was (nextW q.was q.under)) := by
     unfold popStep; rw [hd, h0]; rfl
    rw [e]
    by_cases hw : m.at_ k.head = q.was
    ·obtain ⟨⟨r, hr⟩, hu⟩ := hI.pre hw.symm
     have hu := hu h0
     rw [hr, List.drop_left] at hu
     have hu1 := hq.u1; have hu2 := hq.u2
     have hput : ∀ a v, (m.put k.head v).at_ a = if k.head = a then v else m.at_ a := fun a v => Mp _ (by have := hk.h; omega)
     have hcas : m.cas k.head q.was (nextW q.was q.under) = m.put k.head (nextW q.was q.under) := by unfold Mm.cas; rw [if_pos hw]
     have htag : hdT (nextW q.was q.under) = hdT (m.at_ k.head) + 1 := by rw [hdT_next hu1 (by omega), ← hw, laterT_gt ht]
     dsimp only
     rw [hcas, dt hw]
     refine ⟨r, ⟨?_, ?_⟩, fun h => (by cases h), .inr ?_, fun a ha => by rw [hput, if_neg (fun h => ha h.symm)], ?_, fun h => (by cases h), fun _ _ => hr⟩
     ·have e1 : k.top ((m.put k.head (nextW q.was q.under)).at_ k.head) = r.headD (-1) := by
       rw [hput, if_pos rfl, ← hu]
       unfold Sk.top
       rw [hdI_next hu1 (by omega), if_pos hu2]
      rw [e1]
      have hlp := List.length_pos_iff.2 (hq.ne hd (by omega))
      have hj : q.got.length - 1 < l.length := by rw [hr, List.length_append]; omega
      have hc := hp.c.drop_ (j := q.got.length - 1) hj
      have hdr : l.drop q.got.length = r := by rw [hr, List.drop_left]
      rw [show q.got.length - 1 + 1 = q.got.length by omega, hdr] at hc
      have hh := hc.head_
      rw [hh] at hc
      refine hc.congr fun x hx => ?_
      have hx2 := hp.c.mem x (by rw [hr]; exact List.mem_append_right _ hx)
      rw [hput, if_neg (hk.head_ne hx2)]
     ·have := hp.nd; rw [hr] at this; exact (List.nodup_append.1 this).2.1
     ·rw [hput, if_pos rfl, htag]; omega
     ·rw [hput, if_pos rfl, htag]; omega
    ·have hcas : m.cas k.head q.was (nextW q.was q.under) = m.tick := by unfold Mm.cas; rw [if_neg hw]
     dsimp only
     rw [hcas, dz hw]
     exact ⟨l, hp.tick, fun _ h => absurd rfl h, .inl ⟨rfl, rfl⟩, fun _ _ => rfl, by show hdT (m.at_ k.head) ≤ _; omega, fun _ => rfl, fun _ h => by cases h⟩
theorem pushStep_inv {k : Sk} {m : Mm} {l : List Int} {p : PushS} {len : Nat} (hk : k.ok len) (hml : m.ws.length = len) (hp : Pool k m l) (hq : p.ok k) (hnd : p.l.Nodup) (hdj : ∀ x ∈ p.l, x ∉ l) (ht : Tagged k m) (h : PushH k m p) :
  ∃ l', Pool k (pushStep k m p).2 l' ∧ PushH k (pushStep k m p).2 (pushStep k m p).1 ∧ HeadGoes k m (pushStep k m p).2 l l' ∧ (∀ a, a ≠ k.head → (∀ x ∈ p.l, a ≠ k.links + x.toNat) → (pushStep k m p).2.at_ a = m.at_ a) ∧ hdT ((pushStep k m p).2.at_ k.head) ≤ hdT (m.at_ k.head) + 1 ∧
   (pushStep k m p).1.l = p.l ∧ ((pushStep k m p).1.done = false → l' = l) ∧ (p.done = false → (pushStep k m p).1.done = true → l' = p.l ++ l) := by
 have h8 := hk.n2; have hkl := hk.l; have hkh := hk.h
 cases hd : p.done with
 | true =>
   have e : pushStep k m p = (p, m) := by unfold pushStep; rw [if_pos hd]
   rw [e]
   exact ⟨l, hp, h, .inl ⟨rfl, rfl⟩, fun _ _ _ => rfl, Nat.le_succ _, rfl, fun _ => rfl, fun h => by cases h⟩
 | false =>
   have hI := h hd
   have ha := hq.a
   have hne := hq.ne hd
   have hlp := List.length_pos_iff.2 hne
   have hg : ∀ i, i < p.l.length → 0 ≤ itI p.l i ∧ itI p.l i < k.n := fun i hi => hq.g _ (itI_mem hi)
   have hinj : ∀ a b, a < p.l.length → b < p.l.length → a ≠ b → k.links + (itI p.l a).toNat ≠ k.links + (itI p.l b).toNat := by
    intro a b ha hb hab e
    have ra := hg a ha; have rb := hg b hb
    have : itI p.l a = itI p.l b := by omega
    rw [itI_eq ha, itI_eq hb] at this
    exact hab (nodup_inj hnd ha hb this)
   have hhl : ∀ i, i < p.l.length → k.head ≠ k.links + (itI p.l i).toNat := fun i hi => hk.head_ne (hg i hi)
   -- the store of a link that is one's own
   have hst : ∀ i v, i < p.l.length → (∀ a, (m.put (k.links + (itI p.l i).toNat) v).at_ a = if k.links + (itI p.l i).toNat = a then v else m.at_ a) ∧ Pool k (m.put (k.links + (itI p.l i).toNat) v) l := fun i v hi => by
    have hput : ∀ a, (m.put (k.links + (itI p.l i).toNat) v).at_ a = if k.links + (itI p.l i).toNat = a then v else m.at_ a := fun a => Mp _ (by have := hg i hi; omega)
    refine ⟨hput, ?_, hp.nd⟩
    rw [hput, if_neg (fun e => hhl i hi e.symm)]
    refine hp.c.congr fun x hx => ?_
    have hx2 := hp.c.mem x hx
    rw [hput, if_neg (toNat_ne (hg i hi).1 hx2.1 (fun e => hdj _ (itI_mem hi) (by rw [e]; exact hx)))]
   by_cases h1 : p.at_ + 1 < p.l.length
   ·have e : pushStep k m p = ({ p with at_ := p.at_ + 1 }, m.put (k.links + (itI p.l p.at_).toNat) (itI p.l (p.at_ + 1) + 1).toNat) := by
     unfold pushStep; rw [hd]; simp only [bf, if_false]; rw [if_pos h1]
    rw [e]
    obtain ⟨hput, hpool⟩ := hst p.at_ (itI p.l (p.at_ + 1) + 1).toNat (by omega)
    refine ⟨l, hpool, fun _ => ⟨fun i hi1 hi2 => ?_, fun hh => by simp only at hh; omega, fun hh => by simp only at hh; omega, fun hh => by simp only at hh; omega⟩, .inl ⟨?_, rfl⟩, fun a _ hx => ?_, ?_, rfl, fun _ => rfl, fun _ h => by simp only at h; rw [hd] at h; cases h⟩
    ·simp only at hi1 hi2 ⊢
     rw [hput]
     by_cases hip : i = p.at_
     ·rw [hip, if_pos rfl]
     ·rw [if_neg (hinj p.at_ i (by omega) (by omega) (by omega))]
      exact hI.links i hi1 (by omega)
    ·rw [hput, if_neg (fun e => hhl _ (by omega) e.symm)]
    ·rw [hput, if_neg (fun e => hx _ (itI_mem (l := p.l) (i := p.at_) (by omega)) e.symm)]
    ·dsimp only
     rw [hput, if_neg (fun e => hhl _ (by omega) e.symm)]; omega
   ·by_cases h2 : p.at_ + 1 = p.l.length
    ·have e : pushStep k m p = ({ p with at_ := p.at_ + 1, was := m.at_ k.head }, m.tick) := by
      unfold pushStep; rw [hd]; simp only [bf, if_false]; rw [if_neg h1, if_pos h2]
     rw [e]
     exact ⟨l, hp.tick, fun _ => ⟨fun i hi1 hi2 => hI.links i hi1 (by simp only at hi1 hi2; omega), fun hh => by simp only at hh; omega, fun _ => Nat.le_refl _, fun _ _ => rfl⟩, .inl ⟨rfl, rfl⟩, fun _ _ _ => rfl, by show hdT (m.at_ k.head) ≤ _; omega, rfl, fun _ => rfl, fun _ h => by simp only at h; rw [hd] at h; cases h⟩
    ·by_cases h3 : p.at_ = p.l.length
     ·have e : pushStep k m p = ({ p with at_ := p.at_ + 1 }, m.put (k.links + (itI p.l (p.l.length - 1)).toNat) (k.top p.was + 1).toNat) := by
       unfold pushStep; rw [hd]; simp only [bf, if_false]; rw [if_neg h1, if_neg h2, if_pos h3]
      rw [e]
      obtain ⟨hput, hpool⟩ := hst (p.l.length - 1) (k.top p.was + 1).toNat (by omega)
      have hh0 : (m.put (k.links + (itI p.l (p.l.length - 1)).toNat) (k.top p.was + 1).toNat).at_ k.head = m.at_ k.head := by rw [hput, if_neg (fun e => hhl _ (by omega) e.symm)]
      refine ⟨l, hpool, fun _ => ⟨fun i hi1 hi2 => ?_, fun _ => ?_, fun _ => ?_, fun _ => ?_⟩, .inl ⟨hh0, rfl⟩, fun a _ hx => ?_, ?_, rfl, fun _ => rfl, fun _ h => by simp only at h; rw [hd] at h; cases h⟩
      ·simp only at hi1 hi2 ⊢
       rw [hput, if_neg (hinj (p.l.length - 1) i (by omega) (by omega) (by omega))]
       exact hI.links i hi1 (by omega)
      ·simp only
       rw [hput, if_pos rfl]
      ·simp only; rw [hh0]; exact hI.le (by omega)
      ·simp only; rw [hh0]; exact hI.eq (by omega)
      ·rw [hput, if_neg (fun e => hx _ (itI_mem (l := p.l) (i := p.l.length - 1) (by omega)) e.symm)]
      ·dsimp only; rw [hh0]; omega
     ·have h4 : p.at_ = p.l.length + 1 := by omega
      have e : pushStep k m p = ({ p with at_ := p.l.length - 1, done := decide (m.at_ k.head = p.was) }, m.cas k.head p.was (nextW p.was (itI p.l 0))) := by
       unfold pushStep; rw [hd]; simp only [bf, if_false]; rw [if_neg h1, if_neg h2, if_neg h3]
      rw [e]
      by_cases hw : m.at_ k.head = p.was
      ·have h00 := hg 0 hlp
       have hput : ∀ a v, (m.put k.head v).at_ a = if k.head = a then v else m.at_ a := fun a v => Mp _ (by omega)
       have hcas : m.cas k.head p.was (nextW p.was (itI p.l 0)) = m.put k.head (nextW p.was (itI p.l 0)) := by unfold Mm.cas; rw [if_pos hw]
       have htag : hdT (nextW p.was (itI p.l 0)) = hdT (m.at_ k.head) + 1 := by rw [hdT_next (by omega) (by omega), ← hw, laterT_gt ht]
       dsimp only
       rw [hcas, dt hw]
       refine ⟨p.l ++ l, ⟨?_, ?_⟩, fun h => (by cases h), .inr ?_, fun a ha _ => by rw [hput, if_neg (fun h => ha h.symm)], ?_, rfl, fun h => (by cases h), fun _ _ => rfl⟩
       ·have e1 : k.top ((m.put k.head (nextW p.was (itI p.l 0))).at_ k.head) = itI p.l 0 := by
         rw [hput, if_pos rfl]
         unfold Sk.top
         rw [hdI_next (by omega) (by omega), if_pos h00.2]
        rw [e1]
        refine chain_app (t := k.top p.was) p.l hne hq.g (fun i hi => ?_) ?_ ?_
        ·rw [hput, if_neg (hhl i (by omega)), hI.links i hi (by omega)]
         have := hg (i + 1) hi
         exact k.below_link (by omega) this.2
        ·rw [hput, if_neg (hhl _ (by omega)), hI.last h4]
         exact k.below_link (k.top_ge _) (k.top_lt _)
        ·rw [← hw]
         refine hp.c.congr fun x hx => ?_
         rw [hput, if_neg (hk.head_ne (hp.c.mem x hx))]
       ·rw [List.nodup_append]
        exact ⟨hnd, hp.nd, fun a ha b hb e => hdj a ha (by rw [e]; exact hb)⟩
       ·rw [hput, if_pos rfl, htag]; omega
       ·rw [hput, if_pos rfl, htag]; omega
      ·have hcas : m.cas k.head p.was (nextW p.was (itI p.l 0)) = m.tick := by unfold Mm.cas; rw [if_neg hw]
       dsimp only
       rw [hcas, dz hw]
       exact ⟨l, hp.tick, fun _ => ⟨fun i hi1 hi2 => hI.links i hi1 (by simp only at hi1 hi2; omega), fun hh => by simp only at hh; omega, fun hh => by simp only at hh; omega, fun hh => by simp only at hh; omega⟩, .inl ⟨rfl, rfl⟩, fun _ _ _ => rfl, by show hdT (m.at_ k.head) ≤ _; omega, rfl, fun _ => rfl, fun _ h => by cases h⟩
structure Wk where
 s : SupS
 a : AlS
 n : Nat
def ownH (a : AlS) : List Int := if 0 ≤ a.v.hand then [a.v.hand] else []
def ownG (a : AlS) : List Int := if a.g.done then [] else a.g.l
def Wk.own (w : Wk) : List Int := w.s.xs ++ (ownH w.a ++ ownG w.a)
def Wk.pend (w : Wk) : List Hd := if w.a.at_ = 6 ∧ w.a.v.code = 0 then [w.a.v.obj] else []
structure RootI (x : Cn) (cl gen : Nat) (w : Nat) : Prop where
 ok : (rtOf w).ok
 g : (rtOf w).gen = gen
 c : (rtOf w).cl = cl
 m : 1 ≤ (rtOf w).mrk
 o : (rtOf w).off ≤ x.wd
 d : (rtOf w).off % 2 ^ cl = 0
def Apt (o u : Hd) : Prop := o.chunk = u.chunk → o.off + o.len ≤ u.off ∨ u.off + u.len ≤ o.off
structure ObjI (x : Cn) (slot cl gen : Nat) (w : Nat) (R : List Int) (o : Hd) : Prop where
 s : o.slot = slot
 g : o.gen = gen
 c : o.chunk ∈ R
 l : 1 ≤ o.len
 f : 0 ≤ o.off
 d : o.off % (2 ^ cl : Nat) = 0
 e : o.off + o.len ≤ x.wd
 b : o.chunk = (rtOf w).chunk → o.off + o.len ≤ (rtOf w).off
structure RunI (x : Cn) (cl gen : Nat) (m : Mm) (P : List Int) (w : Wk) : Prop where
 h0 : -1 ≤ w.a.v.hand
 wok : (rtOf w.a.v.was).ok
 was : w.a.at_ ≠ 0 → w.a.at_ ≠ 6 → RootI x cl gen w.a.v.was
 need : w.a.at_ ≠ 0 → w.a.at_ ≠ 6 → w.a.v.need = roundS cl w.n
 fit : w.a.at_ = 1 → 2 ≤ (rtOf w.a.v.was).mrk ∧ (rtOf w.a.v.was).off + w.a.v.need ≤ x.wd
 hand : w.a.at_ = 3 ∨ w.a.at_ = 4 ∨ w.a.at_ = 5 → 0 ≤ w.a.v.hand
 zlt : w.a.at_ = 3 → w.a.v.zat < x.wd
 zz : 0 ≤ w.a.v.hand → ∀ j, j < w.a.v.zat → m.at_ (x.word + w.a.v.hand.toNat * x.wd + j) = 0
 zw : w.a.at_ ≠ 3 → 0 ≤ w.a.v.hand → w.a.v.zat = x.wd
 z0 : w.a.at_ ≠ 6 → w.a.v.hand < 0 → w.a.v.zat = 0
 noh : w.a.at_ = 2 → w.a.v.hand = -1
 tk : w.a.at_ = 2 → w.a.t.at_ = 1 ∧ w.a.t.done = false ∧ w.a.t.chunk = 0 ∧ w.a.t.is_ = false ∧ w.a.t.q.ok x.pool ∧ w.a.t.q.done = false ∧ PopH x.pool m P w.a.t.q
 ps : w.a.at_ = 6 → w.a.g.ok x.pool ∧ w.a.g.done = false ∧ PushH x.pool m w.a.g
structure WkI (x : Cn) (cl gen T : Nat) (m : Mm) (P : List Int) (w : Wk) : Prop where
 n1 : 1 ≤ w.n
 n2 : w.n ≤ x.wd
 lm : w.s.lm.size = 0
 m0 : 0 ≤ w.s.most
 m2 : w.s.most ≤ 64
 a6 : w.a.at_ ≤ 6
 h6 : w.a.done = true ∨ w.a.at_ = 6 → w.a.v.hand = -1
 gd : w.a.done = true ∨ w.a.at_ ≠ 6 → w.a.g.done = true
 cnt : w.a.v.cnt ≤ T
 cd : w.a.at_ = 6 → w.a.v.code = 0 ∨ w.a.v.code = 6
 run : w.a.done = false → RunI x cl gen m P w
structure ApI (x : Cn) (slot cl gen : Nat) (m : Mm) (ws : List Wk) (has : List Hd) (P R : List Int) (T : Nat) : Prop where
 len : m.ws.length = x.len
 ok : m.ok
 root : RootI x cl gen (m.at_ (x.root + slot))
 hd : 2 ≤ (rtOf (m.at_ (x.root + slot))).mrk → (rtOf (m.at_ (x.root + slot))).chunk ∈ R
 pool : Pool x.pool m P
 tag : hdT (m.at_ x.pool.head) ≤ T + 10
 one : ∀ y, P.count y + R.count y + (ws.flatMap Wk.own).count y ≤ 1
 rng : ∀ y, 0 < P.count y + R.count y + (ws.flatMap Wk.own).count y → 0 ≤ y ∧ y < (x.c : Int)
 wk : ∀ w ∈ ws, WkI x cl gen T m P w
 zr : ∀ y ∈ R, ∀ j, j < x.wd → m.at_ (x.word + y.toNat * x.wd + j) = 0
 obj : ∀ o ∈ has ++ ws.flatMap Wk.pend, ObjI x slot cl gen (m.at_ (x.root + slot)) R o
 dj : (has ++ ws.flatMap Wk.pend).Pairwise Apt
theorem Pool.put_other {k : Sk} {m : Mm} {l : List Int} {a v : Nat} (h : Pool k m l) (ha : a < m.ws.length) (h1 : a ≠ k.head) (h2 : ∀ y ∈ l, a ≠ k.links + y.toNat) : Pool k (m.put a v) l := by
 have hput : ∀ b, (m.put a v).at_ b = if a = b then v else m.at_ b := fun b => Mp b ha
 refine ⟨?_, h.nd⟩
 rw [hput, if_neg h1]
 exact h.c.congr fun y hy => by rw [hput, if_neg (h2 y hy)]
theorem lastI_count {l : List Int} (h : l ≠ []) (y : Int) : l.dropLast.count y + [lastI l].count y = l.count y := by
 have e : l.dropLast ++ [lastI l] = l := by
  unfold lastI
  rw [List.getLastD_eq_getLast?, List.getLast?_eq_some_getLast h]
  exact List.dropLast_concat_getLast h
 rw [← List.count_append, e]
section
variable {x : Cn} {slot cl gen T : Nat} {m : Mm} {A B : List Wk} {w : Wk} {has : List Hd} {P R : List Int}
theorem ApI.cnt_mid (v : Wk) (y : Int) : ((A ++ v :: B).flatMap Wk.own).count y = (A.flatMap Wk.own).count y + v.own.count y + (B.flatMap Wk.own).count y := by
 simp only [List.flatMap_append, List.flatMap_cons, List.count_append]; omega
end
section
variable {x : Cn} {slot cl gen T : Nat} {m : Mm} {A B : List Wk} {w : Wk} {has : List Hd} {P R : List Int}
theorem own_n {s : SupS} {n i : Nat} {v : AlV} {t : TakeS} : Wk.own ⟨s, ⟨i, v, t, gNone, false⟩, n⟩ = s.xs ++ (if 0 ≤ v.hand then [v.hand] else []) := by
 show s.xs ++ ((if 0 ≤ v.hand then [v.hand] else []) ++ []) = _
 rw [List.append_nil]
end
section
variable {x : Cn} {slot cl gen T : Nat} {m : Mm} {A B : List Wk} {w : Wk} {has : List Hd} {P R : List Int}
end
section
variable {x : Cn} {slot cl gen T : Nat} {m : Mm} {A B : List Wk} {w : Wk} {has : List Hd} {P R : List Int}
theorem alStep_done {p : AlP} {s : SupS} {a : AlS} (ha : a.at_ ≤ 6) (hd : a.done = false) (h : (alStep p m s a).2.2.done = true) : (alStep p m s a).2.2.at_ = 6 := by
 have hcl : ∀ (k : Sk) (s : SupS) (v : AlV) (t : TakeS) (c : Nat) (o : Hd), (alClose k s v t c o).2.at_ = 6 := fun _ _ _ _ _ _ => rfl
 have htk : ∀ (v : AlV) (t : TakeS), (alTaken v t).done = false := fun v t => by unfold alTaken; split <;> rfl
 have hse : ∀ (v : AlV) (t : TakeS), (alSeen p s v t).2.done = true → (alSeen p s v t).2.at_ = 6 := fun v t => by
  unfold alSeen
  split
  ·dsimp only
   split
   ·intro h; cases h
   ·split
    ·intro h; cases h
    ·split
     ·intro _; exact hcl _ _ _ _ _ _
     ·split
      ·intro h; rw [htk] at h; cases h
      ·intro h; cases h
  ·intro _; exact hcl _ _ _ _ _ _
 revert h
 rcases (show a.at_ = 0 ∨ a.at_ = 1 ∨ a.at_ = 2 ∨ a.at_ = 3 ∨ a.at_ = 4 ∨ a.at_ = 5 ∨ a.at_ = 6 by omega) with h0 | h0 | h0 | h0 | h0 | h0 | h0 <;> (unfold alStep; rw [hd, h0]; simp only [bf, if_false])
 ·exact hse _ _
 ·split
  ·intro _; exact hcl _ _ _ _ _ _
  ·intro h; cases h
 ·split
  ·intro h; rw [htk] at h; cases h
  ·intro h; cases h
 ·intro h; cases h
 ·intro h; cases h
 ·split
  ·intro _; exact hcl _ _ _ _ _ _
  ·intro h; cases h
 ·intro _; trivial
end
section
open Go
attribute [local irreducible] Sx Cx Rx Fx Krg Ksq Kbl Klp Kr
section
variable {L F G : St}
def rpushL (T : TypeId) (sb : Nat) (p : PushS) (a : OA) (y : OA × Nat) : St :=
 [pt a (Blk T [zp sb, .slice y.1 p.l.length y.2, ii (p.at_ : Nat), wd p.was, .bool p.done]), pt y.1 (Row 3 1 p.l.length y.2 (ints p.l))]
def RPushT (T : TypeId) (sb : Nat) (p : PushS) (a : OA) : As := exs (rpushL T sb p a)
abbrev RPushO := RPushT 206
theorem RPushO.close {T : TypeId} {sb : Nat} {a r : OA} {c n : Nat} {v0 v2 v3 v4 : Value} {w : List Value} {F G : St} (p : PushS) [t : Take L a (Blk T [v0, .slice r n c, v2, v3, v4]) F] [u : Take F r (Row 3 1 n c w) G]
  (h0 : v0 = zp sb) (h1 : n = p.l.length) (h2 : v2 = ii (p.at_ : Nat)) (h3 : v3 = wd p.was) (h4 : v4 = .bool p.done) (hw : w = ints p.l) : Ent L (pt a (RPushT T sb p) :: G) := by
 subst h0 h1 h2 h3 h4 hw
 refine Et (Em (t := t) (Eo u.out)) ?_
 exact Ent.close (f := rpushL T sb p a) rfl (r, c)
theorem refPushNew {sb rm : Nat} {k : Sk} {a : OA} {n c : Nat} {l : List Int} (hr : Rd L 1 a n (ints l)) (hn : n ≤ 1000000000) [t : Take L (ad sb) (RSkO rm k) F] :
  FX 193 [zp sb, .slice a n c] L (fun v L' => ∃ p, v = zp p ∧ L' = pt (ad p) (RPushO sb (PushS.init l)) :: L) := by
 have hl : l.length = n := by have := hr.1; simpa [ints] using this
 refine Fm Tryz.func193 k193 ?_
 dsimp only [c193, eL]
 refine go ?_
 refine Sx.apn rfl rfl hr (ones_ints _) (by simp [maxLen]; omega) (by omega) fun r2 c2 h4 => (go ?_)
 refine Sx.bx rfl rfl fun p => ?_
 refine Sr [zp sb, .slice r2 n c2, ii 0, .int .u64 0, .bool (decide ((n : Int) = 0))] rfl (go ?_)
 refine Ko rfl ?_ ⟨p, rfl, rfl⟩
 refine RPushO.close (a := ad p) (r := r2) (sb := sb) (PushS.init l) rfl hl.symm rfl rfl ?_ rfl
 show Value.bool _ = Value.bool (decide (l = []))
 congr 1
 exact decide_eq_decide.2 ⟨fun h => nz_ (by omega), fun h => by rw [h] at hl; simp at hl; omega⟩
set_option maxHeartbeats 2000000 in
theorem refPushStep {b sb rm : Nat} {k : Sk} {m : Mm} {p : PushS} {F1 F2 : St} (hk : k.ok m.ws.length) (hp : p.ok k) (hlen : p.l.length ≤ 1000000) [t1 : Take L (ad b) (RPushO sb p) F1] [t2 : Take F1 (ad rm) (RMemO m) F2] [t3 : Take F2 (ad sb) (RSkO rm k) G] :
  FX 127 [zp b] L (fun v L' => v = .bool (!p.done) ∧ L' = pt (ad b) (RPushO sb (pushStep k m p).1) :: pt (ad rm) (RMemO (pushStep k m p).2) :: F2) := by
 obtain ⟨k1, k2, k3, k4, k5, k6⟩ := hk
 refine Fm Tryz.func127 k127 ?_
 dsimp only [c127, eL]
 refine Xe (Et (Eo t1.out) (Ec (Et (Eo t2.out) (Ec (Eo t3.out))))) ?_
 refine Cx.pure (rmemKey (rm := rm) (m := m)) fun hm => ?_
 refine Xo (a := ad b) rfl ?_
 rintro ⟨r, c⟩
 simp only [rpushL, lc, ln]
 cases hd : p.done with
 | true =>
   have e1 : pushStep k m p = (p, m) := by unfold pushStep; rw [hd]; rfl
   rw [e1]
   refine go ?_
   refine Ko rfl (Et (RPushO.close (sb := sb) (a := ad b) (r := r) p rfl rfl rfl rfl (by rw [hd]) rfl) (Ec (Ec (Eo t3.back)))) ⟨rfl, rfl⟩
 | false =>
   have hlp := List.length_pos_iff.2 (hp.ne hd)
   have hpa := hp.a
   refine Cx.rowkey (a := r) fun hxl hc1 hc2 hkr => ?_
   obtain ⟨rg, rfl⟩ : ∃ g, r = ad g := by
    rcases hkr with h | h
    ·omega
    ·exact h
   refine go ?_
   refine Xd rfl kr_ (ge ?_)
   refine go ?_
   rw [w64 (n := (p.l.length : Int) - 1) (by omega) (by omega)]
   by_cases h1 : p.at_ + 1 < p.l.length
   ·have hv1 := itI_some (l := p.l) (i := p.at_) (by omega)
    have hv2 := itI_some (l := p.l) (i := p.at_ + 1) (by omega)
    have hr1 := hp.g _ (itI_mem (l := p.l) (i := p.at_) (by omega))
    have hr2 := hp.g _ (itI_mem (l := p.l) (i := p.at_ + 1) (by omega))
    obtain ⟨x, hx⟩ : ∃ x : Nat, itI p.l p.at_ = x := ⟨(itI p.l p.at_).toNat, by omega⟩
    obtain ⟨y, hy⟩ : ∃ y : Nat, itI p.l (p.at_ + 1) = y := ⟨(itI p.l (p.at_ + 1)).toNat, by omega⟩
    have e1 : pushStep k m p = ({ p with at_ := p.at_ + 1 }, m.put (k.links + x) (y + 1)) := by
     unfold pushStep; rw [hd]; simp only [bf, if_false]; rw [if_pos h1, hx, hy]; rfl
    rw [hx] at hr1 hv1
    rw [hy] at hr2 hv2
    rw [e1]
    refine Xy rfl (dt (by omega)) (go ?_)
    refine Xd rfl kr_ (ge ?_)
    refine El (b := rg) kr_ rfl rfl (v := ii (x : Nat)) (by rw [show 0 + ((p.at_ : Int)).toNat * 1 = p.at_ by omega]; exact hv1) (ge ?_)
    rw [w64 (n := (p.at_ : Int) + 1) (by omega) (by omega)]
    refine Ev.pvH kr_ rfl rfl ⟨by omega, by omega⟩ ?_
    refine El (b := rg) kr_ rfl rfl (v := ii (y : Nat)) (by rw [show 0 + ((p.at_ : Int) + 1).toNat * 1 = p.at_ + 1 by omega]; exact hv2) (ge ?_)
    rw [w64 (n := (k.links : Int) + x) (by omega) (by omega), show (k.links : Int) + x = ((k.links + x : Nat) : Int) by omega, wrapS (x := (y : Int) + 1) (by omega) (by omega), show ((y : Int) + 1).toNat = y + 1 by omega]
    refine Ea kr_ rfl rfl (refStore (rm := rm) (m := m) (k.links + x) (y + 1) (by omega) (by omega)) (Pd kr_) ?_
    rintro v L' ⟨rfl, rfl⟩
    refine ge ?_
    refine go ?_
    rw [w64 (n := (p.at_ : Int) + 1) (by omega) (by omega)]
    refine Ko rfl ?_ ⟨rfl, rfl⟩
    refine Et (RPushO.close (sb := sb) (a := ad b) (r := ad rg) { p with at_ := p.at_ + 1 } rfl rfl rfl rfl (by rw [hd]) rfl) (Ec ?_)
    refine Et ?_ (Ec (Eo t3.back))
    exact ent
   ·refine Xn rfl (dz (by omega)) (go ?_)
    rw [w64 (n := (p.l.length : Int) - 1) (by omega) (by omega)]
    by_cases h2 : p.at_ + 1 = p.l.length
    ·have e1 : pushStep k m p = ({ p with at_ := p.at_ + 1, was := m.at_ k.head }, m.tick) := by
      unfold pushStep; rw [hd]; simp only [bf, if_false]; rw [if_neg h1, if_pos h2]
     rw [e1]
     refine Xy rfl (dt (by omega)) (go ?_)
     refine Xd rfl kr_ (ge ?_)
     refine Ea kr_ rfl rfl (refLoad (rm := rm) (m := m) k.head k3) (Pd kr_) ?_
     rintro v L' ⟨rfl, rfl⟩
     refine ge ?_
     refine Es (b := b) kr_ rfl rfl rfl rfl rfl (by rfl) rfl (Pd kr_) (ge ?_)
     refine go ?_
     rw [w64 (n := (p.at_ : Int) + 1) (by omega) (by omega)]
     refine Ko rfl ?_ ⟨rfl, rfl⟩
     refine Et (RPushO.close (sb := sb) (a := ad b) (r := ad rg) { p with at_ := p.at_ + 1, was := m.at_ k.head } rfl rfl rfl rfl (by rw [hd]) rfl) (Ec ?_)
     refine Et ?_ (Ec (Eo t3.back))
     exact ent
    ·refine Xn rfl (dz (by omega)) (go ?_)
     by_cases h3 : p.at_ = p.l.length
     ·have hv1 := itI_some (l := p.l) (i := p.l.length - 1) (by omega)
      have hr1 := hp.g _ (itI_mem (l := p.l) (i := p.l.length - 1) (by omega))
      have ht1 := k.top_ge p.was
      have ht2 := k.top_lt p.was
      obtain ⟨x, hx⟩ : ∃ x : Nat, itI p.l (p.l.length - 1) = x := ⟨(itI p.l (p.l.length - 1)).toNat, by omega⟩
      have e1 : pushStep k m p = ({ p with at_ := p.at_ + 1 }, m.put (k.links + x) (k.top p.was + 1).toNat) := by
       unfold pushStep; rw [hd]; simp only [bf, if_false]; rw [if_neg h1, if_neg h2, if_pos h3, hx]; rfl
      rw [hx] at hr1 hv1
      rw [e1]
      refine Xy rfl (dt (by omega)) (go ?_)
      refine Xd rfl kr_ (ge ?_)
      rw [w64 (n := (p.l.length : Int) - 1) (by omega) (by omega)]
      refine Ev.pvH kr_ rfl rfl ⟨by omega, by omega⟩ ?_
      refine El (b := rg) kr_ rfl rfl (v := ii (x : Nat)) (by rw [show 0 + ((p.l.length : Int) - 1).toNat * 1 = p.l.length - 1 by omega]; exact hv1) (ge ?_)
      refine Eb kr_ rfl rfl (refTop (sb := sb) (rm := rm) (k := k) p.was hp.w) (ge ?_)
      rw [w64 (n := (k.links : Int) + x) (by omega) (by omega), show (k.links : Int) + x = ((k.links + x : Nat) : Int) by omega, wrapS (x := k.top p.was + 1) (by omega) (by omega)]
      refine Ea kr_ rfl rfl (refStore (rm := rm) (m := m) (k.links + x) (k.top p.was + 1).toNat (by omega) (by omega)) (Pd kr_) ?_
      rintro v L' ⟨rfl, rfl⟩
      refine ge ?_
      refine go ?_
      rw [w64 (n := (p.at_ : Int) + 1) (by omega) (by omega)]
      refine Ko rfl ?_ ⟨rfl, rfl⟩
      refine Et (RPushO.close (sb := sb) (a := ad b) (r := ad rg) { p with at_ := p.at_ + 1 } rfl rfl rfl rfl (by rw [hd]) rfl) (Ec ?_)
      refine Et ?_ (Ec (Eo t3.back))
      exact ent
     ·have hv1 := itI_some (l := p.l) (i := 0) (by omega)
      have hr1 := hp.g _ (itI_mem (l := p.l) (i := 0) (by omega))
      have hnl := nextW_lt (i := itI p.l 0) hp.w (by omega)
      have e1 : pushStep k m p = ({ p with at_ := p.l.length - 1, done := decide (m.at_ k.head = p.was) }, m.cas k.head p.was (nextW p.was (itI p.l 0))) := by
       unfold pushStep; rw [hd]; simp only [bf, if_false]; rw [if_neg h1, if_neg h2, if_neg h3]
      rw [e1]
      refine Xn rfl (dz (by omega)) (go ?_)
      refine Xd rfl kr_ (ge ?_)
      refine El (b := rg) kr_ rfl rfl (v := ii (itI p.l 0)) hv1 (ge ?_)
      refine Eb kr_ rfl rfl (refNextW p.was (itI p.l 0) hp.w (by omega) (by omega)) (ge ?_)
      refine Ea kr_ rfl rfl (refCas (rm := rm) (m := m) k.head p.was (nextW p.was (itI p.l 0)) k3 hp.w hnl) (Pd kr_) ?_
      rintro v L' ⟨rfl, rfl⟩
      refine ge ?_
      refine Es (b := b) kr_ rfl rfl rfl rfl rfl (by rfl) rfl (Pd kr_) (ge ?_)
      refine go ?_
      rw [w64 (n := (p.l.length : Int) - 1) (by omega) (by omega)]
      refine Ko rfl ?_ ⟨rfl, rfl⟩
      refine Et (RPushO.close (sb := sb) (a := ad b) (r := ad rg) { p with at_ := p.l.length - 1, done := decide (m.at_ k.head = p.was) } rfl rfl (congrArg (Value.int .i64) (by dsimp only; omega)) rfl rfl rfl) (Ec ?_)
      refine Et ?_ (Ec (Eo t3.back))
      exact ent
def rgiveL (T : TypeId) (rp : Nat) (p : PushS) (a : OA) (y : Nat × OA × Nat) : St :=
 [pt a (Blk T [zp y.1, .slice y.2.1 p.l.length y.2.2, .bool p.done]), pt (ad y.1) (RPushO rp p), pt y.2.1 (Row 3 1 p.l.length y.2.2 (ints p.l))]
def RGiveT (T : TypeId) (rp : Nat) (p : PushS) (a : OA) : As := exs (rgiveL T rp p a)
abbrev RGiveO := RGiveT 189
theorem RGiveO.close {b q rp n c : Nat} {r : OA} {d : Bool} {p0 : PushS} {w : List Value} (p : PushS) (hq : p0 = p) (hn : n = p.l.length) (hd : d = p.done) (hw : w = ints p.l) :
  Ent (pt (ad b) (Blk 189 [zp q, .slice r n c, .bool d]) :: pt (ad q) (RPushO rp p0) :: pt r (Row 3 1 n c w) :: G) (pt (ad b) (RGiveO rp p) :: G) := by
 subst hq hn hd hw
 exact Ent.close (f := rgiveL 189 rp p0 (ad b)) rfl (q, r, c)
theorem refGiveStep {b rp rm : Nat} {k : Sk} {m : Mm} {p : PushS} {F1 F2 : St} (hk : k.ok m.ws.length) (hp : p.ok k) (hlen : p.l.length ≤ 1000000) [t1 : Take L (ad b) (RGiveO rp p) F1] [t2 : Take F1 (ad rm) (RMemO m) F2] [t3 : Take F2 (ad rp) (RSkO rm k) G] :
  FX 114 [zp b] L (fun v L' => v = .bool (!p.done) ∧ L' = pt (ad b) (RGiveO rp (pushStep k m p).1) :: pt (ad rm) (RMemO (pushStep k m p).2) :: F2) := by
 have hlp := pushStep_l k m p
 refine Fm Tryz.func114 k114 ?_
 dsimp only [c114, eL]
 refine Xe (Et (Eo t1.out) (Ec (Et (Eo t2.out) (Ec (Eo t3.out))))) ?_
 refine Xo (a := ad b) rfl ?_
 rintro ⟨q, r, c⟩
 simp only [rgiveL, lc, ln]
 cases hd : p.done with
 | true =>
   have e1 : pushStep k m p = (p, m) := by unfold pushStep; rw [hd]; rfl
   rw [e1]
   refine go ?_
   refine Ko rfl (Et (RGiveO.close p rfl rfl hd.symm rfl) (Ec (Ec (Eo t3.back)))) ⟨rfl, rfl⟩
 | false =>
   refine go ?_
   refine Sa rfl (refPushStep (b := q) (sb := rp) (rm := rm) (k := k) (m := m) (p := p) hk hp hlen) ?_
   rintro v L' ⟨rfl, rfl⟩
   refine Sx.nil ?_
   refine Krg.i ?_
   refine Ksq.nm ?_
   refine Xo (a := ad q) rfl ?_
   rintro ⟨r2, c2⟩
   simp only [rpushL, lc, ln]
   refine go ?_
   refine Ko rfl ?_ ⟨rfl, rfl⟩
   refine Et (Ek (a := ad q)) ?_
   refine Et (RPushO.close (sb := rp) (a := ad q) (r := r2) (pushStep k m p).1 rfl rfl rfl rfl rfl rfl) ?_
   refine Et (Ec (Ek (a := ad b))) ?_
   refine Et Ent.swap ?_
   refine Et (Ec (Ec (Ek (a := r)))) ?_
   refine Et (RGiveO.close (pushStep k m p).1 rfl (by rw [hlp]) rfl (by rw [hlp])) (Ec ?_)
   refine Et ?_ (Ec (Eo t3.back))
   exact ent
end
section
variable {L F G : St}
theorem refGiveNew {s w st lm rm rp rs re : Nat} {x : Cn} {l : List Int} {a : OA} {n c : Nat} (hn : n = l.length) (hb : n ≤ 1000000) {F1 F2 F3 : St} [t1 : Take L (ad s) (Blk 183 [zp w, zp st, zp lm]) F1] [t2 : Take F1 (ad w) (RWO x rm rp rs re) F2] [t3 : Take F2 (ad rp) (RSkO rm x.pool) F3] [t4 : Take F3 a (Row 3 1 n c (ints l)) G] :
  FX 196 [zp s, .slice a n c] L (fun v L' => ∃ q, v = zp q ∧ L' = pt (ad q) (RGiveO rp (PushS.init l)) :: pt (ad s) (Blk 183 [zp w, zp st, zp lm]) :: pt (ad w) (RWO x rm rp rs re) :: pt (ad rp) (RSkO rm x.pool) :: G) := by
 subst hn
 refine Fm Tryz.func196 k196 ?_
 dsimp only [c196, eL]
 refine Xe (Et (Eo t1.out) (Ec (Et (Eo t2.out) (Ec (Et (Eo t3.out) (Ec (Eo t4.out))))))) ?_
 refine Cx.rowkey (a := a) fun hxl hc1 _ hkr => ?_
 have hk2 : l.length = 0 ∨ ∃ g, a = ad g := hkr.imp (fun h => h.2.1) id
 refine go ?_
 refine Sa rfl (refPushNew (sb := rp) (rm := rm) (k := x.pool) (l := l) (Rd.any (a := a) hxl hk2) (by omega)) ?_
 rintro v L' ⟨p, rfl, rfl⟩
 refine go ?_
 refine Sx.apn rfl rfl (Rd.any (a := a) hxl hk2) (ones_ints _) (by simp [maxLen]; omega) (by omega) fun r2 c2 h4 => (go ?_)
 refine Sx.bx rfl rfl fun q => ?_
 refine Sr [zp p, .slice r2 l.length c2, .bool (decide ((l.length : Int) = 0))] rfl (go ?_)
 refine Ko rfl ?_ ⟨q, rfl, rfl⟩
 refine Et (M := pt (ad q) (Blk 189 [zp p, .slice r2 l.length c2, .bool (decide ((l.length : Int) = 0))]) :: pt (ad p) (RPushO rp (PushS.init l)) :: pt r2 (Row 3 1 l.length c2 (ints l)) :: _) (Et (Ec (Ek (a := ad p))) (Ec (Ec (Ek (a := r2))))) ?_
 refine Et (RGiveO.close (PushS.init l) rfl rfl ?_ rfl) (Ec ?_)
 ·show decide _ = decide (l = [])
  exact decide_eq_decide.2 ⟨fun h => nz_ (by omega), fun h => by rw [h]; rfl⟩
 ·exact ent
theorem refSpill {s w rm rp rs re : Nat} {x : Cn} {S : SupS} {F1 F2 : St} (hb : S.xs.length ≤ 1000000) (hm0 : 0 ≤ S.most) (hm2 : S.most ≤ 64) [t2 : Take L (ad s) (RSupO w S) F1] [t3 : Take F1 (ad w) (RWO x rm rp rs re) F2] [t4 : Take F2 (ad rp) (RSkO rm x.pool) G] :
  FX 128 [zp s] L (fun v L' => ∃ q, v = zp q ∧ L' = pt (ad q) (RGiveO rp (PushS.init (S.xs.take (overK S.most S.xs)))) :: pt (ad s) (RSupO w { S with xs := S.xs.drop (overK S.most S.xs) }) :: F1) := by
 have hov : overK S.most S.xs ≤ S.xs.length := by unfold overK; omega
 have hback : Ent (pt (ad w) (RWO x rm rp rs re) :: pt (ad rp) (RSkO rm x.pool) :: G) F1 := Et (Ec (Eo t4.back)) (Eo t3.back)
 refine Fm Tryz.func128 k128 ?_
 dsimp only [c128, eL]
 refine Xe (Et (Eo t2.out) (Ec (Et (Eo t3.out) (Ec (Eo t4.out))))) ?_
 refine Xo (a := ad s) rfl ?_
 rintro ⟨st, lm⟩
 simp only [rsupL, lc, ln]
 refine go ?_
 refine Sa rfl (refOver (b := st) (most := S.most) (xs := S.xs) (by omega) hm0 hm2) ?_
 rintro v L' ⟨a, c, rfl, rfl⟩
 refine go ?_
 refine Sa rfl (refGiveNew (s := s) (w := w) (st := st) (lm := lm) (rm := rm) (rp := rp) (rs := rs) (re := re) (x := x) (l := S.xs.take (overK S.most S.xs)) (a := a) (by rw [List.length_take]; omega) (by omega)) ?_
 rintro v L' ⟨q, rfl, rfl⟩
 refine go ?_
 refine Ko rfl (Ec ?_) ⟨q, rfl, rfl⟩
 refine Et (M := pt (ad s) (Blk 183 [zp w, zp st, zp lm]) :: pt (ad st) (RefO S.most (S.xs.drop (overK S.most S.xs))) :: pt (ad lm) (RLimboO S.lm) :: pt (ad w) (RWO x rm rp rs re) :: pt (ad rp) (RSkO rm x.pool) :: G) (by exact ent) ?_
 exact Et (RSupO.close (a := ad s) (st := st) (lm := lm) (w := w) { S with xs := S.xs.drop (overK S.most S.xs) } rfl rfl rfl) (Ec hback)
def ralGL (T : TypeId) (sa rp slot : Nat) (gen : Int) (n : Nat) (s : AlS) (a : OA) (y : Value × Nat × Bool) : St :=
 [pt a (Blk T (ralV sa slot gen n 6 (s.v.cnt : Nat) s.v y.1 (zp y.2.1) y.2.2 s.done)), pt (ad y.2.1) (RGiveO rp s.g)]
def RAgT (T : TypeId) (sa rp slot : Nat) (gen : Int) (n : Nat) (s : AlS) (a : OA) : As := bif Nat.beq s.at_ 6 then exs (ralGL T sa rp slot gen n s a) else RAlT T sa rp slot gen n s a
abbrev RAgO := RAgT 87
theorem RAgO.g_ {T : TypeId} {sa rp slot : Nat} {gen : Int} {n : Nat} {s : AlS} {a : OA} (h : s.at_ = 6) : RAgT T sa rp slot gen n s a = exs (ralGL T sa rp slot gen n s a) := by unfold RAgT; rw [h]; rfl
theorem RAgO.r_ {T : TypeId} {sa rp slot : Nat} {gen : Int} {n : Nat} {s : AlS} {a : OA} (h : s.at_ ≠ 6) : RAgT T sa rp slot gen n s a = RAlT T sa rp slot gen n s a := by
 unfold RAgT
 cases hb : Nat.beq s.at_ 6 with
 | true => exact absurd (bq hb) h
 | false => rfl
theorem RAgO.closeG {b sa rp slot at_ q : Nat} {gen : Int} {n : Nat} {cnt : Int} {v : AlV} {tp : Value} {dry d : Bool} {g : PushS} (s : AlS) (h : s.at_ = 6) (hd : d = s.done) (ha : at_ = 6) (hc : cnt = (s.v.cnt : Nat)) (hv : { v with cnt := s.v.cnt, ends := s.v.ends, asked := s.v.asked } = s.v) (hg : g = s.g) :
  Ent (ralB b sa slot gen n at_ cnt v tp (zp q) dry d :: pt (ad q) (RGiveO rp g) :: G) (pt (ad b) (RAgO sa rp slot gen n s) :: G) := by
 subst hd ha hc hg
 obtain ⟨a1, v0, t0, g0, d0⟩ := s
 obtain ⟨c1, c2, c3, c4, c5, c6, c7, c8, c9, c10⟩ := v0
 obtain ⟨e1, e2, e3, e4, e5, e6, e7, e8, e9, e10⟩ := v
 dsimp only at hv
 cases hv
 exact Ent.close (f := ralGL 87 sa rp slot gen n _ (ad b)) (RAgO.g_ h) (tp, q, dry)
theorem alClose_eq {x : Cn} {s : SupS} {v : AlV} {t : TakeS} {code : Nat} {o : Hd} (hnd : (s.xs ++ (if 0 ≤ v.hand then [v.hand] else [])).Nodup) (hr : ∀ y ∈ s.xs ++ (if 0 ≤ v.hand then [v.hand] else []), 0 ≤ y ∧ y < (x.c : Int)) {l : List Int} (hl : s.xs ++ (if 0 ≤ v.hand then [v.hand] else []) = l) :
  alClose x.pool s v t code o = ({ s with xs := l.drop (overK s.most l) }, ⟨6, { v with code := code, obj := o, point := v.cnt, ends := true, hand := -1 }, t, PushS.init (l.take (overK s.most l)), (PushS.init (l.take (overK s.most l))).done⟩) := by
 have e1 : (if 0 ≤ v.hand then s.give [v.hand] else s) = { s with xs := l } := by
  rw [← hl]; unfold SupS.give
  by_cases h : 0 ≤ v.hand
  ·rw [if_pos h, if_pos h]
  ·rw [if_neg h, if_neg h, List.append_nil]
 rw [hl] at hnd hr
 have htd := List.take_append_drop (overK s.most l) l
 have hgi : giveInit x.pool (l.take (overK s.most l)) = PushS.init (l.take (overK s.most l)) := giveInit_yes ⟨by rw [← htd] at hnd; exact (List.nodup_append.1 hnd).1, fun y hy => hr y (List.mem_of_mem_take hy)⟩
 unfold alClose
 rw [e1]
 simp only [hgi]
end
section
variable {L F G : St}
set_option maxHeartbeats 2000000 in
theorem refAgCloses {b sa w rm rp rs re slot at_ : Nat} {gen : Int} {n : Nat} {x : Cn} {S : SupS} {v : AlV} {tp gp : Value} {dry : Bool} {cnt : Int} {l : List Int} (t : TakeS) (hcnt : cnt = (v.cnt : Nat)) (hh : -1 ≤ v.hand) (hb : S.xs.length ≤ 99999) (hm0 : 0 ≤ S.most) (hm2 : S.most ≤ 64) (hl : S.xs ++ (if 0 ≤ v.hand then [v.hand] else []) = l) :
  FX 177 [zp b] (ralB b sa slot gen n at_ cnt v tp gp dry false :: pt (ad sa) (RSupO w S) :: pt (ad w) (RWO x rm rp rs re) :: pt (ad rp) (RSkO rm x.pool) :: G)
   (fun _ L' => L' = pt (ad b) (RAgO sa rp slot gen n ⟨6, { v with ends := true, hand := -1 }, t, PushS.init (l.take (overK S.most l)), (PushS.init (l.take (overK S.most l))).done⟩) :: pt (ad sa) (RSupO w { S with xs := l.drop (overK S.most l) }) :: pt (ad w) (RWO x rm rp rs re) :: pt (ad rp) (RSkO rm x.pool) :: G) := by
 subst hcnt
 obtain ⟨c1, hd, c3, c4, c5, c6, c7, c8, c9, c10⟩ := v
 dsimp only at hh hl
 refine Fm Tryz.func177 k177 ?_
 dsimp only [c177, eL]
 refine go ?_
 by_cases h0 : 0 ≤ hd
 ·rw [if_pos h0] at hl
  have hll : l.length ≤ 100000 := by rw [← hl]; simp; omega
  refine Xy rfl (dt h0) ?_
  refine Xe (Ek (a := ad sa)) ?_
  refine Xo (a := ad sa) rfl ?_
  rintro ⟨st, lm⟩
  simp only [rsupL, lc, ln]
  refine go ?_
  refine Xd rfl kr_ (ge ?_)
  refine Ev.bsH (sz := 1) (cs := [ii hd]) kr_ rfl rfl rfl (.dep rfl (.keep (fun v L' ⟨_, _, e⟩ => by subst e; exact Has.cell rfl) (.keep (fun v L' ⟨_, _, e⟩ => by subst e; exact Has.cell rfl) .nil))) fun q => (ge ?_)
  refine Ea kr_ rfl rfl (refGive (b := st) (ys := [hd]) (Rd.row (b := q) (E := 3) (cap := 1) rfl) (by omega)) (Pd kr_) ?_
  rintro v L' ⟨rfl, rfl⟩
  refine ge ?_
  refine go ?_
  rw [hl]
  refine Se_ (RSupO.close (a := ad sa) (st := st) (lm := lm) (w := w) { S with xs := l } rfl rfl rfl) ?_
  refine Sa rfl (refSpill (s := sa) (w := w) (rm := rm) (rp := rp) (rs := rs) (re := re) (x := x) (S := { S with xs := l }) (by show l.length ≤ _; omega) hm0 hm2) ?_
  rintro v' L' ⟨q2, rfl, rfl⟩
  refine go ?_
  refine Se_ (Ek (a := ad q2)) ?_
  refine Sx.openp (a := ad q2) rfl ?_
  rintro ⟨pp, ra, ca⟩
  simp only [rgiveL, lc, ln]
  refine go ?_
  refine Kr.none (.inl rfl) ?_ rfl
  refine Et (M := ralB b sa slot gen n 6 (c1 : Nat) ⟨c1, -1, c3, c4, c5, c6, c7, c8, c9, c10⟩ tp (zp q2) dry (PushS.init (l.take (overK S.most l))).done :: pt (ad q2) (RGiveO rp (PushS.init (l.take (overK S.most l)))) :: pt (ad sa) (RSupO w { S with xs := l.drop (overK S.most l) }) :: pt (ad w) (RWO x rm rp rs re) :: pt (ad rp) (RSkO rm x.pool) :: G) ?_
   (RAgO.closeG (sa := sa) (v := ⟨c1, -1, c3, c4, c5, c6, c7, c8, c9, c10⟩) ⟨6, ⟨c1, -1, c3, c4, true, c6, c7, c8, c9, c10⟩, t, PushS.init (l.take (overK S.most l)), (PushS.init (l.take (overK S.most l))).done⟩ rfl rfl rfl rfl rfl rfl)
  refine Et (Et (Ek (a := ad q2)) (Ec (Et (Ek (a := ad pp)) (Ec (Ek (a := ra)))))) ?_
  refine Et (RGiveO.close (PushS.init (l.take (overK S.most l))) rfl rfl rfl rfl) ?_
  exact ent
 ·rw [if_neg h0, List.append_nil] at hl
  have hll : l.length ≤ 100000 := by rw [← hl]; omega
  have hS : S = { S with xs := l } := by rw [← hl]
  obtain rfl : hd = -1 := by omega
  refine Xn rfl (dz h0) (go ?_)
  refine Sa rfl (refSpill (s := sa) (w := w) (rm := rm) (rp := rp) (rs := rs) (re := re) (x := x) (S := S) (by omega) hm0 hm2) ?_
  rw [hl]
  rintro v' L' ⟨q2, rfl, rfl⟩
  refine go ?_
  refine Se_ (Ek (a := ad q2)) ?_
  refine Sx.openp (a := ad q2) rfl ?_
  rintro ⟨pp, ra, ca⟩
  simp only [rgiveL, lc, ln]
  refine go ?_
  refine Kr.none (.inl rfl) ?_ rfl
  refine Et (M := ralB b sa slot gen n 6 (c1 : Nat) ⟨c1, -1, c3, c4, c5, c6, c7, c8, c9, c10⟩ tp (zp q2) dry (PushS.init (l.take (overK S.most l))).done :: pt (ad q2) (RGiveO rp (PushS.init (l.take (overK S.most l)))) :: pt (ad sa) (RSupO w { S with xs := l.drop (overK S.most l) }) :: pt (ad w) (RWO x rm rp rs re) :: pt (ad rp) (RSkO rm x.pool) :: G) ?_
   (RAgO.closeG (sa := sa) (v := ⟨c1, -1, c3, c4, c5, c6, c7, c8, c9, c10⟩) ⟨6, ⟨c1, -1, c3, c4, true, c6, c7, c8, c9, c10⟩, t, PushS.init (l.take (overK S.most l)), (PushS.init (l.take (overK S.most l))).done⟩ rfl rfl rfl rfl rfl rfl)
  refine Et (Et (Ek (a := ad q2)) (Ec (Et (Ek (a := ad pp)) (Ec (Ek (a := ra)))))) ?_
  refine Et (RGiveO.close (PushS.init (l.take (overK S.most l))) rfl rfl rfl rfl) ?_
  exact ent
theorem refAgFine {b sa w rm rp rs re slot at_ : Nat} {gen : Int} {n : Nat} {x : Cn} {S : SupS} {v : AlV} {tp gp : Value} {dry : Bool} {cnt : Int} (t : TakeS) (ch off : Int) (hcnt : cnt = (v.cnt : Nat)) (hh : -1 ≤ v.hand) (hco : v.code = 0) (hb : S.xs.length ≤ 99999) (hm0 : 0 ≤ S.most) (hm2 : S.most ≤ 64)
  (hnd : (S.xs ++ (if 0 ≤ v.hand then [v.hand] else [])).Nodup) (hr : ∀ y ∈ S.xs ++ (if 0 ≤ v.hand then [v.hand] else []), 0 ≤ y ∧ y < (x.c : Int)) :
  FX 107 [zp b, ii ch, ii off] (ralB b sa slot gen n at_ cnt v tp gp dry false :: pt (ad sa) (RSupO w S) :: pt (ad w) (RWO x rm rp rs re) :: pt (ad rp) (RSkO rm x.pool) :: G)
   (fun _ L' => L' = pt (ad b) (RAgO sa rp slot gen n (alClose x.pool S v t 0 ⟨slot, gen, ch, off, n⟩).2) :: pt (ad sa) (RSupO w (alClose x.pool S v t 0 ⟨slot, gen, ch, off, n⟩).1) :: pt (ad w) (RWO x rm rp rs re) :: pt (ad rp) (RSkO rm x.pool) :: G) := by
 rw [alClose_eq hnd hr rfl]
 subst hcnt
 obtain ⟨c1, hd, c3, c4, c5, c6, c7, c8, c9, c10⟩ := v
 dsimp only at hh hco
 subst hco
 refine Fm Tryz.func107 k107 ?_
 dsimp only [c107, eL]
 refine Cx.sq ?_
 refine Xd rfl kr_ (ge ?_)
 refine Ev.stnH (b := b) (ralV sa slot gen n at_ (c1 : Nat) ⟨c1, hd, c3, c4, c5, c6, c7, c8, 0, ⟨slot, gen, ch, off, n⟩⟩ tp gp dry false) kr_ rfl rfl rfl rfl rfl rfl rfl rfl (Pd kr_) (ge ?_)
 refine Es (b := b) kr_ rfl rfl rfl rfl rfl (by rfl) rfl (Pd kr_) (ge ?_)
 refine go ?_
 refine Sa rfl (refAgCloses (b := b) (sa := sa) (w := w) (rm := rm) (rp := rp) (rs := rs) (re := re) (slot := slot) (at_ := at_) (gen := gen) (n := n) (x := x) (S := S) (v := ⟨c1, hd, c3, c4, c5, c6, c1, c8, 0, ⟨slot, gen, ch, off, n⟩⟩) (tp := tp) (gp := gp) (dry := dry) t (by rfl) hh hb hm0 hm2 rfl) ?_
 rintro v' L' rfl
 refine go ?_
 exact Kr.none (.inl rfl) (Er _) rfl
theorem RAgO.fun_ {T : TypeId} {sa rp slot : Nat} {gen : Int} {n : Nat} {s : AlS} (h : s.at_ ≠ 6) : RAgT T sa rp slot gen n s = RAlT T sa rp slot gen n s := funext fun _ => RAgO.r_ h
theorem refAgTaken {b sa rp slot at_ q : Nat} {gen : Int} {n : Nat} {v : AlV} {gp : Value} {t : TakeS} {cnt : Int} (hcnt : cnt = (v.cnt : Nat)) (hd : t.done = true) (hask : v.asked = true) (hz : v.zat = 0) (hh : v.hand = -1) (hch : t.is_ = true → 0 ≤ t.chunk) :
  FX 109 [zp b] (ralB b sa slot gen n at_ cnt v (zp q) gp false false :: pt (ad q) (RTakeO sa rp t) :: G)
   (fun _ L' => L' = pt (ad b) (RAgO sa rp slot gen n (alTaken v t)) :: G) := by
 have h6 : (alTaken v t).at_ ≠ 6 := by
  unfold alTaken
  split
  ·intro h; cases h
  ·intro h; cases h
 rw [show RAgO sa rp slot gen n (alTaken v t) = RAlO sa rp slot gen n (alTaken v t) from RAgO.fun_ h6]
 exact refAlTaken hcnt hd hask hz hh hch
end
section
variable {L F G : St}
theorem takeInit_kept {ba : Int} {s : SupS} (h : (takeInit ba s).2.done = true) : (takeInit ba s).2.chunk ∈ s.xs := by
 unfold takeInit keepT at h ⊢
 by_cases hx : s.xs = []
 ·rw [if_pos hx] at h
  simp only at h
  split at h <;> cases h
 ·rw [if_neg hx]
  exact lastI_mem hx
set_option maxHeartbeats 2000000 in
theorem refAgSeen {b sa w rm rp rs re slot : Nat} {gen : Int} {n : Nat} {x : Cn} {S : SupS} {v : AlV} {tp gp : Value} {dry : Bool} {cnt : Int} (t : TakeS) (hcnt : cnt = (v.cnt : Nat)) (hx : x.ok) (hn : 1 ≤ n) (hn2 : n ≤ x.wd) (hw8 : x.wd % 8 = 0) (hok : (rtOf v.was).ok) (hh : -1 ≤ v.hand) (hz : v.hand < 0 → v.zat = 0) (hdry : v.hand < 0 → dry = v.asked) (hco : v.code = 0) (hob : v.obj = Hd.zero) (hb : S.xs.length + S.lm.size ≤ 99999) (hm0 : 0 ≤ S.most) (hm2 : S.most ≤ 64)
  (hnd : (S.xs ++ (if 0 ≤ v.hand then [v.hand] else [])).Nodup) (hr : ∀ y ∈ S.xs ++ (if 0 ≤ v.hand then [v.hand] else []), 0 ≤ y ∧ y < (x.c : Int)) :
  FX 106 [zp b] (ralB b sa slot gen n 0 cnt v tp gp dry false :: pt (ad sa) (RSupO w S) :: pt (ad w) (RWO x rm rp rs re) :: pt (ad rp) (RSkO rm x.pool) :: G)
   (fun _ L' => L' = pt (ad b) (RAgO sa rp slot gen n (alSeen (x.al slot gen n) S v t).2) :: pt (ad sa) (RSupO w (alSeen (x.al slot gen n) S v t).1) :: pt (ad w) (RWO x rm rp rs re) :: pt (ad rp) (RSkO rm x.pool) :: G) := by
 subst hcnt
 obtain ⟨b1, b2, b3, b4, b5, b6, b7⟩ := hx.b
 have hwl := rt_was_lt hok
 refine Fm Tryz.func106 k106 ?_
 dsimp only [c106, eL]
 refine go ?_
 refine Sa rfl (refGetRoot v.was hwl) ?_
 rintro v' L' ⟨rfl, rfl⟩
 refine Sx.al fun o => ?_
 refine Sx.st (b := o) rfl rfl rfl rfl rfl rfl ?_
 refine Sr (rtL (rtOf v.was)) rfl (go ?_)
 refine Xd rfl kr_ (ge ?_)
 refine Eb kr_ rfl rfl (refLive (rtOf v.was) gen) (ge ?_)
 by_cases hlive : (rtOf v.was).live gen
 case neg =>
  have e : alSeen (x.al slot gen n) S v t = alClose x.pool S v t 3 Hd.zero := by unfold alSeen; rw [if_neg hlive]
  rw [e, alClose_eq hnd hr rfl, dz hlive]
  refine go ?_
  refine Se_ (Ek (a := ad b)) ?_
  refine Se_ (M := ralB b sa slot gen n 0 (v.cnt : Nat) { v with code := 3, point := v.cnt } tp gp dry false :: pt (ad sa) (RSupO w S) :: pt (ad w) (RWO x rm rp rs re) :: pt (ad rp) (RSkO rm x.pool) :: G) (Ec (by exact ent)) ?_
  refine Sa rfl (refAgCloses (b := b) (sa := sa) (w := w) (rm := rm) (rp := rp) (rs := rs) (re := re) (slot := slot) (at_ := 0) (gen := gen) (n := n) (x := x) (S := S) (v := { v with code := 3, point := v.cnt }) (tp := tp) (gp := gp) (dry := dry) t rfl hh (by omega) hm0 hm2 rfl) ?_
  rintro v' L' rfl
  refine go ?_
  refine Kr.none (.inr rfl) ?_ rfl
  rw [← hob]
  exact Er _
 case pos =>
  rw [dt hlive]
  refine go ?_
  refine Xd rfl kr_ (ge ?_)
  have hrl := roundS_le hok.c hn2 hw8
  have hrg := roundS_ge (n := n) hok.c
  refine Eb kr_ rfl rfl (refRound (rtOf v.was).cl n hok.c hn (by omega)) ?_
  obtain ⟨need, hneed⟩ : ∃ need, roundS (rtOf v.was).cl n = need := ⟨_, rfl⟩
  rw [hneed] at hrl hrg ⊢
  refine ge ?_
  refine Es (b := b) kr_ rfl rfl rfl rfl rfl (by rfl) rfl (Pd kr_) (ge ?_)
  refine go ?_
  have hmk := rtOf_mrk v.was
  have hofs := rtOf_off v.was
  have e0 : alSeen (x.al slot gen n) S v t = (if 2 ≤ (rtOf v.was).mrk ∧ fitsS x.wd (rtOf v.was).off need then (S, ⟨1, { v with need := need }, t, gNone, false⟩)
    else if 0 ≤ v.hand then (S, ⟨4, { v with need := need }, t, gNone, false⟩)
    else if v.asked then alClose x.pool S { v with need := need } t 6 Hd.zero
    else if (takeInit x.ba S).2.done then ((takeInit x.ba S).1, alTaken { v with need := need, asked := true } (takeInit x.ba S).2)
    else ((takeInit x.ba S).1, ⟨2, { v with need := need, asked := true }, (takeInit x.ba S).2, gNone, false⟩)) := by
   unfold alSeen; rw [if_pos hlive]; dsimp only; rw [hneed]
  refine Xe (Ek (a := ad sa)) ?_
  refine Xo (a := ad sa) rfl ?_
  rintro ⟨st, lm⟩
  simp only [rsupL, lc, ln]
  refine Xd rfl kr_ (ge ?_)
  by_cases hm2' : 2 ≤ (rtOf v.was).mrk
  ·refine Ev.yes 61 rfl (dt (by omega)) (ge ?_)
   refine Eb kr_ rfl rfl (refFits2 x.wd (rtOf v.was).off need (by omega) (by omega) (by omega) hrl (by omega)) (ge ?_)
   by_cases hf : fitsS x.wd (rtOf v.was).off need
   ·rw [e0, if_pos ⟨hm2', hf⟩, dt hf]
    refine go ?_
    refine Kr.none (.inl rfl) ?_ rfl
    refine Et (RSupO.close (a := ad sa) (st := st) (lm := lm) (w := w) S rfl rfl rfl) ?_
    refine Et (Ek (a := ad b)) ?_
    dsimp only
    rw [show RAgO sa rp slot gen n ⟨1, { v with need := need }, t, gNone, false⟩ = RAlO sa rp slot gen n ⟨1, { v with need := need }, t, gNone, false⟩ from RAgO.fun_ (by show 1 ≠ 6; omega)]
    refine Et (RAlO.closeS (rp := rp) (v := { v with need := need }) ⟨1, { v with need := need }, t, gNone, false⟩ (.inr (by show 1 ≠ 2; omega)) rfl rfl rfl rfl (fun _ hneg => hdry hneg)) (Ec ?_)
    exact ent
   rw [if_neg (fun h => hf h.2)] at e0
   rw [dz hf]
   refine go ?_
   by_cases h0 : 0 ≤ v.hand
   ·rw [e0, if_pos h0]
    refine Xy rfl (dt h0) (go ?_)
    refine Kr.none (.inl rfl) ?_ rfl
    refine Et (RSupO.close (a := ad sa) (st := st) (lm := lm) (w := w) S rfl rfl rfl) ?_
    refine Et (Ek (a := ad b)) ?_
    dsimp only
    rw [show RAgO sa rp slot gen n ⟨4, { v with need := need }, t, gNone, false⟩ = RAlO sa rp slot gen n ⟨4, { v with need := need }, t, gNone, false⟩ from RAgO.fun_ (by show 4 ≠ 6; omega)]
    refine Et (RAlO.closeS (rp := rp) (v := { v with need := need }) ⟨4, { v with need := need }, t, gNone, false⟩ (.inr (by show 4 ≠ 2; omega)) rfl rfl rfl rfl (fun h => absurd (show 4 ≤ 1 from h) (by omega))) (Ec ?_)
    exact ent
   rw [if_neg h0] at e0
   have hhm : v.hand = -1 := by omega
   obtain rfl := hdry (by omega)
   refine Xn rfl (dz h0) (go ?_)
   cases hask : v.asked with
   | true =>
     rw [hask] at e0
     simp only [if_true] at e0
     rw [alClose_eq (v := { v with need := need, asked := true }) hnd hr rfl] at e0
     rw [e0]
     refine go ?_
     refine Se_ (RSupO.close (a := ad sa) (st := st) (lm := lm) (w := w) S rfl rfl rfl) ?_
     refine Se_ (Ek (a := ad b)) ?_
     refine Se_ (M := ralB b sa slot gen n 0 (v.cnt : Nat) { v with need := need, asked := true, code := 6, point := v.cnt } tp gp true false :: pt (ad sa) (RSupO w S) :: pt (ad w) (RWO x rm rp rs re) :: pt (ad rp) (RSkO rm x.pool) :: G) (Ec (by exact ent)) ?_
     refine Sa rfl (refAgCloses (b := b) (sa := sa) (w := w) (rm := rm) (rp := rp) (rs := rs) (re := re) (slot := slot) (at_ := 0) (gen := gen) (n := n) (x := x) (S := S) (v := { v with need := need, asked := true, code := 6, point := v.cnt }) (tp := tp) (gp := gp) (dry := true) t rfl hh (by omega) hm0 hm2 rfl) ?_
     rintro v' L' rfl
     refine go ?_
     refine Kr.none (.inl rfl) ?_ rfl
     rw [← hob]
     exact Er _
   | false =>
     rw [hask] at e0
     simp only [bf, if_false] at e0
     have hkept := takeInit_kept (ba := x.ba) (s := S)
     obtain ⟨⟨S1, T1⟩, hT1⟩ : ∃ R, takeInit x.ba S = R := ⟨_, rfl⟩
     rw [hT1] at e0 hkept
     dsimp only at e0 hkept
     refine go ?_
     refine Se_ (RSupO.close (a := ad sa) (st := st) (lm := lm) (w := w) S rfl rfl rfl) ?_
     refine Sa rfl (refTakeNew (s := sa) (w := w) (rm := rm) (rp := rp) (rs := rs) (re := re) (x := x) (S := S) hx (by omega)) ?_
     rw [hT1]
     dsimp only
     rintro v' L' ⟨q, rfl, rfl⟩
     cases hd1 : T1.done with
     | true =>
       rw [hd1] at e0
       simp only [if_true] at e0
       rw [e0]
       refine go ?_
       refine Se_ (Ek (a := ad q)) ?_
       refine Sx.openp (a := ad q) (RTakeO.d hd1) ?_
       rintro ⟨nn, pp⟩
       simp only [rtakeDL, lc, ln]
       refine go ?_
       refine Se_ (Et (Ek (a := ad q)) (RTakeO.closeD (b := q) (s := sa) (rp := rp) T1 hd1 rfl rfl)) ?_
       refine Se_ (Ek (a := ad b)) ?_
       refine Sa rfl (refAgTaken (b := b) (sa := sa) (rp := rp) (slot := slot) (at_ := 2) (q := q) (gen := gen) (n := n) (v := { v with need := need, asked := true }) (gp := gp) (t := T1) rfl hd1 rfl (hz (by omega)) hhm (fun _ => (hr _ (List.mem_append_left _ (hkept hd1))).1)) ?_
       rintro v' L' rfl
       refine go ?_
       refine Kr.none (.inl rfl) (Ec ?_) rfl
       exact ent
     | false =>
       rw [hd1] at e0
       simp only [bf, if_false] at e0
       rw [e0]
       have e6 : RAgO sa rp slot gen n ⟨2, { v with need := need, asked := true }, T1, gNone, false⟩ = RAlO sa rp slot gen n ⟨2, { v with need := need, asked := true }, T1, gNone, false⟩ := RAgO.fun_ (by show 2 ≠ 6; omega)
       dsimp only
       rw [e6]
       refine go ?_
       refine Se_ (Ek (a := ad q)) ?_
       by_cases ha0 : T1.at_ = 0
       ·refine Sx.openp (a := ad q) (RTakeO.l hd1 ha0) ?_
        intro p
        simp only [rtakeLL, lc, ln]
        refine go ?_
        refine Kr.none (.inl rfl) ?_ rfl
        refine Et (Ek (a := ad q)) ?_
        refine Et (RTakeO.closeL (b := q) (s := sa) (rp := rp) T1 hd1 ha0 rfl) ?_
        refine Et (Ec (Ek (a := ad b))) ?_
        refine Et Ent.swap ?_
        refine Et (RAlO.closeT (rp := rp) (q := q) (v := { v with need := need }) ⟨2, { v with need := need, asked := true }, T1, gNone, false⟩ rfl rfl rfl rfl rfl) (Ec ?_)
        exact ent
       ·refine Sx.openp (a := ad q) (RTakeO.p hd1 ha0) ?_
        intro p
        simp only [rtakePL, lc, ln]
        refine go ?_
        refine Kr.none (.inl rfl) ?_ rfl
        refine Et (Ek (a := ad q)) ?_
        refine Et (Ec (Ek (a := ad p))) ?_
        refine Et (RTakeO.closeP (b := q) (s := sa) (rp := rp) (p := p) T1 hd1 ha0 rfl rfl) ?_
        refine Et (Ec (Ek (a := ad b))) ?_
        refine Et Ent.swap ?_
        refine Et (RAlO.closeT (rp := rp) (q := q) (v := { v with need := need }) ⟨2, { v with need := need, asked := true }, T1, gNone, false⟩ rfl rfl rfl rfl rfl) (Ec ?_)
        exact ent
  ·refine Ev.no 61 rfl (dz (by omega)) (ge ?_)
   rw [if_neg (fun h => hm2' h.1)] at e0
   refine go ?_
   by_cases h0 : 0 ≤ v.hand
   ·rw [e0, if_pos h0]
    refine Xy rfl (dt h0) (go ?_)
    refine Kr.none (.inl rfl) ?_ rfl
    refine Et (RSupO.close (a := ad sa) (st := st) (lm := lm) (w := w) S rfl rfl rfl) ?_
    refine Et (Ek (a := ad b)) ?_
    dsimp only
    rw [show RAgO sa rp slot gen n ⟨4, { v with need := need }, t, gNone, false⟩ = RAlO sa rp slot gen n ⟨4, { v with need := need }, t, gNone, false⟩ from RAgO.fun_ (by show 4 ≠ 6; omega)]
    refine Et (RAlO.closeS (rp := rp) (v := { v with need := need }) ⟨4, { v with need := need }, t, gNone, false⟩ (.inr (by show 4 ≠ 2; omega)) rfl rfl rfl rfl (fun h => absurd (show 4 ≤ 1 from h) (by omega))) (Ec ?_)
    exact ent
   rw [if_neg h0] at e0
   have hhm : v.hand = -1 := by omega
   obtain rfl := hdry (by omega)
   refine Xn rfl (dz h0) (go ?_)
   cases hask : v.asked with
   | true =>
     rw [hask] at e0
     simp only [if_true] at e0
     rw [alClose_eq (v := { v with need := need, asked := true }) hnd hr rfl] at e0
     rw [e0]
     refine go ?_
     refine Se_ (RSupO.close (a := ad sa) (st := st) (lm := lm) (w := w) S rfl rfl rfl) ?_
     refine Se_ (Ek (a := ad b)) ?_
     refine Se_ (M := ralB b sa slot gen n 0 (v.cnt : Nat) { v with need := need, asked := true, code := 6, point := v.cnt } tp gp true false :: pt (ad sa) (RSupO w S) :: pt (ad w) (RWO x rm rp rs re) :: pt (ad rp) (RSkO rm x.pool) :: G) (Ec (by exact ent)) ?_
     refine Sa rfl (refAgCloses (b := b) (sa := sa) (w := w) (rm := rm) (rp := rp) (rs := rs) (re := re) (slot := slot) (at_ := 0) (gen := gen) (n := n) (x := x) (S := S) (v := { v with need := need, asked := true, code := 6, point := v.cnt }) (tp := tp) (gp := gp) (dry := true) t rfl hh (by omega) hm0 hm2 rfl) ?_
     rintro v' L' rfl
     refine go ?_
     refine Kr.none (.inl rfl) ?_ rfl
     rw [← hob]
     exact Er _
   | false =>
     rw [hask] at e0
     simp only [bf, if_false] at e0
     have hkept := takeInit_kept (ba := x.ba) (s := S)
     obtain ⟨⟨S1, T1⟩, hT1⟩ : ∃ R, takeInit x.ba S = R := ⟨_, rfl⟩
     rw [hT1] at e0 hkept
     dsimp only at e0 hkept
     refine go ?_
     refine Se_ (RSupO.close (a := ad sa) (st := st) (lm := lm) (w := w) S rfl rfl rfl) ?_
     refine Sa rfl (refTakeNew (s := sa) (w := w) (rm := rm) (rp := rp) (rs := rs) (re := re) (x := x) (S := S) hx (by omega)) ?_
     rw [hT1]
     dsimp only
     rintro v' L' ⟨q, rfl, rfl⟩
     cases hd1 : T1.done with
     | true =>
       rw [hd1] at e0
       simp only [if_true] at e0
       rw [e0]
       refine go ?_
       refine Se_ (Ek (a := ad q)) ?_
       refine Sx.openp (a := ad q) (RTakeO.d hd1) ?_
       rintro ⟨nn, pp⟩
       simp only [rtakeDL, lc, ln]
       refine go ?_
       refine Se_ (Et (Ek (a := ad q)) (RTakeO.closeD (b := q) (s := sa) (rp := rp) T1 hd1 rfl rfl)) ?_
       refine Se_ (Ek (a := ad b)) ?_
       refine Sa rfl (refAgTaken (b := b) (sa := sa) (rp := rp) (slot := slot) (at_ := 2) (q := q) (gen := gen) (n := n) (v := { v with need := need, asked := true }) (gp := gp) (t := T1) rfl hd1 rfl (hz (by omega)) hhm (fun _ => (hr _ (List.mem_append_left _ (hkept hd1))).1)) ?_
       rintro v' L' rfl
       refine go ?_
       refine Kr.none (.inl rfl) (Ec ?_) rfl
       exact ent
     | false =>
       rw [hd1] at e0
       simp only [bf, if_false] at e0
       rw [e0]
       have e6 : RAgO sa rp slot gen n ⟨2, { v with need := need, asked := true }, T1, gNone, false⟩ = RAlO sa rp slot gen n ⟨2, { v with need := need, asked := true }, T1, gNone, false⟩ := RAgO.fun_ (by show 2 ≠ 6; omega)
       dsimp only
       rw [e6]
       refine go ?_
       refine Se_ (Ek (a := ad q)) ?_
       by_cases ha0 : T1.at_ = 0
       ·refine Sx.openp (a := ad q) (RTakeO.l hd1 ha0) ?_
        intro p
        simp only [rtakeLL, lc, ln]
        refine go ?_
        refine Kr.none (.inl rfl) ?_ rfl
        refine Et (Ek (a := ad q)) ?_
        refine Et (RTakeO.closeL (b := q) (s := sa) (rp := rp) T1 hd1 ha0 rfl) ?_
        refine Et (Ec (Ek (a := ad b))) ?_
        refine Et Ent.swap ?_
        refine Et (RAlO.closeT (rp := rp) (q := q) (v := { v with need := need }) ⟨2, { v with need := need, asked := true }, T1, gNone, false⟩ rfl rfl rfl rfl rfl) (Ec ?_)
        exact ent
       ·refine Sx.openp (a := ad q) (RTakeO.p hd1 ha0) ?_
        intro p
        simp only [rtakePL, lc, ln]
        refine go ?_
        refine Kr.none (.inl rfl) ?_ rfl
        refine Et (Ek (a := ad q)) ?_
        refine Et (Ec (Ek (a := ad p))) ?_
        refine Et (RTakeO.closeP (b := q) (s := sa) (rp := rp) (p := p) T1 hd1 ha0 rfl rfl) ?_
        refine Et (Ec (Ek (a := ad b))) ?_
        refine Et Ent.swap ?_
        refine Et (RAlO.closeT (rp := rp) (q := q) (v := { v with need := need }) ⟨2, { v with need := need, asked := true }, T1, gNone, false⟩ rfl rfl rfl rfl rfl) (Ec ?_)
        exact ent
end
end
end Go.Proofs.YtflalhdofhobmaaGreat
