/-
  Parts of the proof, merged: what the statement leans on.
-/
import Derived.Deep.Slices
import Derived.Deep.Fields
import Derived.Test.YtflalhdofhobmaaGreatZHgE
set_option linter.unusedVariables false
set_option linter.unusedSimpArgs false

namespace Go.Proofs.YtflalhdofhobmaaGreat
open Go
attribute [local irreducible] Sx Cx Rx Fx Krg Ksq Kbl Klp Kr
section
variable {L F G : St}
abbrev enF (nx n1 n2 n3 : Value) (r slot : Nat) (gen : Int) (cnt : Int) (was : Nat) (rt : Rt) (code : Nat) (chunk : Int) (point : Nat) : List Value :=
 [nx, n1, n2, n3, .int .i64 cnt, .pointer (some ⟨r, 0, none⟩), .int .i64 (slot : Nat), .int .i64 gen, wd was, .int .i64 (rt.gen : Nat), .int .i64 (rt.mrk : Nat), .int .i64 (rt.cl : Nat), .int .i64 (rt.off : Nat), .int .i64 (code : Nat), .int .i64 chunk, .int .i64 (point : Nat)]
abbrev enB (b : Nat) (nx n1 n2 n3 : Value) (r slot : Nat) (gen : Int) (cnt : Int) (was : Nat) (rt : Rt) (code : Nat) (chunk : Int) (point : Nat) : As := pt (some ⟨b, 0, none⟩) (Blk 173 (enF nx n1 n2 n3 r slot gen cnt was rt code chunk point))
def enL (nx : Value) (T : TypeId) (r slot : Nat) (gen : Int) (e : EndS) (a : Option Addr) (y : Value × Value × Value) : St :=
 [pt a (Blk T (enF nx y.1 y.2.1 y.2.2 r slot gen (e.cnt : Nat) e.was (rtOf e.was) e.code e.chunk e.point))]
def EndT (T : TypeId) (r slot : Nat) (gen : Int) (e : EndS) (a : Option Addr) : As := bif e.done then exs (enL .nilFunc T r slot gen e a) else match e.at_ with
 | 0 => exs (enL (.func (.func 105) #[.pointer a] #[]) T r slot gen e a) | _ => exs (enL (.func (.func 176) #[.pointer a] #[]) T r slot gen e a)
abbrev EndO := EndT 173
section
variable {T : TypeId} {r slot : Nat} {gen : Int} {e : EndS} {a : Option Addr}
theorem EndO.l (h : e.done = false) (h0 : e.at_ = 0) : EndT T r slot gen e a = exs (enL (.func (.func 105) #[.pointer a] #[]) T r slot gen e a) := by unfold EndT; rw [h, h0]; rfl
theorem EndO.c (h : e.done = false) (h0 : e.at_ = 1) : EndT T r slot gen e a = exs (enL (.func (.func 176) #[.pointer a] #[]) T r slot gen e a) := by unfold EndT; rw [h, h0]; rfl
theorem EndO.d (h : e.done = true) : EndT T r slot gen e a = exs (enL .nilFunc T r slot gen e a) := by unfold EndT; rw [h]; rfl
end
section
variable {b r slot was code point : Nat} {gen cnt chunk : Int} {n1 n2 n3 : Value} {rt : Rt}
theorem EndO.closeL (e : EndS) (h : e.done = false) (h0 : e.at_ = 0) (e1 : cnt = (e.cnt : Nat)) (e2 : was = e.was) (e3 : rt = rtOf e.was) (e4 : code = e.code) (e5 : chunk = e.chunk) (e6 : point = e.point) :
  Ent (enB b (mth 105 b) n1 n2 n3 r slot gen cnt was rt code chunk point :: G) (pt (some ⟨b, 0, none⟩) (EndO r slot gen e) :: G) := by
 subst e1 e2 e3 e4 e5 e6
 exact Ent.close (f := enL (mth 105 b) 173 r slot gen e (some ⟨b, 0, none⟩)) (EndO.l h h0) (n1, n2, n3)
theorem EndO.closeC (e : EndS) (h : e.done = false) (h0 : e.at_ = 1) (e1 : cnt = (e.cnt : Nat)) (e2 : was = e.was) (e3 : rt = rtOf e.was) (e4 : code = e.code) (e5 : chunk = e.chunk) (e6 : point = e.point) :
  Ent (enB b (mth 176 b) n1 n2 n3 r slot gen cnt was rt code chunk point :: G) (pt (some ⟨b, 0, none⟩) (EndO r slot gen e) :: G) := by
 subst e1 e2 e3 e4 e5 e6
 exact Ent.close (f := enL (mth 176 b) 173 r slot gen e (some ⟨b, 0, none⟩)) (EndO.c h h0) (n1, n2, n3)
theorem EndO.closeD (e : EndS) (h : e.done = true) (e1 : cnt = (e.cnt : Nat)) (e2 : was = e.was) (e3 : rt = rtOf e.was) (e4 : code = e.code) (e5 : chunk = e.chunk) (e6 : point = e.point) :
  Ent (enB b .nilFunc n1 n2 n3 r slot gen cnt was rt code chunk point :: G) (pt (some ⟨b, 0, none⟩) (EndO r slot gen e) :: G) := by
 subst e1 e2 e3 e4 e5 e6
 exact Ent.close (f := enL .nilFunc 173 r slot gen e (some ⟨b, 0, none⟩)) (EndO.d h) (n1, n2, n3)
end
structure EndS.ok (e : EndS) : Prop where
 a : e.at_ ≤ 1
 w : e.was < 18446744073709551616
 g : e.at_ = 1 → (rtOf e.was).mrk ≤ 4097
 n : e.cnt ≤ 1000000
theorem rootsIs {g mp sb : Nat} {x : Cn} (s : Int) [c : Take L (some ⟨g, 0, none⟩) (RoO mp sb x) F] :
  Fx Tryz.prog 104 [.pointer (some ⟨g, 0, none⟩), .int .i64 s] L (fun v L' => v = .bool (decide (0 ≤ s ∧ s < x.sl)) ∧ L = L') := by
 refine Fx.kept (t := c) ?_
 refine Fx.mk Tryz.func104 k104 nb_ ?_
 dsimp only [c104, envOf, Nat.reduceAdd]
 refine Cx.ent (Ent.of c.out) ?_
 refine go ?_
 by_cases h0 : 0 ≤ s
 ·refine Sx.gyes rfl (decide_eq_true h0) ?_
  refine go ?_
  refine Kr.one (.inr rfl) rfl (Ent.refl _) ⟨?_, rfl⟩
  congr 1
  exact decide_eq_decide.2 ⟨fun h => ⟨h0, h⟩, fun h => h.2⟩
 ·refine Sx.gno rfl (decide_eq_false h0) ?_
  refine go ?_
  refine Kr.one (.inr rfl) rfl (Ent.refl _) ⟨?_, rfl⟩
  rw [decide_eq_false (fun h => h0 h.1)]
theorem rootsEnd {g mp sb : Nat} {x : Cn} (slot : Nat) (gen : Int) (hs : slot < x.sl) [c : Take L (some ⟨g, 0, none⟩) (RoO mp sb x) F] :
  Fx Tryz.prog 35 [.pointer (some ⟨g, 0, none⟩), .int .i64 slot, .int .i64 gen] L (fun v L' => ∃ b, v = .tuple #[.pointer (some ⟨b, 0, none⟩), .int .i64 0] ∧ L' = pt (some ⟨b, 0, none⟩) (EndO g slot gen EndS.init) :: L) := by
 refine Fx.mk Tryz.func35 k35 nb_ ?_
 dsimp only [c35, envOf, Nat.reduceAdd]
 refine go ?_
 refine Sx.ca rfl (rootsIs (g := g) (mp := mp) (sb := sb) (x := x) (slot : Int)) ?_
 rintro v L' ⟨rfl, rfl⟩
 rw [decide_eq_true (show (0 : Int) ≤ slot ∧ (slot : Int) < x.sl by omega)]
 refine go ?_
 refine Sx.bx rfl rfl fun b => ?_
 refine Sx.re (enF .nilFunc .nilFunc .nilFunc .nilFunc g slot gen 0 0 (rtOf 0) 0 (-1) 0) rfl ?_
 refine go ?_
 refine Sx.ca rfl (machGo (b := b)) ?_
 rintro v L' ⟨rfl, rfl⟩
 refine go ?_
 refine Kr.two (.inr rfl) rfl rfl ?_ ⟨b, rfl, rfl⟩
 exact EndO.closeL (b := b) (r := g) (slot := slot) (gen := gen) (rt := rtOf 0) EndS.init rfl rfl rfl rfl rfl rfl rfl rfl
theorem endLoad_ {b r mp sp slot : Nat} {gen : Int} {x : Cn} {m : Mm} {e : EndS} {n1 n2 n3 : Value} {cnt : Int} (hcnt : cnt = ((e.cnt + 1 : Nat) : Int)) (hd : e.done = false) (hx : x.ok) (hm : m.ok) (hl : x.len ≤ m.ws.length) (hs : slot < x.sl) :
  Fx Tryz.prog 105 [.pointer (some ⟨b, 0, none⟩)] (enB b .nilFunc n1 n2 n3 r slot gen cnt e.was (rtOf e.was) e.code e.chunk e.point :: pt (some ⟨r, 0, none⟩) (RoO mp sp x) :: pt (some ⟨mp, 0, none⟩) (MemO m) :: G)
   (fun v L' => L' = pt (some ⟨b, 0, none⟩) (EndO r slot gen (if (rtOf (m.at_ (x.root + slot))).live gen then { e with cnt := e.cnt + 1, was := m.at_ (x.root + slot), at_ := 1 } else { e with cnt := e.cnt + 1, was := m.at_ (x.root + slot), code := 3, point := e.cnt + 1, done := true })) :: pt (some ⟨mp, 0, none⟩) (MemO m.tick) :: pt (some ⟨r, 0, none⟩) (RoO mp sp x) :: G) := by
 subst hcnt
 have hwl := Mm.at_lt hm (x.root + slot)
 refine Fx.mk Tryz.func105 k105 nb_ ?_
 dsimp only [c105, envOf, Nat.reduceAdd]
 refine Cx.sq ?_
 refine Cx.ordc rfl kr_ ?_
 refine ge ?_
 refine Ev.caH kr_ rfl rfl (rootsLoad (g := r) (mp := mp) (sb := sp) (x := x) (m := m) slot hs hx hm hl) (Pres.deps kr_) ?_
 rintro v L' ⟨rfl, rfl⟩
 obtain ⟨W, hW⟩ : ∃ W, m.at_ (x.root + slot) = W := ⟨_, rfl⟩
 rw [hW] at hwl ⊢
 refine ge ?_
 refine Ev.stbH (b := b) kr_ rfl rfl rfl rfl rfl (by rfl) rfl (.keep (fun v L' ⟨_, e⟩ => by subst e; exact Has.cell rfl) (.keep (fun v L' ⟨_, e⟩ => by subst e; exact Has.cell rfl) .nil)) ?_
 refine ge ?_
 refine Ev.stnH (b := b) (enF .nilFunc n1 n2 n3 r slot gen ((e.cnt + 1 : Nat) : Int) W (rtOf W) e.code e.chunk e.point) kr_ rfl rfl rfl rfl rfl rfl rfl rfl (Pres.deps kr_) ?_
 refine ge ?_
 refine Cx.sq ?_
 refine Cx.sq ?_
 refine Cx.ordc rfl kr_ ?_
 refine ge ?_
 refine Ev.cakH kr_ rfl rfl (wordLive (rtOf W) gen) ?_
 refine ge ?_
 by_cases hlive : (rtOf W).live gen
 case neg =>
  rw [decide_eq_false hlive, if_neg hlive]
  refine go ?_
  refine Sx.ca rfl (machCount (b := b)) ?_
  rintro v' L' ⟨rfl, rfl⟩
  refine go ?_
  refine Kr.none (.inr rfl) ?_ rfl
  refine Ent.trans (Ent.take (a := some ⟨b, 0, none⟩)) ?_
  refine Ent.trans (EndO.closeD (rt := rtOf W) { e with cnt := e.cnt + 1, was := W, code := 3, point := e.cnt + 1, done := true } rfl rfl rfl rfl rfl rfl rfl) (Ent.cons ?_)
  exact ent
 case pos =>
  rw [decide_eq_true hlive, if_pos hlive]
  refine go ?_
  refine Sx.ca rfl (machGo (b := b)) ?_
  rintro v' L' ⟨rfl, rfl⟩
  refine go ?_
  refine Kr.none (.inl rfl) ?_ rfl
  refine Ent.trans (Ent.take (a := some ⟨b, 0, none⟩)) ?_
  refine Ent.trans (EndO.closeC (rt := rtOf W) { e with cnt := e.cnt + 1, was := W, at_ := 1 } hd rfl rfl rfl rfl rfl rfl rfl) (Ent.cons ?_)
  exact ent
theorem endCas_ {b r mp sp slot : Nat} {gen : Int} {x : Cn} {m : Mm} {e : EndS} {n1 n2 n3 : Value} {cnt : Int} (hcnt : cnt = ((e.cnt + 1 : Nat) : Int)) (hd : e.done = false) (h1 : e.at_ = 1) (hx : x.ok) (hl : x.len ≤ m.ws.length) (hs : slot < x.sl) (hw : e.was < 18446744073709551616) :
  Fx Tryz.prog 176 [.pointer (some ⟨b, 0, none⟩)] (enB b .nilFunc n1 n2 n3 r slot gen cnt e.was (rtOf e.was) e.code e.chunk e.point :: pt (some ⟨r, 0, none⟩) (RoO mp sp x) :: pt (some ⟨mp, 0, none⟩) (MemO m) :: G)
   (fun v L' => L' = pt (some ⟨b, 0, none⟩) (EndO r slot gen (if m.at_ (x.root + slot) = e.was then { e with cnt := e.cnt + 1, chunk := (rtOf e.was).chunk, point := e.cnt + 1, done := true } else { e with cnt := e.cnt + 1, at_ := 0 })) :: pt (some ⟨mp, 0, none⟩) (MemO (m.cas (x.root + slot) e.was (Rt.w ⟨(rtOf e.was).gen, 0, 0, 0⟩))) :: pt (some ⟨r, 0, none⟩) (RoO mp sp x) :: G) := by
 subst hcnt
 have hsz : x.root + x.sl ≤ x.len := by unfold Cn.root Cn.len; omega
 have hR : Rt.ok ⟨(rtOf e.was).gen, 0, 0, 0⟩ := ⟨rtOf_gen hw, by show 0 ≤ 4097; omega, by show 0 ≤ 3; omega, by show 0 ≤ 1024; omega⟩
 refine Fx.mk Tryz.func176 k176 nb_ ?_
 dsimp only [c176, envOf, Nat.reduceAdd]
 refine go ?_
 refine Sx.ca (vs := [rtV ⟨(rtOf e.was).gen, 0, 0, 0⟩]) rfl (putRoot ⟨(rtOf e.was).gen, 0, 0, 0⟩ hR) ?_
 rintro v L' ⟨rfl, rfl⟩
 refine go ?_
 refine Cx.ordc rfl kr_ ?_
 refine ge ?_
 refine Ev.cakH kr_ rfl rfl (layRootN hx slot hs) ?_
 refine ge ?_
 refine Ev.caH kr_ rfl rfl (cellsCas (b := mp) (m := m) (x.root + slot) e.was (Rt.w ⟨(rtOf e.was).gen, 0, 0, 0⟩) (by omega) (Rt.w_lt hR)) (Pres.deps kr_) ?_
 rintro v L' ⟨rfl, rfl⟩
 refine ge ?_
 refine go ?_
 by_cases hc : m.at_ (x.root + slot) = e.was
 case neg =>
  rw [decide_eq_false hc, if_neg hc]
  refine go ?_
  refine Sx.ca rfl (machGo (b := b)) ?_
  rintro v' L' ⟨rfl, rfl⟩
  refine go ?_
  refine Kr.none (.inr rfl) ?_ rfl
  refine Ent.trans (Ent.take (a := some ⟨b, 0, none⟩)) ?_
  refine Ent.trans (EndO.closeL (rt := rtOf e.was) { e with cnt := e.cnt + 1, at_ := 0 } hd rfl rfl rfl rfl rfl rfl rfl) (Ent.cons ?_)
  exact ent
 case pos =>
  rw [decide_eq_true hc, if_pos hc]
  refine go ?_
  refine Cx.orde rfl kr_ ?_
  refine ge ?_
  refine Ev.cakH kr_ rfl rfl (wordChunk (rtOf e.was) (rtOf_mrk _)) ?_
  refine ge ?_
  refine Ev.cakH kr_ rfl rfl (machCount (b := b)) ?_
  refine ge ?_
  refine Ev.stbH (b := b) kr_ rfl rfl rfl rfl rfl (by rfl) rfl (.keep (fun v L' ⟨_, e⟩ => by subst e; exact machCount (b := b)) (.dep rfl (.dep rfl .nil))) ?_
  refine ge ?_
  refine Ev.stbH (b := b) kr_ rfl rfl rfl rfl rfl (by rfl) rfl (Pres.deps kr_) ?_
  refine ge ?_
  refine Kr.none (.inl rfl) ?_ rfl
  refine Ent.trans (Ent.take (a := some ⟨b, 0, none⟩)) ?_
  refine Ent.trans (EndO.closeD (rt := rtOf e.was) { e with cnt := e.cnt + 1, chunk := (rtOf e.was).chunk, point := e.cnt + 1, done := true } rfl rfl rfl rfl rfl rfl rfl) (Ent.cons ?_)
  exact ent
theorem endStepC {b r mp sp slot : Nat} {gen : Int} {x : Cn} {m : Mm} {e : EndS} {F1 F2 : St} (hx : x.ok) (hl : x.len ≤ m.ws.length) (hs : slot < x.sl) (he : e.ok)
  [t1 : Take L (some ⟨b, 0, none⟩) (EndO r slot gen e) F1] [t2 : Take F1 (some ⟨mp, 0, none⟩) (MemO m) F2] [t3 : Take F2 (some ⟨r, 0, none⟩) (RoO mp sp x) G] :
  Fx Tryz.prog 32 [.pointer (some ⟨b, 0, none⟩)] L
   (fun v L' => v = .bool (!e.done) ∧ L' = pt (some ⟨b, 0, none⟩) (EndO r slot gen (endStep (x.root + slot) gen m e).1) :: pt (some ⟨mp, 0, none⟩) (MemO (endStep (x.root + slot) gen m e).2) :: F2) := by
 have hback : Ent (pt (some ⟨r, 0, none⟩) (RoO mp sp x) :: G) F2 := Ent.of t3.back
 obtain ⟨ha, hw, hg, hn⟩ := he
 refine Fx.mk Tryz.func32 k32 nb_ ?_
 dsimp only [c32, envOf, Nat.reduceAdd]
 refine Cx.ent (Ent.trans (Ent.of t1.out) (Ent.cons (Ent.trans (Ent.of t2.out) (Ent.cons (Ent.of t3.out))))) ?_
 refine Cx.pure (memKey (b := mp) (m := m)) fun hm => ?_
 cases hd : e.done with
 | true =>
   have e1 : endStep (x.root + slot) gen m e = (e, m) := by unfold endStep; rw [hd]; rfl
   rw [e1]
   refine Cx.openp (a := some ⟨b, 0, none⟩) (EndO.d hd) ?_
   rintro ⟨n1, n2, n3⟩
   simp only [enL, List.cons_append, List.nil_append]
   refine go ?_
   refine Sx.ca rfl (machStepDone (b := b)) ?_
   rintro v L' ⟨rfl, rfl⟩
   refine go ?_
   exact Kr.one (.inr rfl) rfl (Ent.trans (EndO.closeD e hd rfl rfl rfl rfl rfl rfl) (Ent.cons (Ent.cons hback))) ⟨rfl, rfl⟩
 | false =>
   rcases (show e.at_ = 0 ∨ e.at_ = 1 by omega) with h0 | h0
   ·refine Cx.openp (a := some ⟨b, 0, none⟩) (EndO.l hd h0) ?_
    rintro ⟨n1, n2, n3⟩
    simp only [enL, List.cons_append, List.nil_append]
    have e1 : endStep (x.root + slot) gen m e = (if (rtOf (m.at_ (x.root + slot))).live gen then { e with cnt := e.cnt + 1, was := m.at_ (x.root + slot), at_ := 1 } else { e with cnt := e.cnt + 1, was := m.at_ (x.root + slot), code := 3, point := e.cnt + 1, done := true }, m.tick) := by unfold endStep; rw [hd, h0]; rfl
    rw [e1]
    refine Cx.ent (M := enB b (mth 105 b) n1 n2 n3 r slot gen (e.cnt : Nat) e.was (rtOf e.was) e.code e.chunk e.point :: pt (some ⟨r, 0, none⟩) (RoO mp sp x) :: pt (some ⟨mp, 0, none⟩) (MemO m) :: G) (by exact ent) ?_
    refine go ?_
    refine Sx.ca rfl (machStep (b := b) kr_ (endLoad_ (b := b) (r := r) (mp := mp) (sp := sp) (x := x) (m := m) (e := e) (cntW hn) hd hx hm.1 hl hs)) ?_
    rintro v L' ⟨rfl, w, rfl⟩
    refine go ?_
    exact Kr.one (.inr rfl) rfl (Ent.cons (Ent.cons hback)) ⟨rfl, rfl⟩
   ·refine Cx.openp (a := some ⟨b, 0, none⟩) (EndO.c hd h0) ?_
    rintro ⟨n1, n2, n3⟩
    simp only [enL, List.cons_append, List.nil_append]
    have e1 : endStep (x.root + slot) gen m e = (if m.at_ (x.root + slot) = e.was then { e with cnt := e.cnt + 1, chunk := (rtOf e.was).chunk, point := e.cnt + 1, done := true } else { e with cnt := e.cnt + 1, at_ := 0 }, m.cas (x.root + slot) e.was (Rt.w ⟨(rtOf e.was).gen, 0, 0, 0⟩)) := by unfold endStep; rw [hd, h0]; rfl
    rw [e1]
    refine Cx.ent (M := enB b (mth 176 b) n1 n2 n3 r slot gen (e.cnt : Nat) e.was (rtOf e.was) e.code e.chunk e.point :: pt (some ⟨r, 0, none⟩) (RoO mp sp x) :: pt (some ⟨mp, 0, none⟩) (MemO m) :: G) (by exact ent) ?_
    refine go ?_
    refine Sx.ca rfl (machStep (b := b) kr_ (endCas_ (b := b) (r := r) (mp := mp) (sp := sp) (x := x) (m := m) (e := e) (cntW hn) hd h0 hx hl hs hw)) ?_
    rintro v L' ⟨rfl, w, rfl⟩
    refine go ?_
    exact Kr.one (.inr rfl) rfl (Ent.cons (Ent.cons hback)) ⟨rfl, rfl⟩
theorem EndS.ok_init : EndS.init.ok := ⟨by show 0 ≤ 1; omega, by show 0 < 18446744073709551616; omega, (fun h => by cases h), by show 0 ≤ 1000000; omega⟩
theorem endStep_ok {a : Nat} {gen : Int} {m : Mm} {e : EndS} (hm : m.ok) (hk : (rtOf (m.at_ a)).mrk ≤ 4097) (h : e.ok) (hn : e.cnt + 1 ≤ 1000000) : (endStep a gen m e).1.ok ∧ (endStep a gen m e).1.cnt ≤ e.cnt + 1 := by
 obtain ⟨h1, h2, h3, h4⟩ := h
 have hw := Mm.at_lt hm a
 unfold endStep
 split
 ·exact ⟨⟨h1, h2, h3, h4⟩, by show e.cnt ≤ e.cnt + 1; omega⟩
 ·split
  ·dsimp only
   split
   ·exact ⟨⟨by show 1 ≤ 1; omega, hw, fun _ => hk, hn⟩, Nat.le_refl _⟩
   ·rename_i h0 _
    exact ⟨⟨by show e.at_ ≤ 1; omega, hw, fun _ => hk, hn⟩, Nat.le_refl _⟩
  ·dsimp only
   split
   ·exact ⟨⟨h1, h2, h3, hn⟩, Nat.le_refl _⟩
   ·exact ⟨⟨by show 0 ≤ 1; omega, h2, (fun h => by cases h), hn⟩, Nat.le_refl _⟩
theorem endDone {b r slot : Nat} {gen : Int} {e : EndS} {F1 : St} (ha : e.at_ ≤ 1) [t1 : Take L (some ⟨b, 0, none⟩) (EndO r slot gen e) F1] : Fx Tryz.prog 34 [.pointer (some ⟨b, 0, none⟩)] L (fun v L' => v = .bool e.done ∧ L = L') := by
 refine Fx.kept (t := t1) ?_
 refine Fx.mk Tryz.func34 k34 nb_ ?_
 dsimp only [c34, envOf, Nat.reduceAdd]
 refine Cx.ent (Ent.of t1.out) ?_
 cases hd : e.done with
 | true =>
   refine Cx.openp (a := some ⟨b, 0, none⟩) (EndO.d hd) ?_
   rintro ⟨n1, n2, n3⟩
   simp only [enL, List.cons_append, List.nil_append]
   refine go ?_
   refine Sx.ca rfl (machDoneYes (b := b)) ?_
   rintro v L' ⟨rfl, rfl⟩
   refine go ?_
   exact Kr.one (.inr rfl) rfl (EndO.closeD e hd rfl rfl rfl rfl rfl rfl) ⟨rfl, rfl⟩
 | false =>
   rcases (show e.at_ = 0 ∨ e.at_ = 1 by omega) with h0 | h0
   ·refine Cx.openp (a := some ⟨b, 0, none⟩) (EndO.l hd h0) ?_
    rintro ⟨n1, n2, n3⟩
    simp only [enL, List.cons_append, List.nil_append]
    refine go ?_
    refine Sx.ca rfl (machDoneNo (b := b)) ?_
    rintro v L' ⟨rfl, rfl⟩
    refine go ?_
    exact Kr.one (.inr rfl) rfl (EndO.closeL e hd h0 rfl rfl rfl rfl rfl rfl) ⟨rfl, rfl⟩
   ·refine Cx.openp (a := some ⟨b, 0, none⟩) (EndO.c hd h0) ?_
    rintro ⟨n1, n2, n3⟩
    simp only [enL, List.cons_append, List.nil_append]
    refine go ?_
    refine Sx.ca rfl (machDoneNo (b := b)) ?_
    rintro v L' ⟨rfl, rfl⟩
    refine go ?_
    exact Kr.one (.inr rfl) rfl (EndO.closeC e hd h0 rfl rfl rfl rfl rfl rfl) ⟨rfl, rfl⟩
end
end Go.Proofs.YtflalhdofhobmaaGreat


namespace Go.Proofs.YtflalhdofhobmaaGreat
open Go
attribute [local irreducible] Sx Cx Rx Fx Krg Ksq Kbl Klp Kr
section
variable {L F G : St}
def poolM (x : Cn) : Mm := fillM x.pool (zeroM x)
theorem poolM_len (x : Cn) : (poolM x).ws.length = x.len := by unfold poolM; rw [fillM_len, zeroM_len]
end
end Go.Proofs.YtflalhdofhobmaaGreat


namespace Go.Proofs.YtflalhdofhobmaaGreat
open Go
attribute [local irreducible] Sx Cx Rx Fx Krg Ksq Kbl Klp Kr
section
variable {L F : St}
theorem anyOpen_least {now : Int} {m : Lm} (h : 2 ≤ now) : decide (0 ≤ leastI (leastUp now m 3)) = anyOpen now m := by
 refine decide_eq_decide.2 ?_
 cases hl : leastUp now m 3 with
 | none =>
   have hn := leastUp_none hl
   simp [leastI, hn 0 (by omega), hn 1 (by omega), hn 2 (by omega)]
 | some j =>
   have hj := leastUp_lt hl
   have h1 := hj.1
   simp only [leastI]
   refine ⟨fun _ => ⟨h, ?_⟩, fun _ => by omega⟩
   rcases (show j = 0 ∨ j = 1 ∨ j = 2 by omega) with rfl | rfl | rfl
   ·exact .inl hj.2
   ·exact .inr (.inl hj.2)
   ·exact .inr (.inr hj.2)
theorem refOpen {b : Nat} {m : Lm} {now : Int} {F : St} [t : Take L (some ⟨b, 0, none⟩) (RLimboO m) F] (h3 : now ≤ 9223372036854775807) :
  Fx Tryz.prog 253 [.pointer (some ⟨b, 0, none⟩), .int .i64 now] L (fun v L' => v = .bool (anyOpen now m) ∧ L = L') := by
 refine Fx.mk Tryz.func253 k253 nb_ ?_
 dsimp only [c253, envOf, Nat.reduceAdd]
 refine go ?_
 refine Sx.ifp rfl (fun h => ?_) (fun h => ?_)
 ·refine go ?_
  refine Sx.ca rfl (refLeast (b := b) (m := m) (F := F) h h3) ?_
  rintro v L' ⟨rfl, rfl⟩
  refine go ?_
  exact Kr.one (.inr rfl) rfl (Ent.refl _) ⟨congrArg Value.bool (anyOpen_least h), rfl⟩
 ·have h' : ¬ 2 ≤ now := h
  refine go ?_
  exact Kr.one (.inr rfl) rfl (Ent.refl _) ⟨by simp [anyOpen, h'], rfl⟩
theorem refLimboLen {b : Nat} {m : Lm} {F : St} [t : Take L (some ⟨b, 0, none⟩) (RLimboO m) F] (hb : m.size ≤ 1000000000) :
  Fx Tryz.prog 229 [.pointer (some ⟨b, 0, none⟩)] L (fun v L' => v = .int .i64 m.size ∧ L = L') := by
 have hs : m.size = m.x0.length + m.x1.length + m.x2.length := rfl
 refine Fx.kept (t := t) ?_
 refine Fx.mk Tryz.func229 k229 nb_ ?_
 dsimp only [c229, envOf, Nat.reduceAdd]
 refine Cx.openp (t := t) rfl ?_
 rintro ⟨⟨⟨r0, c0⟩, ⟨r1, c1⟩, ⟨r2, c2⟩⟩, ⟨u0, u1, u2, l⟩⟩
 simp only [refL, List.cons_append, List.nil_append]
 refine Cx.liftp fun hT => ?_
 refine go ?_
 refine Cx.ordc rfl kr_ ?_
 refine ge ?_
 rw [w64 (n := (m.x0.length : Int) + m.x1.length) (by omega) (by omega), w64 (n := (m.x0.length : Int) + m.x1.length + m.x2.length) (by omega) (by omega)]
 refine go ?_
 refine Kr.one (.inr rfl) rfl (RLimboO.close (a := some ⟨b, 0, none⟩) (r0 := r0) (r1 := r1) (r2 := r2) m hT rfl rfl rfl rfl rfl rfl rfl rfl rfl rfl) ⟨?_, rfl⟩
 refine congrArg (Value.int .i64) ?_
 omega
theorem RTag.put0 {m : Lm} {u0 u1 u2 l : Int} (h : RTag m u0 u1 u2 l) : RTag (m.put 0 0 []) u0 u1 u2 l := ⟨fun x => absurd rfl x, h.h1, h.h2, h.hl⟩
theorem RTag.put1 {m : Lm} {u0 u1 u2 l : Int} (h : RTag m u0 u1 u2 l) : RTag (m.put 1 0 []) u0 u1 u2 l := ⟨h.h0, fun x => absurd rfl x, h.h2, h.hl⟩
theorem RTag.put2 {m : Lm} {u0 u1 u2 l : Int} (h : RTag m u0 u1 u2 l) : RTag (m.put 2 0 []) u0 u1 u2 l := ⟨h.h0, h.h1, fun x => absurd rfl x, h.hl⟩
set_option maxHeartbeats 4000000 in
theorem refReady {b : Nat} {m : Lm} {now : Int} {F : St} [t : Take L (some ⟨b, 0, none⟩) (RLimboO m) F] (hb : m.size ≤ 100000000) (hnow : now ≤ 9223372036854775807) :
  Fx Tryz.prog 230 [.pointer (some ⟨b, 0, none⟩), .int .i64 now] L (fun v L' => ∃ ro co, v = .slice ro (readyAll now m).1.length co ∧
   L' = pt ro (Row 3 1 (readyAll now m).1.length co (ints (readyAll now m).1)) :: pt (some ⟨b, 0, none⟩) (RLimboO (readyAll now m).2) :: F) := by
 refine Fx.mk Tryz.func230 k230 nb_ ?_
 dsimp only [c230, envOf, Nat.reduceAdd]
 refine Cx.ent (Ent.trans (Ent.of t.out) (Ent.rownil 3 1)) ?_
 refine go ?_
 refine Cx.lp (α := {p : (List Int × Lm) × (Option Addr × Nat) // p.1.1.length + p.1.2.size = m.size ∧ p.1.1 ++ (readyAll now p.1.2).1 = (readyAll now m).1 ∧ (readyAll now p.1.2).2 = (readyAll now m).2})
  (fun p => [(0, .pointer (some ⟨b, 0, none⟩)), (1, .int .i64 now), (5, .slice p.1.2.1 p.1.1.1.length p.1.2.2)])
  (fun p => pt p.1.2.1 (Row 3 1 p.1.1.1.length p.1.2.2 (ints p.1.1.1)) :: pt (some ⟨b, 0, none⟩) (RLimboO p.1.1.2) :: F) (fun p => p.1.1.2.cnt) ⟨(([], m), (none, 0)), by simp, by simp, rfl⟩ (sub.cons rfl (sub.cons rfl (sub.cons rfl sub.nil))) (Ent.refl _) ?_
 rintro ⟨⟨⟨out, m'⟩, ⟨ro, co⟩⟩, hsz, he1, he2⟩
 dsimp only at hsz he1 he2 ⊢
 refine go ?_
 refine Sx.ca rfl (refOpen (b := b) (m := m') hnow) ?_
 rintro v L' ⟨rfl, rfl⟩
 refine go ?_
 have hall : ∀ o, 2 ≤ now → leastUp now m' 3 = o → readyAll now m' = match o with
    | none => ([], m')
    | some j => (m'.items j ++ (readyAll now (m'.put j 0 [])).1, (readyAll now (m'.put j 0 [])).2) := by
   intro o h2 ho
   unfold readyAll
   simp only [if_pos h2]
   cases o with
   | none =>
     cases hc : m'.cnt with
     | zero => rfl
     | succ c => simp [readyM, ho]
   | some j =>
     rw [cnt_put (leastUp_lt ho).1 (open_ne (leastUp_lt ho).2)]
     simp [readyM, ho]
 refine Cx.cd rfl (fun hop => ?_) (fun hop => ?_)
 ·have h2 : 2 ≤ now := (of_decide_eq_true hop).1
  rw [← anyOpen_least h2] at hop
  have hl := of_decide_eq_true hop
  refine go ?_
  refine Sx.ca rfl (refLeast (b := b) (m := m') h2 hnow) ?_
  rintro v L' ⟨rfl, rfl⟩
  rcases hlu : leastUp now m' 3 with _ | j
  ·rw [hlu] at hl; exact absurd hl (by decide)
  have hra := hall _ h2 hlu
  have hj := (leastUp_lt hlu).1
  have hne := open_ne (leastUp_lt hlu).2
  have hsp := size_put (m := m') hj
  have hcp := cnt_put hj hne
  have hm1 : out.length + (m'.x0.length + m'.x1.length + m'.x2.length) = m.size := hsz
  dsimp only at hra
  rw [hra, ← List.append_assoc] at he1
  rw [hra] at he2
  simp only [leastI]
  refine Sx.openp (a := some ⟨b, 0, none⟩) rfl ?_
  rintro ⟨⟨⟨r0, c0⟩, ⟨r1, c1⟩, ⟨r2, c2⟩⟩, ⟨u0, u1, u2, l⟩⟩
  simp only [refL, List.cons_append, List.nil_append]
  refine Sx.liftp fun hT => ?_
  rcases (show j = 0 ∨ j = 1 ∨ j = 2 by omega) with rfl | rfl | rfl
  ·refine gg ?_
   refine Sx.rowkey (a := r0) fun hxj hnj _ hkj => ?_
   refine Sx.ap (ra := ro) rfl rfl (Rd.any (a := r0) hxj (hkj.imp (fun h => h.2.1) id)) (ones_ints _) (by simp [maxLen]; omega) (by omega) fun ra ca hc => ?_
   refine gg ?_
   refine Klp.nm ⟨((out ++ m'.items 0, m'.put 0 0 []), (ra, ca)), by dsimp only; rw [List.length_append]; omega, he1, he2⟩ (sub.cons rfl (sub.cons rfl (sub.cons ?_ sub.nil))) ?_ (by dsimp only; omega)
   ·show _ = some (Value.slice ra (out ++ m'.items 0).length ca)
    rw [show (out ++ m'.items 0).length = out.length + m'.x0.length by simp [Lm.items]]
    rfl
   ·dsimp only
    rw [ints_append, List.length_append]
    refine Ent.take1 (t := inferInstance) ?_
    refine Ent.trans (Ent.rownil 3 1) ?_
    refine Ent.trans (RLimboO.close (a := some ⟨b, 0, none⟩) (r0 := none) (r1 := r1) (r2 := r2) (m'.put 0 0 []) hT.put0 rfl rfl rfl rfl rfl rfl rfl rfl rfl rfl) ?_
    exact ent
  ·refine gg ?_
   refine Sx.rowkey (a := r1) fun hxj hnj _ hkj => ?_
   refine Sx.ap (ra := ro) rfl rfl (Rd.any (a := r1) hxj (hkj.imp (fun h => h.2.1) id)) (ones_ints _) (by simp [maxLen]; omega) (by omega) fun ra ca hc => ?_
   refine gg ?_
   refine Klp.nm ⟨((out ++ m'.items 1, m'.put 1 0 []), (ra, ca)), by dsimp only; rw [List.length_append]; omega, he1, he2⟩ (sub.cons rfl (sub.cons rfl (sub.cons ?_ sub.nil))) ?_ (by dsimp only; omega)
   ·show _ = some (Value.slice ra (out ++ m'.items 1).length ca)
    rw [show (out ++ m'.items 1).length = out.length + m'.x1.length by simp [Lm.items]]
    rfl
   ·dsimp only
    rw [ints_append, List.length_append]
    refine Ent.take1 (t := inferInstance) ?_
    refine Ent.trans (Ent.rownil 3 1) ?_
    refine Ent.trans (RLimboO.close (a := some ⟨b, 0, none⟩) (r0 := r0) (r1 := none) (r2 := r2) (m'.put 1 0 []) hT.put1 rfl rfl rfl rfl rfl rfl rfl rfl rfl rfl) ?_
    exact ent
  ·refine gg ?_
   refine Sx.rowkey (a := r2) fun hxj hnj _ hkj => ?_
   refine Sx.ap (ra := ro) rfl rfl (Rd.any (a := r2) hxj (hkj.imp (fun h => h.2.1) id)) (ones_ints _) (by simp [maxLen]; omega) (by omega) fun ra ca hc => ?_
   refine gg ?_
   refine Klp.nm ⟨((out ++ m'.items 2, m'.put 2 0 []), (ra, ca)), by dsimp only; rw [List.length_append]; omega, he1, he2⟩ (sub.cons rfl (sub.cons rfl (sub.cons ?_ sub.nil))) ?_ (by dsimp only; omega)
   ·show _ = some (Value.slice ra (out ++ m'.items 2).length ca)
    rw [show (out ++ m'.items 2).length = out.length + m'.x2.length by simp [Lm.items]]
    rfl
   ·dsimp only
    rw [ints_append, List.length_append]
    refine Ent.take1 (t := inferInstance) ?_
    refine Ent.trans (Ent.rownil 3 1) ?_
    refine Ent.trans (RLimboO.close (a := some ⟨b, 0, none⟩) (r0 := r0) (r1 := r1) (r2 := none) (m'.put 2 0 []) hT.put2 rfl rfl rfl rfl rfl rfl rfl rfl rfl rfl) ?_
    exact ent
 ·refine go ?_
  have hra : readyAll now m' = ([], m') := by
   by_cases h2 : 2 ≤ now
   ·rw [← anyOpen_least h2] at hop
    have hl := of_decide_eq_false hop
    rcases hlu : leastUp now m' 3 with _ | j
    ·exact hall _ h2 hlu
    ·rw [hlu] at hl; exact absurd (show (0 : Int) ≤ leastI (some j) by simp [leastI]) hl
   ·unfold readyAll; rw [if_neg h2]
  rw [hra] at he1 he2
  simp only [List.append_nil] at he1
  subst he1; subst he2
  exact Kr.one (.inr rfl) rfl (Ent.refl _) ⟨ro, co, rfl, rfl⟩
end
end Go.Proofs.YtflalhdofhobmaaGreat


namespace Go.Proofs.YtflalhdofhobmaaGreat
open Go
attribute [local irreducible] Sx Cx Rx Fx Krg Ksq Kbl Klp Kr
section
variable {L F : St}
end
end Go.Proofs.YtflalhdofhobmaaGreat


namespace Go.Proofs.YtflalhdofhobmaaGreat
open Go
attribute [local irreducible] Sx Cx Rx Fx Krg Ksq Kbl Klp Kr
section
variable {L F G : St}
theorem refTakeI {b : Nat} {most : Int} (xs : List Int) {F : St} [t : Take L (some ⟨b, 0, none⟩) (RefO most xs) F] (hb : xs.length ≤ 100000000) :
  Fx Tryz.prog 231 [.pointer (some ⟨b, 0, none⟩)] L (fun v L' => v = .tuple #[.int .i64 (lastI xs), .bool (decide (xs ≠ []))] ∧ L' = pt (some ⟨b, 0, none⟩) (RefO most xs.dropLast) :: F) := by
 rcases List.eq_nil_or_concat xs with rfl | ⟨ys, x, rfl⟩
 ·exact refTakeNone
 ·rw [List.concat_eq_append] at t hb ⊢
  refine (refTakeSome (t := t) (by simp at hb; omega)).mono ?_
  rintro v L' ⟨rfl, rfl⟩
  simp [lastI]
def rsupL (T : TypeId) (w : Nat) (S : SupS) (a : Option Addr) (y : Nat × Nat) : St :=
 [pt a (Blk T [.pointer (some ⟨w, 0, none⟩), .pointer (some ⟨y.1, 0, none⟩), .pointer (some ⟨y.2, 0, none⟩)]), pt (some ⟨y.1, 0, none⟩) (RefO S.most S.xs), pt (some ⟨y.2, 0, none⟩) (RLimboO S.lm)]
def RSupT (T : TypeId) (w : Nat) (S : SupS) (a : Option Addr) : As := exs (rsupL T w S a)
abbrev RSupO := RSupT 183
theorem RSupO.close {T : TypeId} {w st lm : Nat} {a : Option Addr} {m : Int} {xs : List Int} {l : Lm} {F0 F1 G : St} (S : SupS)
  [t : Take L a (Blk T [.pointer (some ⟨w, 0, none⟩), .pointer (some ⟨st, 0, none⟩), .pointer (some ⟨lm, 0, none⟩)]) F0] [u : Take F0 (some ⟨st, 0, none⟩) (RefO m xs) F1] [q : Take F1 (some ⟨lm, 0, none⟩) (RLimboO l) G]
  (hm : m = S.most) (hx : xs = S.xs) (hl : l = S.lm) : Ent L (pt a (RSupT T w S) :: G) := by
 subst hm; subst hx; subst hl
 refine Ent.trans (Ent.take1 (t := t) (Ent.trans (Ent.of u.out) (Ent.cons (Ent.of q.out)))) ?_
 exact Ent.close (f := rsupL T w S a) rfl (st, lm)
theorem refSupReady {s w : Nat} {S : SupS} {F : St} [t : Take L (some ⟨s, 0, none⟩) (RSupO w S) F] {now : Int} (hb : S.lm.size ≤ 100000000) (hx : S.xs.length ≤ 100000000) (hn : now ≤ 9223372036854775807) :
  Fx Tryz.prog 181 [.pointer (some ⟨s, 0, none⟩), .int .i64 now] L (fun v L' => v = .int .i64 (readyAll now S.lm).1.length ∧ L' = pt (some ⟨s, 0, none⟩) (RSupO w (S.ready now)) :: F) := by
 have hz := size_ready now S.lm
 refine Fx.mk Tryz.func181 k181 nb_ ?_
 dsimp only [c181, envOf, Nat.reduceAdd]
 refine Cx.openp (t := t) rfl ?_
 rintro ⟨st, lm⟩
 simp only [rsupL, List.cons_append, List.nil_append]
 refine go ?_
 refine Sx.ca rfl (refReady (b := lm) (m := S.lm) (now := now) hb hn) ?_
 rintro v L' ⟨ro, co, rfl, rfl⟩
 refine Sx.rowkey (a := ro) fun hx0 hn0 _ hk0 => ?_
 refine go ?_
 refine Sx.ca rfl (refGive (b := st) (Rd.any (a := ro) hx0 (hk0.imp (fun h => h.2.1) id)) (by omega)) ?_
 rintro v L' ⟨rfl, rfl⟩
 refine go ?_
 refine Kr.one (.inr rfl) rfl (Ent.trans (RSupO.close (a := some ⟨s, 0, none⟩) (st := st) (lm := lm) (w := w) (S.ready now) rfl rfl rfl) ?_) ⟨rfl, rfl⟩
 exact ent
def TakeS.ch (t : TakeS) : Int := if t.is_ then t.chunk else -1
abbrev rtkB (b s : Nat) (at_ : Nat) (ch seen : Int) (pp : Value) (d : Bool) : As := pt (some ⟨b, 0, none⟩) (Blk 186 [.pointer (some ⟨s, 0, none⟩), .int .i64 (at_ : Nat), .int .i64 ch, .int .i64 seen, pp, .bool d])
def rtakeDL (T : TypeId) (s : Nat) (t : TakeS) (a : Option Addr) (y : Nat × Value) : St := [pt a (Blk T [.pointer (some ⟨s, 0, none⟩), .int .i64 (y.1 : Nat), .int .i64 t.ch, .int .i64 t.seen, y.2, .bool true])]
def rtakeLL (T : TypeId) (s : Nat) (t : TakeS) (a : Option Addr) (y : Value) : St := [pt a (Blk T [.pointer (some ⟨s, 0, none⟩), .int .i64 0, .int .i64 (-1), .int .i64 t.seen, y, .bool false])]
def rtakePL (T : TypeId) (s rp : Nat) (t : TakeS) (a : Option Addr) (y : Nat) : St := [pt a (Blk T [.pointer (some ⟨s, 0, none⟩), .int .i64 1, .int .i64 (-1), .int .i64 t.seen, .pointer (some ⟨y, 0, none⟩), .bool false]), pt (some ⟨y, 0, none⟩) (RPopO rp t.q)]
def RTakeT (T : TypeId) (s rp : Nat) (t : TakeS) (a : Option Addr) : As := bif t.done then exs (rtakeDL T s t a) else bif Nat.beq t.at_ 0 then exs (rtakeLL T s t a) else exs (rtakePL T s rp t a)
abbrev RTakeO := RTakeT 186
theorem RTakeO.d {T : TypeId} {s rp : Nat} {t : TakeS} {a : Option Addr} (h : t.done = true) : RTakeT T s rp t a = exs (rtakeDL T s t a) := by unfold RTakeT; rw [h]; rfl
theorem RTakeO.l {T : TypeId} {s rp : Nat} {t : TakeS} {a : Option Addr} (h : t.done = false) (h0 : t.at_ = 0) : RTakeT T s rp t a = exs (rtakeLL T s t a) := by unfold RTakeT; rw [h, h0]; rfl
theorem RTakeO.p {T : TypeId} {s rp : Nat} {t : TakeS} {a : Option Addr} (h : t.done = false) (h0 : t.at_ ≠ 0) : RTakeT T s rp t a = exs (rtakePL T s rp t a) := by
 unfold RTakeT
 have : Nat.beq t.at_ 0 = false := by
  cases hb : Nat.beq t.at_ 0 with
  | false => rfl
  | true => exact absurd (Nat.eq_of_beq_eq_true hb) h0
 rw [h, this]; rfl
theorem RTakeO.closeD {b s rp n : Nat} {ch seen : Int} {pp : Value} (t : TakeS) (h : t.done = true) (hc : ch = t.ch) (hs : seen = t.seen) : Ent (rtkB b s n ch seen pp true :: G) (pt (some ⟨b, 0, none⟩) (RTakeO s rp t) :: G) := by
 subst hc; subst hs
 exact Ent.close (f := rtakeDL 186 s t (some ⟨b, 0, none⟩)) (RTakeO.d h) (n, pp)
theorem RTakeO.closeL {b s rp : Nat} {seen : Int} {pp : Value} (t : TakeS) (h : t.done = false) (h0 : t.at_ = 0) (hs : seen = t.seen) : Ent (rtkB b s 0 (-1) seen pp false :: G) (pt (some ⟨b, 0, none⟩) (RTakeO s rp t) :: G) := by
 subst hs
 exact Ent.close (f := rtakeLL 186 s t (some ⟨b, 0, none⟩)) (RTakeO.l h h0) pp
theorem RTakeO.closeP {b s rp p : Nat} {seen : Int} {q : PopS} (t : TakeS) (h : t.done = false) (h0 : t.at_ ≠ 0) (hs : seen = t.seen) (hq : q = t.q) : Ent (rtkB b s 1 (-1) seen (.pointer (some ⟨p, 0, none⟩)) false :: pt (some ⟨p, 0, none⟩) (RPopO rp q) :: G) (pt (some ⟨b, 0, none⟩) (RTakeO s rp t) :: G) := by
 subst hs; subst hq
 exact Ent.close (f := rtakePL 186 s rp t (some ⟨b, 0, none⟩)) (RTakeO.p h h0) p
abbrev rtkV (s : Nat) (at_ : Nat) (ch seen : Int) (pp : Value) (d : Bool) : Option Addr → As := Blk 186 [.pointer (some ⟨s, 0, none⟩), .int .i64 (at_ : Nat), .int .i64 ch, .int .i64 seen, pp, .bool d]
theorem refKept {b s w n : Nat} {S : SupS} {seen : Int} {pp : Value} {F1 : St} (hb : S.xs.length ≤ 100000000) [t1 : Take L (some ⟨b, 0, none⟩) (rtkV s n (-1) seen pp false) F1] [t2 : Take F1 (some ⟨s, 0, none⟩) (RSupO w S) G] :
  Fx Tryz.prog 182 [.pointer (some ⟨b, 0, none⟩)] L
   (fun v L' => v = .tuple #[] ∧ L' = rtkB b s n (if S.xs = [] then -1 else lastI S.xs) seen pp (decide (S.xs ≠ [])) :: pt (some ⟨s, 0, none⟩) (RSupO w S.kept) :: G) := by
 refine Fx.mk Tryz.func182 k182 nb_ ?_
 dsimp only [c182, envOf, Nat.reduceAdd]
 refine Cx.ent (Ent.trans (Ent.of t1.out) (Ent.cons (Ent.of t2.out))) ?_
 refine Cx.openp (a := some ⟨s, 0, none⟩) rfl ?_
 rintro ⟨st, lm⟩
 simp only [rsupL, List.cons_append, List.nil_append]
 refine go ?_
 refine Sx.ca rfl (refTakeI (b := st) S.xs hb) ?_
 rintro v L' ⟨rfl, rfl⟩
 by_cases hx : S.xs = []
 ·rw [decide_eq_false (fun h => h hx), if_pos hx]
  refine go ?_
  refine Kr.none (.inl rfl) ?_ ⟨rfl, rfl⟩
  refine Ent.trans ?_ Ent.swap
  refine Ent.trans (RSupO.close (a := some ⟨s, 0, none⟩) (st := st) (lm := lm) (w := w) S.kept rfl rfl rfl) (Ent.cons ?_)
  exact ent
 ·rw [decide_eq_true hx, if_neg hx]
  refine go ?_
  refine Kr.none (.inl rfl) ?_ ⟨rfl, rfl⟩
  refine Ent.trans ?_ Ent.swap
  refine Ent.trans (RSupO.close (a := some ⟨s, 0, none⟩) (st := st) (lm := lm) (w := w) S.kept rfl rfl rfl) (Ent.cons ?_)
  exact ent
theorem refTakePop {b s w rm rp rs re n : Nat} {x : Cn} {S : SupS} {ch seen : Int} {pp : Value} {F1 F2 F3 : St} (hb : x.ba ≤ 8) [t1 : Take L (some ⟨b, 0, none⟩) (rtkV s n ch seen pp false) F1] [t2 : Take F1 (some ⟨s, 0, none⟩) (RSupO w S) F2] [t3 : Take F2 (some ⟨w, 0, none⟩) (RWO x rm rp rs re) F3] [t4 : Take F3 (some ⟨rp, 0, none⟩) (RSkO rm x.pool) G] :
  Fx Tryz.prog 183 [.pointer (some ⟨b, 0, none⟩)] L
   (fun v L' => ∃ p, v = .tuple #[] ∧ L' = rtkB b s 1 ch seen (.pointer (some ⟨p, 0, none⟩)) false :: pt (some ⟨p, 0, none⟩) (RPopO rp (PopS.init x.ba)) :: pt (some ⟨s, 0, none⟩) (RSupO w S) :: F2) := by
 refine Fx.mk Tryz.func183 k183 nb_ ?_
 dsimp only [c183, envOf, Nat.reduceAdd]
 refine Cx.ent (Ent.trans (Ent.of t1.out) (Ent.cons (Ent.trans (Ent.of t2.out) (Ent.cons (Ent.trans (Ent.of t3.out) (Ent.cons (Ent.of t4.out))))))) ?_
 refine Cx.openp (a := some ⟨s, 0, none⟩) rfl ?_
 rintro ⟨st, lm⟩
 simp only [rsupL, List.cons_append, List.nil_append]
 refine Cx.orde rfl kr_ ?_
 refine ge ?_
 refine Ev.caH kr_ rfl rfl (refPopNew (sb := rp) (rm := rm) (k := x.pool) (x.ba : Int)) (Pres.deps kr_) ?_
 rintro v L' ⟨p, rfl, rfl⟩
 refine ge ?_
 refine Ev.stbH (b := b) kr_ rfl rfl rfl rfl rfl (by rfl) rfl (Pres.deps kr_) ?_
 refine ge ?_
 refine Ev.stbH (b := b) kr_ rfl rfl rfl rfl rfl (by rfl) rfl (Pres.deps kr_) ?_
 refine ge ?_
 refine Kr.none (.inl rfl) ?_ ⟨p, rfl, rfl⟩
 refine Ent.trans (Ent.take (a := some ⟨b, 0, none⟩)) (Ent.cons ?_)
 refine Ent.trans (Ent.take (a := some ⟨p, 0, none⟩)) (Ent.cons ?_)
 refine Ent.trans (RSupO.close (a := some ⟨s, 0, none⟩) (st := st) (lm := lm) (w := w) S rfl rfl rfl) (Ent.cons ?_)
 refine Ent.trans ?_ (Ent.of t3.back)
 refine Ent.trans ?_ (Ent.cons (Ent.of t4.back))
 exact ent
end
end Go.Proofs.YtflalhdofhobmaaGreat


namespace Go.Proofs.YtflalhdofhobmaaGreat
open Go
attribute [local irreducible] Sx Cx Rx Fx Krg Ksq Kbl Klp Kr
theorem holds_perm {L M : St} (p : L.Perm M) : ∀ {h : Hp}, holds L h → holds M h := by
 induction p with
 | nil => exact fun H => H
 | cons x _ ih => exact fun H => holds_cons (fun _ => ih) H
 | swap x y l => exact fun H => holds_swap H
 | trans _ _ ih1 ih2 => exact fun H => ih2 (ih1 H)
theorem Ent.perm {L M : St} (p : L.Perm M) : Ent L M := .of fun _ => holds_perm p
def many (n : Nat) (f : Nat → St) : St := (List.range n).flatMap f
def updS (f : Nat → St) (i : Nat) (s : St) : Nat → St := fun j => if j = i then s else f j
theorem Ent.deep {M N G : St} : Ent (N ++ (M ++ G)) (M ++ (N ++ G)) := by
 rw [← List.append_assoc, ← List.append_assoc]; exact .perm (List.perm_append_comm.append_right _)
theorem many_zero (f : Nat → St) : many 0 f = [] := rfl
theorem many_succ (n : Nat) (f : Nat → St) : many (n + 1) f = many n f ++ f n := by simp [many, List.range_succ]
theorem many_congr {n : Nat} {f g : Nat → St} (h : ∀ i, i < n → f i = g i) : many n f = many n g := by
 induction n with
 | zero => rfl
 | succ n ih => rw [many_succ, many_succ, ih fun i hi => h i (by omega), h n (by omega)]
theorem updS_same (f : Nat → St) (i : Nat) (s : St) : updS f i s i = s := if_pos rfl
theorem updS_ne (f : Nat → St) {i j : Nat} (s : St) (h : j ≠ i) : updS f i s j = f j := if_neg h
theorem updS_updS (f : Nat → St) (i : Nat) (s t : St) : updS (updS f i s) i t = updS f i t := by
 funext j; unfold updS; split <;> rfl
theorem many_perm {n : Nat} {f : Nat → St} : ∀ {i : Nat}, i < n → (many n f).Perm (f i ++ many n (updS f i [])) := by
 induction n with
 | zero => intro i h; omega
 | succ n ih =>
   intro i h
   rw [many_succ, many_succ]
   by_cases e : i = n
   ·subst e
    rw [updS_same, List.append_nil, many_congr (g := f) fun j hj => updS_ne f [] (by omega)]
    exact List.perm_append_comm
   ·rw [updS_ne f [] (show n ≠ i by omega), ← List.append_assoc]
    exact (ih (by omega)).append_right _
theorem Ent.one {n i : Nat} {f : Nat → St} {G : St} (h : i < n) : Ent (many n f ++ G) (f i ++ (many n (updS f i []) ++ G)) := by
 rw [← List.append_assoc]; exact .perm ((many_perm h).append_right _)
theorem Ent.oneBack {n i : Nat} {f : Nat → St} {s : St} {G : St} (h : i < n) : Ent (s ++ (many n (updS f i []) ++ G)) (many n (updS f i s) ++ G) := by
 have := (many_perm (f := updS f i s) h).append_right G
 rw [updS_same, updS_updS, List.append_assoc] at this
 exact .perm this.symm
theorem Ent.app {A B X : St} (h : Ent A B) : Ent (X ++ A) (X ++ B) := by
 induction X with
 | nil => exact h
 | cons P X ih => exact Ent.cons ih
theorem Ent.dropA {A B : St} : Ent (A ++ B) B := by
 induction A with
 | nil => exact Ent.refl _
 | cons P X ih => exact Ent.trans Ent.drop ih
class Many (L : St) (n : outParam Nat) (f : outParam (Nat → St)) (N G : outParam St) : Prop where
 eq : L = N ++ (many n f ++ G)
instance (priority := high) Many.here (n : Nat) (f : Nat → St) (G : St) : Many (many n f ++ G) n f [] G := ⟨rfl⟩
instance Many.there (P : As) (L : St) (n : Nat) (f : Nat → St) (N G : St) [t : Many L n f N G] : Many (P :: L) n f (P :: N) G := ⟨by rw [t.eq]; rfl⟩
theorem Ent.ith {L : St} {n : Nat} {f : Nat → St} {N G : St} [t : Many L n f N G] (i : Nat) (h : i < n) : Ent L (f i ++ (N ++ (many n (updS f i []) ++ G))) := by
 rw [t.eq]
 exact Ent.trans Ent.deep (Ent.trans (Ent.one h) (Ent.app Ent.deep))
theorem Ent.ithBack {n : Nat} {f : Nat → St} {N G s : St} {i : Nat} (h : i < n) : Ent (s ++ (N ++ (many n (updS f i []) ++ G))) (N ++ (many n (updS f i s) ++ G)) :=
 Ent.trans (Ent.app Ent.deep) (Ent.trans (Ent.oneBack h) Ent.deep)
theorem entm {L M : St} (h : Ent L M := by repeat (first | exact Ent.refl _ | (refine Ent.take1 ?_) | (refine Ent.trans Ent.drop ?_) | (refine Ent.trans Ent.dropA ?_))) : Ent L M := h
theorem updS_id (f : Nat → St) (i : Nat) : updS f i (f i) = f := by
 funext j; unfold updS; split
 ·rename_i h; rw [h]
 ·rfl
def ptrs (n : Nat) (U : Nat → Nat) : List Value := (List.range n).map fun i => .pointer (some ⟨U i, 0, none⟩)
theorem ptrs_succ (n : Nat) (U : Nat → Nat) : ptrs (n + 1) U = ptrs n U ++ [.pointer (some ⟨U n, 0, none⟩)] := by simp [ptrs, List.range_succ]
theorem ptrs_get {n i : Nat} {U : Nat → Nat} (h : i < n) : (ptrs n U)[i]? = some (.pointer (some ⟨U i, 0, none⟩)) := by simp [ptrs, h]
theorem ptrs_congr {n : Nat} {U V : Nat → Nat} (h : ∀ i, i < n → U i = V i) : ptrs n U = ptrs n V := by
 unfold ptrs
 refine List.map_congr_left fun i hi => ?_
 rw [h i (List.mem_range.1 hi)]
structure Who where
 u : Nat
 pb : Nat
 s : Nat
section
variable {L F G : St}
def whoL (mp w : Nat) (x : Cn) (q : Who) (S S2 : SupS) : St :=
 [pt (some ⟨q.u, 0, none⟩) (SupO mp q.pb x S), pt (some ⟨q.pb, 0, none⟩) (SkO mp x.pool), pt (some ⟨q.s, 0, none⟩) (RSupO w S2)]
end
end Go.Proofs.YtflalhdofhobmaaGreat


namespace Go.Proofs.YtflalhdofhobmaaGreat
open Go
attribute [local irreducible] Sx Cx Rx Fx Krg Ksq Kbl Klp Kr
section
variable {L F G : St}
def allM (x : Cn) : Mm := fillM x.spare (poolM x)
theorem allM_len (x : Cn) : (allM x).ws.length = x.len := by unfold allM; rw [fillM_len, poolM_len]
theorem zeroM_at (x : Cn) (a : Nat) : (zeroM x).at_ a = 0 := by
 unfold zeroM Mm.at_
 rw [List.getD_eq_getElem?_getD, List.getElem?_replicate]
 split <;> rfl
theorem allM_at {x : Cn} (hx : x.ok) {a : Nat} (h0 : a ≠ 0) (h1 : a ≠ 1) (hs : ¬ (x.slot ≤ a ∧ a < x.slot + x.sl)) (hl : ¬ (x.link ≤ a ∧ a < x.link + x.c)) : (allM x).at_ a = 0 := by
 have hlen := hx.len_le
 unfold allM
 rw [(fill_pool (hx.spare (n := x.len) (Nat.le_refl _) hlen) (poolM_len x)).2 a h1 (fun j hj => by have : j < x.sl := hj; show a ≠ x.slot + j; omega)]
 unfold poolM
 rw [(fill_pool (hx.pool (n := x.len) (Nat.le_refl _) hlen) (zeroM_len x)).2 a h0 (fun j hj => by have : j < x.c := hj; show a ≠ x.link + j; omega)]
 exact zeroM_at x a
theorem allM_ok {x : Cn} (hx : x.ok) : (allM x).ok := by
 obtain ⟨b1, b2, b3, b4, b5, b6, b7⟩ := hx.b
 refine fillM_ok (fillM_ok (fun w hw => ?_) (by show x.c ≤ 4096; omega)) (by show x.sl ≤ 4096; omega)
 simp only [zeroM] at hw; rw [List.eq_of_mem_replicate hw]; omega
theorem allM_pool {x : Cn} (hx : x.ok) : Pool x.pool (allM x) (iotaI x.c) := by
 have hlen := hx.len_le
 have hsp := hx.spare (n := x.len) (Nat.le_refl _) hlen
 have h1 := (fill_pool (hx.pool (n := x.len) (Nat.le_refl _) hlen) (zeroM_len x)).1
 have h2 := (fill_pool hsp (poolM_len x)).2
 have g : x.slot + x.sl = x.link := by unfold Cn.slot Cn.link; omega
 have g3 : 3 ≤ x.slot := by unfold Cn.slot; omega
 unfold allM
 refine ⟨?_, h1.nd⟩
 rw [h2 _ (by show (0 : Nat) ≠ 1; omega) (fun j hj => by have : j < x.sl := hj; show 0 ≠ x.slot + j; omega)]
 refine h1.c.congr fun z hz => ?_
 have hz2 := h1.c.mem z hz
 rw [h2 _ (by show x.link + z.toNat ≠ 1; omega) (fun j hj => by have : j < x.sl := hj; show x.link + z.toNat ≠ x.slot + j; omega)]
 rfl
theorem allM_spare {x : Cn} (hx : x.ok) : Pool x.spare (allM x) (iotaI x.sl) := (fill_pool (hx.spare (n := x.len) (Nat.le_refl _) hx.len_le) (poolM_len x)).1
structure Hn where
 a : Nat
 mp : Nat
 ro : Nat
 sp : Nat
 g : Nat
 pb : Nat
 w : Nat
 rm : Nat
 rp : Nat
 rs : Nat
 re : Nat
abbrev grV (x : Cn) (n : Hn) (r r2 : Option Addr) (k c c2 : Nat) : List Value :=
 [.int .i64 x.w, .int .i64 x.c, .int .i64 x.wd, .int .i64 x.sl, .int .i64 x.ca, .int .i64 x.ba, .pointer (some ⟨n.mp, 0, none⟩), .pointer (some ⟨n.ro, 0, none⟩), .pointer (some ⟨n.g, 0, none⟩), .pointer (some ⟨n.pb, 0, none⟩), .slice r k c, .pointer (some ⟨n.w, 0, none⟩), .slice r2 k c2]
abbrev grF (x : Cn) (n : Hn) (r r2 : Option Addr) (k c c2 : Nat) (Q : Nat → Who) (S S2 : Nat → SupS) (m m2 : Mm) (G : St) : St :=
 pt (some ⟨n.a, 0, none⟩) (Blk 45 (grV x n r r2 k c c2)) :: pt r (Row 47 1 k c (ptrs k fun i => (Q i).u)) :: pt r2 (Row 81 1 k c2 (ptrs k fun i => (Q i).s)) ::
 pt (some ⟨n.mp, 0, none⟩) (MemO m) :: pt (some ⟨n.pb, 0, none⟩) (SkO n.mp x.pool) :: pt (some ⟨n.ro, 0, none⟩) (RoO n.mp n.sp x) :: pt (some ⟨n.sp, 0, none⟩) (SkO n.mp x.spare) :: pt (some ⟨n.g, 0, none⟩) (GrO n.mp x) ::
 pt (some ⟨n.w, 0, none⟩) (RWO x n.rm n.rp n.rs n.re) :: pt (some ⟨n.rm, 0, none⟩) (RMemO m2) :: pt (some ⟨n.rp, 0, none⟩) (RSkO n.rm x.pool) :: pt (some ⟨n.rs, 0, none⟩) (RSkO n.rm x.spare) :: pt (some ⟨n.re, 0, none⟩) (REpO x n.rm) ::
 (many k (fun i => whoL n.mp n.w x (Q i) (S i) (S2 i)) ++ G)
def updQ (Q : Nat → Who) (i : Nat) (q : Who) : Nat → Who := fun j => if j = i then q else Q j
set_option maxHeartbeats 4000000 in
theorem grMade {x : Cn} (hx : x.ok) : Fx Tryz.prog 14 [x.v] L (fun v L' => ∃ (n : Hn) (r r2 c c2 : Nat) (Q : Nat → Who), v = .pointer (some ⟨n.a, 0, none⟩) ∧
  L' = grF x n (some ⟨r, 0, none⟩) (some ⟨r2, 0, none⟩) 3 c c2 Q (fun _ => SupS.nil x.ca) (fun _ => SupS.nil x.ca) (allM x) (allM x) L) := by
 obtain ⟨b1, b2, b3, b4, b5, b6, b7⟩ := hx.b
 have hlen := hx.len_le
 have hl1 : 1 ≤ x.len := by unfold Cn.len; omega
 have hpl := poolM_len x
 have hzl := zeroM_len x
 have hal := allM_len x
 have hroot : x.root + x.sl = x.slot := by unfold Cn.root Cn.slot; omega
 have hslot : x.slot + x.sl = x.link := by unfold Cn.slot Cn.link; omega
 have hzr : zeroRt x (fillM x.spare (fillM x.pool (zeroM x))) x.sl = allM x := by
  refine zeroRt_same (m := allM x) (by rw [hal]; have : x.link ≤ x.len := by unfold Cn.link Cn.len; omega
                                       omega) (fun i hi => ?_) x.sl (Nat.le_refl _)
  exact allM_at hx (by unfold Cn.root; omega) (by unfold Cn.root; omega) (by omega) (by omega)
 refine Fx.mk Tryz.func14 k14 nb_ ?_
 dsimp only [c14, envOf, Nat.reduceAdd]
 refine Cx.sq ?_
 refine Cx.rg ?_
 refine Sx.bx rfl rfl fun g0 => ?_
 refine go ?_
 refine Sx.ca rfl (layLen (x.w : Int) x.c x.wd x.sl x.ca x.ba hx) ?_
 rintro v L' ⟨rfl, rfl⟩
 rw [x.lenC]
 refine go ?_
 refine Sx.ca rfl (cellsNew x.len hl1 hlen) ?_
 rintro v L' ⟨mp, rfl, rfl⟩
 refine go ?_
 refine Sx.ca rfl (chainNew (mp := mp) (m := zeroM x) hx (by omega)) ?_
 rintro v L' ⟨ch, pb, rfl, rfl⟩
 refine go ?_
 refine Sx.ca rfl (rootsNew (mp := mp) (m := zeroM x) hx (by omega)) ?_
 rintro v L' ⟨ro, sp, rfl, rfl⟩
 refine go ?_
 refine Sx.ca rfl (grantNew (mp := mp) (m := zeroM x) hx (by omega)) ?_
 rintro v L' ⟨g, rfl, rfl⟩
 refine go ?_
 refine Sx.ca rfl (chainPool (g := ch) (mp := mp) (sb := pb) (x := x)) ?_
 rintro v L' ⟨rfl, rfl⟩
 refine go ?_
 refine Sx.ca rfl (chainFill (g := ch) (mp := mp) (sb := pb) (x := x) (m := zeroM x) (hx.pool (by omega) (by omega))) ?_
 rintro v L' rfl
 refine go ?_
 refine Sx.ca rfl (rootsFill (g := ro) (mp := mp) (sb := sp) (x := x) (m := fillM x.pool (zeroM x)) hx (by rw [fillM_len]; omega)) ?_
 rintro v L' rfl
 rw [hzr]
 refine go ?_
 refine Cx.ordc rfl kr_ ?_
 refine ge ?_
 refine Ev.cakH kr_ rfl rfl (chainPool (g := ch) (mp := mp) (sb := pb) (x := x)) ?_
 refine ge ?_
 refine Ev.caH kr_ rfl rfl (refWNew hx) (.dep rfl (.dep rfl (.keep (fun v L' ⟨_, _, _, _, _, _, e⟩ => by subst e; exact Has.blk) .nil))) ?_
 rintro v L' ⟨w, rm, rp, rs, re, rfl, rfl⟩
 refine ge ?_
 refine Ev.bxH kr_ rfl rfl rfl (Pres.deps kr_) fun a => ?_
 refine ge ?_
 refine go ?_
 refine Cx.lp (α := {p : Nat × (Nat → Who) × (Option Addr × Nat) × (Option Addr × Nat) // p.1 ≤ 3})
  (fun p => [(1, .pointer (some ⟨g0, 0, none⟩)), (3, .pointer (some ⟨mp, 0, none⟩)), (11, .pointer (some ⟨a, 0, none⟩)), (12, .int .i64 (p.1.1 : Nat))])
  (fun p => pt (some ⟨g0, 0, none⟩) (Blk 24 x.l) :: grF x ⟨a, mp, ro, sp, g, pb, w, rm, rp, rs, re⟩ p.1.2.2.1.1 p.1.2.2.2.1 p.1.1 p.1.2.2.1.2 p.1.2.2.2.2 p.1.2.1 (fun _ => SupS.nil x.ca) (fun _ => SupS.nil x.ca) (allM x) (allM x) L)
  (fun p => 3 - p.1.1) ⟨(0, fun _ => ⟨0, 0, 0⟩, (none, 0), (none, 0)), Nat.zero_le _⟩ (sub.cons rfl (sub.cons rfl (sub.cons rfl (sub.cons rfl sub.nil)))) ?_ ?_
 ·dsimp only [grF]
  rw [many_zero]
  refine Ent.trans (Ent.take (a := some ⟨g0, 0, none⟩)) (Ent.cons ?_)
  refine Ent.trans (Ent.take (a := some ⟨a, 0, none⟩)) (Ent.cons ?_)
  refine Ent.trans (Ent.rownil 81 1) (Ent.trans (Ent.rownil 47 1) (Ent.cons (Ent.cons ?_)))
  simp only [List.nil_append]
  rw [show allM x = fillM x.spare (fillM x.pool (zeroM x)) from rfl]
  exact ent
 rintro ⟨⟨j, Q, ⟨r, c⟩, ⟨r2, c2⟩⟩, hj⟩
 dsimp only [grF] at hj ⊢
 refine go ?_
 refine Cx.ifp rfl (fun h => ?_) (fun h => ?_)
 ·refine go ?_
  refine Sx.ca rfl (supNew (mp := mp) (m := allM x) hx (by omega)) ?_
  rintro v L' ⟨u, pb2, rfl, rfl⟩
  refine go ?_
  refine Sx.bs (sz := 1) rfl rfl fun q => ?_
  refine Sx.ap (ra := r) rfl rfl (Rd.row (b := q) (E := 47) (cap := 1) rfl) rfl (by simp [maxLen]; omega) (by omega) fun r' c' hc => ?_
  refine go ?_
  refine Cx.orde rfl kr_ ?_
  refine ge ?_
  refine Ev.caH kr_ rfl rfl (refSupply (w := w) (rm := rm) (rp := rp) (rs := rs) (re := re) (x := x)) (.dep rfl (.keep (fun v L' ⟨_, _, _, _, e⟩ => by subst e; exact Has.cell rfl) .nil)) ?_
  rintro v L' ⟨s, st, lm, rfl, rfl⟩
  refine ge ?_
  refine Ev.bsH (sz := 1) kr_ rfl rfl rfl (.dep rfl (.keep (fun v L' ⟨_, _, e⟩ => by subst e; exact Has.cell rfl) .nil)) fun q2 => ?_
  refine ge ?_
  refine Ev.apH (ra := r2) kr_ rfl rfl rfl (Rd.row (b := q2) (E := 81) (cap := 1) rfl) rfl (by simp [maxLen]; omega) (by omega) (Pres.deps kr_) fun r2' c2' hc2 hk2 => ?_
  refine ge ?_
  refine Ev.stbH (b := a) kr_ rfl rfl rfl rfl rfl (by rfl) rfl (Pres.deps kr_) ?_
  refine ge ?_
  refine go ?_
  rw [w64 (n := (j : Int) + 1) (by omega) (by omega)]
  refine Klp.nm ⟨(j + 1, updQ Q j ⟨u, pb2, s⟩, (r', c'), (r2', c2')), by dsimp only; omega⟩ (sub.cons rfl (sub.cons rfl (sub.cons rfl (sub.cons rfl sub.nil)))) ?_ (by dsimp only; omega)
  have eu : ptrs j (fun i => (updQ Q j ⟨u, pb2, s⟩ i).u) = ptrs j fun i => (Q i).u := ptrs_congr fun i hi => by simp [updQ, show i ≠ j by omega]
  have es : ptrs j (fun i => (updQ Q j ⟨u, pb2, s⟩ i).s) = ptrs j fun i => (Q i).s := ptrs_congr fun i hi => by simp [updQ, show i ≠ j by omega]
  have em : many j (fun i => whoL mp w x (updQ Q j ⟨u, pb2, s⟩ i) (SupS.nil x.ca) (SupS.nil x.ca)) = many j fun i => whoL mp w x (Q i) (SupS.nil x.ca) (SupS.nil x.ca) := many_congr fun i hi => by simp [updQ, show i ≠ j by omega]
  dsimp only [grF]
  rw [ptrs_succ, ptrs_succ, many_succ, eu, es, em]
  simp only [updQ, if_true, List.append_assoc]
  refine Ent.trans (Ent.take (a := some ⟨g0, 0, none⟩)) (Ent.cons ?_)
  refine Ent.trans (RSupO.close (a := some ⟨s, 0, none⟩) (st := st) (lm := lm) (w := w) (SupS.nil x.ca) rfl rfl rfl) ?_
  iterate 13 (refine Ent.take1 ?_)
  refine Ent.trans ?_ (Ent.deep (N := whoL mp w x ⟨u, pb2, s⟩ (SupS.nil x.ca) (SupS.nil x.ca)))
  simp only [whoL, List.cons_append, List.nil_append]
  exact ent
 ·obtain rfl : j = 3 := by omega
  refine Cx.rowkey (a := r) fun _ _ _ hk1 => ?_
  refine Cx.rowkey (a := r2) fun _ _ _ hk2 => ?_
  obtain ⟨ra, rfl⟩ : ∃ g, r = some ⟨g, 0, none⟩ := by
   rcases hk1 with h | h
   ·omega
   ·exact h
  obtain ⟨rb, rfl⟩ : ∃ g, r2 = some ⟨g, 0, none⟩ := by
   rcases hk2 with h | h
   ·omega
   ·exact h
  refine go ?_
  exact Kr.one (.inr rfl) rfl Ent.drop ⟨⟨a, mp, ro, sp, g, pb, w, rm, rp, rs, re⟩, ra, rb, c, c2, Q, rfl, rfl⟩
end
end Go.Proofs.YtflalhdofhobmaaGreat


namespace Go.Proofs.YtflalhdofhobmaaGreat
def clrM (m : Mm) (a : Nat) : Nat → Mm
 | 0 => m
 | i + 1 => (clrM m a i).put (a + i) 0
theorem clrM_len (m : Mm) (a : Nat) : ∀ i, (clrM m a i).ws.length = m.ws.length
 | 0 => rfl
 | i + 1 => by show ((clrM m a i).put (a + i) 0).ws.length = _; rw [Mm.len_put]; exact clrM_len m a i
theorem clrM_ok {m : Mm} (h : m.ok) (a : Nat) : ∀ i, (clrM m a i).ok
 | 0 => h
 | i + 1 => Mm.ok_put (clrM_ok h a i) (by omega)
theorem clrM_at {m : Mm} {a : Nat} : ∀ {i : Nat}, a + i ≤ m.ws.length → ∀ b, (clrM m a i).at_ b = if a ≤ b ∧ b < a + i then 0 else m.at_ b
 | 0, _, b => by rw [if_neg (by omega)]; rfl
 | i + 1, h, b => by
   show ((clrM m a i).put (a + i) 0).at_ b = _
   rw [Mm.at_put _ (by rw [clrM_len]; omega), clrM_at (by omega) b]
   by_cases h1 : a + i = b
   ·rw [if_pos h1, if_pos (by omega)]
   ·rw [if_neg h1]
    by_cases h2 : a ≤ b ∧ b < a + i
    ·rw [if_pos h2, if_pos (by omega)]
    ·rw [if_neg h2, if_neg (by omega)]
section
variable {x : Cn} {slot : Nat} {gen : Int} {n : Nat} {m : Mm} {S : SupS}
def TakeS.ask1 : TakeS := ⟨1, 0, false, -1, PopS.init 1, false⟩
theorem takeInit_ask (hba : x.ba = 1) (hxs : S.xs = []) (hlm : S.lm.size = 0) : takeInit x.ba S = (S, TakeS.ask1) := by
 unfold takeInit keepT
 rw [if_pos hxs]
 dsimp only
 rw [if_neg (by omega), hba]
 rfl
theorem al_first (hba : x.ba = 1) (hxs : S.xs = []) (hlm : S.lm.size = 0) (hlv : (rtOf (m.at_ (x.root + slot))).live gen) (need : Nat) (hneed : roundS (rtOf (m.at_ (x.root + slot))).cl n = need) (hf : ¬ (2 ≤ (rtOf (m.at_ (x.root + slot))).mrk ∧ fitsS x.wd (rtOf (m.at_ (x.root + slot))).off need)) :
  alIt (x.al slot gen n) 1 (alR m S) = (m.tick, S, ⟨2, ⟨1, -1, 0, true, false, need, 0, m.at_ (x.root + slot), 0, Hd.zero⟩, TakeS.ask1, gNone, false⟩) := by
 show (m.tick, alSeen (x.al slot gen n) S { AlV.init with cnt := 1, was := m.at_ (x.root + slot) } TakeS.zero) = _
 unfold alSeen
 rw [if_pos hlv]
 dsimp only
 rw [hneed, if_neg hf, if_neg (by show ¬ (0 : Int) ≤ -1; omega), if_neg (by show ¬ false = true; decide), takeInit_ask hba hxs hlm, if_neg (by show ¬ false = true; decide)]
 rfl
theorem al_none (hx : x.ok) (hl : m.ws.length = x.len) (hm : m.ok) (hsl : slot < x.sl) (hk : (rtOf (m.at_ (x.root + slot))).ok) (hs : S.xs.length + S.lm.size ≤ 1000) (hm0 : 0 ≤ S.most) (hm2 : S.most ≤ 64) (hba : x.ba = 1) (hxs : S.xs = []) (hlm : S.lm.size = 0)
  (hlv : (rtOf (m.at_ (x.root + slot))).live gen) (need : Nat) (hneed : roundS (rtOf (m.at_ (x.root + slot))).cl n = need) (hf : ¬ (2 ≤ (rtOf (m.at_ (x.root + slot))).mrk ∧ fitsS x.wd (rtOf (m.at_ (x.root + slot))).off need)) (hp : Pool x.pool m []) :
  ∃ t, alIt (x.al slot gen n) 3 (alR m S) = (m.tick.tick.tick, S, ⟨6, ⟨3, -1, 0, true, true, need, 3, m.at_ (x.root + slot), 6, Hd.zero⟩, t, PushS.init [], true⟩) ∧ AlRun x (x.al slot gen n) (alR m S) 3 := by
 have hwl := Mm.at_lt hm (x.root + slot)
 have e1 := al_first (x := x) (slot := slot) (gen := gen) (n := n) (m := m) (S := S) hba hxs hlm hlv need hneed hf
 obtain ⟨W, hW⟩ : ∃ W, m.at_ (x.root + slot) = W := ⟨_, rfl⟩
 have hk' := hk
 rw [hW] at hk hlv hneed hf hwl e1 ⊢
 have hx0 : (S.xs.length : Int) ≤ S.most := by rw [hxs]; exact hm0
 obtain ⟨Q, hQ⟩ : ∃ Q : PopS, Q = ⟨min (max 1 1) 8, 0, 0, m.tick.at_ x.pool.head, [], true⟩ := ⟨_, rfl⟩
 have hps : popStep x.pool m.tick (PopS.init 1) = (Q, m.tick.tick) := by
  have hp1 : Pool x.pool m.tick [] := ⟨hp.c.congr fun _ _ => rfl, hp.nd⟩
  rw [pop_none hp1 1, hQ]
 have hts : takeStep x.pool x.ba m.tick S TakeS.ask1 = (m.tick.tick, S, ⟨1, 0, false, -1, Q, true⟩) := by
  unfold takeStep TakeS.ask1
  simp only [Bool.false_eq_true, if_false]
  rw [hps]
  dsimp only
  rw [if_pos (by rw [hQ])]
  unfold popped
  rw [show (Q.got : List Int) = [] by rw [hQ]]
 have e2 : alIt (x.al slot gen n) 2 (alR m S) = (m.tick.tick, S, ⟨0, ⟨2, -1, 0, true, false, need, 0, W, 0, Hd.zero⟩, ⟨1, 0, false, -1, Q, true⟩, gNone, false⟩) := by
  show alStep (x.al slot gen n) (alIt (x.al slot gen n) 1 (alR m S)).1 (alIt (x.al slot gen n) 1 (alR m S)).2.1 (alIt (x.al slot gen n) 1 (alR m S)).2.2 = _
  rw [e1]
  unfold alStep
  simp only [Bool.false_eq_true, if_false]
  rw [hts]
  rfl
 have e3 : alIt (x.al slot gen n) 3 (alR m S) = (m.tick.tick.tick, S, ⟨6, ⟨3, -1, 0, true, true, need, 3, W, 6, Hd.zero⟩, ⟨1, 0, false, -1, Q, true⟩, PushS.init [], true⟩) := by
  show alStep (x.al slot gen n) (alIt (x.al slot gen n) 2 (alR m S)).1 (alIt (x.al slot gen n) 2 (alR m S)).2.1 (alIt (x.al slot gen n) 2 (alR m S)).2.2 = _
  rw [e2]
  unfold alStep
  simp only [Bool.false_eq_true, if_false]
  rw [show m.tick.tick.at_ (x.root + slot) = W from hW]
  unfold alSeen
  rw [if_pos hlv]
  dsimp only
  rw [hneed, if_neg hf, if_neg (by omega), if_pos rfl, alClose_none rfl hx0]
 refine ⟨_, e3, fun j hj => ?_, fun j hj => ?_, by rw [e3]⟩
 ·rcases (show j = 0 ∨ j = 1 ∨ j = 2 ∨ j = 3 by omega) with rfl | rfl | rfl | rfl
  ·exact good0 hl hm hk' hs hm0 hm2
  ·rw [e1]
   exact ⟨hl, hm, hk', hs, hm0, hm2, fun _ => ⟨by show 2 ≤ 6; omega, by show 1 ≤ 1000000; omega, by show (-1 : Int) ≤ -1; omega, by show (-1 : Int) < x.c; omega, hk, (fun h => by cases h), (fun h => by cases h), (fun h => by rcases h with h | h | h <;> cases h), (fun h => by cases h), fun _ => ⟨by show 1 ≤ 1; omega, fun _ => ⟨rfl, rfl⟩⟩⟩⟩
  ·rw [e2]
   exact ⟨hl, hm, hk', hs, hm0, hm2, fun _ => ⟨by show 0 ≤ 6; omega, by show 2 ≤ 1000000; omega, by show (-1 : Int) ≤ -1; omega, by show (-1 : Int) < x.c; omega, hk, (fun h => by cases h), (fun h => by cases h), (fun h => by rcases h with h | h | h <;> cases h), (fun h => by cases h), (fun h => by cases h)⟩⟩
  ·rw [e3]
   exact ⟨hl, hm, hk', hs, hm0, hm2, fun h => (by cases h)⟩
 ·rcases (show j = 0 ∨ j = 1 ∨ j = 2 by omega) with rfl | rfl | rfl
  ·rfl
  ·rw [e1]
  ·rw [e2]
end
end Go.Proofs.YtflalhdofhobmaaGreat


namespace Go.Proofs.YtflalhdofhobmaaGreat
section
variable {x : Cn} {slot : Nat} {gen : Int} {n : Nat} {m : Mm} {S : SupS}
theorem ok_mid {a need cnt was : Nat} {hand : Int} {zat : Nat} {t : TakeS} (ha : a = 3 ∨ a = 4 ∨ a = 5) (hc : cnt ≤ 1000000) (h1 : 0 ≤ hand) (h2 : hand < x.c) (hr : (rtOf was).ok) (hn1 : 1 ≤ need) (hn2 : need ≤ x.wd) (hz : a = 3 → zat < x.wd) :
  AlOk x ⟨a, ⟨cnt, hand, zat, true, false, need, 0, was, 0, Hd.zero⟩, t, gNone, false⟩ :=
 ⟨by show a ≤ 6; omega, hc, by show -1 ≤ hand; omega, h2, hr, fun h => absurd (show a = 1 from h) (by omega), fun _ => ⟨hn1, hn2⟩, fun _ => h1, hz, fun h => absurd (show a = 2 from h) (by omega)⟩
set_option maxHeartbeats 1000000 in
theorem al_new (hx : x.ok) (hl : m.ws.length = x.len) (hm : m.ok) (hsl : slot < x.sl) (hk : (rtOf (m.at_ (x.root + slot))).ok) (hs : S.xs.length + S.lm.size ≤ 1000) (hm0 : 0 ≤ S.most) (hm2 : S.most ≤ 64) (hba : x.ba = 1) (hxs : S.xs = []) (hlm : S.lm.size = 0) (hw8 : x.wd % 8 = 0) (hn : 1 ≤ n) (hnw : n ≤ x.wd)
  (hlv : (rtOf (m.at_ (x.root + slot))).live gen) (need : Nat) (hneed : roundS (rtOf (m.at_ (x.root + slot))).cl n = need) (hf : ¬ (2 ≤ (rtOf (m.at_ (x.root + slot))).mrk ∧ fitsS x.wd (rtOf (m.at_ (x.root + slot))).off need)) (y : Nat) (l : List Int) (hp : Pool x.pool m ((y : Int) :: l)) :
  ∃ M t, alIt (x.al slot gen n) (x.wd + 6) (alR m S) = (M, S, ⟨6, ⟨x.wd + 6, -1, x.wd, true, true, need, x.wd + 6, m.at_ (x.root + slot), 0, ⟨slot, gen, y, 0, n⟩⟩, t, PushS.init [], true⟩) ∧ AlRun x (x.al slot gen n) (alR m S) (x.wd + 6) ∧
   M.ws.length = x.len ∧ M.ok ∧ Pool x.pool M l ∧ M.at_ (x.root + slot) = Rt.w ⟨(rtOf (m.at_ (x.root + slot))).gen, 2 + y, (rtOf (m.at_ (x.root + slot))).cl, afterS x.wd need⟩ ∧
   (∀ a, a ≠ 0 → a ≠ x.link + y → a ≠ x.root + slot → ¬ (x.word + y * x.wd ≤ a ∧ a < x.word + y * x.wd + x.wd) → M.at_ a = m.at_ a) ∧ (∀ a, x.word + y * x.wd ≤ a → a < x.word + y * x.wd + x.wd → M.at_ a = 0) ∧
   (∀ j, j < 4 → (alIt (x.al slot gen n) j (alR m S)).2.2.v.hand = -1 ∧ (alIt (x.al slot gen n) j (alR m S)).2.1 = S ∧ Pool x.pool (alIt (x.al slot gen n) j (alR m S)).1 ((y : Int) :: l)) ∧
   (∀ j, 4 ≤ j → j < x.wd + 6 → (alIt (x.al slot gen n) j (alR m S)).2.2.v.hand = y ∧ (alIt (x.al slot gen n) j (alR m S)).2.1 = S ∧ Pool x.pool (alIt (x.al slot gen n) j (alR m S)).1 l) ∧
   (∀ j, j < x.wd + 6 → (alIt (x.al slot gen n) j (alR m S)).1.at_ (x.root + slot) = m.at_ (x.root + slot)) ∧
   (∀ j, 1 ≤ j → j < 4 → (alIt (x.al slot gen n) j (alR m S)).2.2.at_ = 2 ∧ (alIt (x.al slot gen n) j (alR m S)).2.2.t.at_ = 1 ∧ (alIt (x.al slot gen n) j (alR m S)).2.2.t.q.ok x.pool) ∧
   (∀ j, 4 ≤ j → j < x.wd + 5 → (alIt (x.al slot gen n) j (alR m S)).2.2.at_ = 3 ∨ (alIt (x.al slot gen n) j (alR m S)).2.2.at_ = 4) ∧
   (∃ T, (alIt (x.al slot gen n) (x.wd + 5) (alR m S)).2.2 = ⟨5, ⟨x.wd + 5, y, x.wd, true, false, need, 0, m.at_ (x.root + slot), 0, Hd.zero⟩, T, gNone, false⟩) ∧
   (∀ j, j < x.wd + 6 → RefOk x.pool (alIt (x.al slot gen n) j (alR m S)).2.2 ∧ (alIt (x.al slot gen n) j (alR m S)).2.1 = S) ∧ M.at_ (x.link + y) = ((rtOf (m.at_ (x.root + slot))).chunk + 1).toNat := by
 have hlen := hx.len_le
 obtain ⟨b1, b2, b3, b4, b5, b6, b7⟩ := show MayC (x.w : Int) x.c x.wd x.sl x.ca x.ba from hx
 have hpk := hx.pool (n := m.ws.length) (by omega) (by omega)
 obtain ⟨_, hy0, hy1, hpc⟩ := hp.c
 have hyc : y < x.c := by have : (y : Int) < x.c := hy1; omega
 have hwl := Mm.at_lt hm (x.root + slot)
 have hwd : x.word + y * x.wd + x.wd ≤ x.len := by
  have := word_lt (x := x) (k := y) (j := x.wd - 1) hyc (by omega); omega
 have g1 : x.root + x.sl ≤ x.link := by unfold Cn.root Cn.link; omega
 have g2 : x.link + x.c = x.word := by unfold Cn.link Cn.word; omega
 have g3 : 3 ≤ x.root := by unfold Cn.root; omega
 have e1 := al_first (x := x) (slot := slot) (gen := gen) (n := n) (m := m) (S := S) hba hxs hlm hlv need hneed hf
 have hcl := hk.c
 obtain ⟨W, hW⟩ : ∃ W, m.at_ (x.root + slot) = W := ⟨_, rfl⟩
 have hk' := hk
 rw [hW] at hk hlv hneed hf hwl e1 hcl ⊢
 have hn1 : 1 ≤ need := by have := roundS_ge (cl := (rtOf W).cl) (n := n) hcl; omega
 have hn2 : need ≤ x.wd := by rw [← hneed]; exact roundS_le hcl hnw hw8
 have hx0 : (S.xs.length : Int) ≤ S.most := by rw [hxs]; exact hm0
 -- the Pop
 have hp1 : Pool x.pool m.tick ((y : Int) :: l) := ⟨hp.c.congr fun _ _ => rfl, hp.nd⟩
 obtain ⟨m1, p1, n1, l1, po1, a1, d1⟩ := pop_alone (k := x.pool) (m := m.tick) (len := m.ws.length) hpk rfl hp1 1 (by omega) (by omega) (by simp) 1 (by simp; omega)
 simp only [List.drop_succ_cons, List.drop_zero, List.take_succ_cons, List.take_zero] at p1 po1
 have hin : ∀ j, (popIt x.pool j (PopS.init 1, m.tick)).2.ok ∧ (popIt x.pool j (PopS.init 1, m.tick)).1.ok x.pool ∧ (popIt x.pool j (PopS.init 1, m.tick)).2.ws.length = m.ws.length := by
  intro j
  induction j with
  | zero => exact ⟨hm, PopS.ok_init hpk.n1 1, rfl⟩
  | succ j ih =>
    rw [popIt_succ]
    exact ⟨(popStep_mem hpk ih.1 ih.2.1).1, popStep_ok hpk ih.1 ih.2.1, (popStep_mem hpk ih.1 ih.2.1).2.trans ih.2.2⟩
 have hm1 : m1.ok := by have := (hin (1 + 2)).1; rw [p1] at this; exact this
 -- the first two of its accesses look only
 have hlook : ∀ j, j ≤ 2 → ∃ q : PopS, popIt x.pool j (PopS.init 1, m.tick) = (q, m.tick.add j) ∧ q.done = false := by
  intro j hj
  rcases (show j = 0 ∨ j = 1 ∨ j = 2 by omega) with rfl | rfl | rfl
  ·exact ⟨PopS.init 1, rfl, rfl⟩
  ·obtain ⟨u, hu⟩ := pop_links hp1 1 (by omega) (by omega) (by simp) 1 (by omega) (by omega) (by simp)
   exact ⟨_, hu, rfl⟩
  ·have hu := pop_cas hp1 1 (by omega) (by omega) (by simp) 1 (by simp; omega)
   exact ⟨_, hu, rfl⟩
 have e2 : ∀ j, j ≤ 2 → ∃ q : PopS, alIt (x.al slot gen n) (1 + j) (alR m S) = (m.tick.add j, S, ⟨2, ⟨1 + j, -1, 0, true, false, need, 0, W, 0, Hd.zero⟩, ⟨1, 0, false, -1, q, false⟩, gNone, false⟩) ∧ popIt x.pool j (PopS.init 1, m.tick) = (q, m.tick.add j) := by
  intro j
  induction j with
  | zero => intro _; exact ⟨PopS.init 1, e1, rfl⟩
  | succ j ih =>
    intro hj
    obtain ⟨q, h1, h2⟩ := ih (by omega)
    obtain ⟨q2, h3, h4⟩ := hlook (j + 1) hj
    have h5 := h3
    rw [popIt_succ, h2] at h5
    refine ⟨q2, ?_, h3⟩
    show alStep (x.al slot gen n) (alIt (x.al slot gen n) (1 + j) (alR m S)).1 (alIt (x.al slot gen n) (1 + j) (alR m S)).2.1 (alIt (x.al slot gen n) (1 + j) (alR m S)).2.2 = _
    rw [h1]
    have ht : takeStep x.pool x.ba (m.tick.add j) S ⟨1, 0, false, -1, q, false⟩ = (m.tick.add (j + 1), S, ⟨1, 0, false, -1, q2, false⟩) := by
     unfold takeStep
     simp only [Bool.false_eq_true, if_false]
     rw [h5]
     dsimp only
     rw [h4]
     rfl
    unfold alStep
    simp only [Bool.false_eq_true, if_false]
    rw [ht]
    rfl
 obtain ⟨q2, e3, h32⟩ := e2 2 (by omega)
 obtain ⟨Q, hQ⟩ : ∃ Q, Q = (popStep x.pool (m.tick.add 2) q2).1 := ⟨_, rfl⟩
 have p2 : popStep x.pool (m.tick.add 2) q2 = (⟨1, 0, l.headD (-1), m.tick.at_ x.pool.head, [(y : Int)], true⟩, m1) := by
  have := p1
  rw [show 1 + 2 = 2 + 1 from rfl, popIt_succ, h32] at this
  exact this
 obtain ⟨T, hT⟩ : ∃ T : TakeS, T = ⟨1, y, true, -1, ⟨1, 0, l.headD (-1), m.tick.at_ x.pool.head, [(y : Int)], true⟩, true⟩ := ⟨_, rfl⟩
 have e4 : alIt (x.al slot gen n) 4 (alR m S) = (m1, S, ⟨3, ⟨4, y, 0, true, false, need, 0, W, 0, Hd.zero⟩, T, gNone, false⟩) := by
  show alStep (x.al slot gen n) (alIt (x.al slot gen n) (1 + 2) (alR m S)).1 (alIt (x.al slot gen n) (1 + 2) (alR m S)).2.1 (alIt (x.al slot gen n) (1 + 2) (alR m S)).2.2 = _
  rw [e3]
  have ht : takeStep x.pool x.ba (m.tick.add 2) S ⟨1, 0, false, -1, q2, false⟩ = (m1, S, T) := by
   unfold takeStep
   simp only [Bool.false_eq_true, if_false]
   rw [p2]
   dsimp only
   unfold popped
   dsimp only
   rw [if_pos rfl, hT]
   have : S.give [] = S := by unfold SupS.give; rw [List.append_nil]
   rw [this]
  unfold alStep
  simp only [Bool.false_eq_true, if_false]
  rw [ht]
  dsimp only
  rw [show T.done = true by rw [hT], if_pos rfl]
  unfold alTaken
  rw [show T.is_ = true by rw [hT], if_pos rfl, show T.chunk = y by rw [hT]]
 have hwk : 1 ≤ x.wd := by omega
 have e5 : ∀ i, i ≤ x.wd → alIt (x.al slot gen n) (4 + i) (alR m S) = (clrM m1 (x.word + y * x.wd) i, S, ⟨if i < x.wd then 3 else 4, ⟨4 + i, y, i, true, false, need, 0, W, 0, Hd.zero⟩, T, gNone, false⟩) := by
  intro i
  induction i with
  | zero => intro _; rw [if_pos (by omega)]; exact e4
  | succ i ih =>
    intro hi
    show alStep (x.al slot gen n) (alIt (x.al slot gen n) (4 + i) (alR m S)).1 (alIt (x.al slot gen n) (4 + i) (alR m S)).2.1 (alIt (x.al slot gen n) (4 + i) (alR m S)).2.2 = _
    rw [ih (by omega), if_pos (by omega)]
    unfold alStep
    simp only [Bool.false_eq_true, if_false, Int.toNat_natCast]
    rfl
 have e6 : alIt (x.al slot gen n) (x.wd + 5) (alR m S) = ((clrM m1 (x.word + y * x.wd) x.wd).put (x.link + y) ((rtOf W).chunk + 1).toNat, S, ⟨5, ⟨x.wd + 5, y, x.wd, true, false, need, 0, W, 0, Hd.zero⟩, T, gNone, false⟩) := by
  have := e5 x.wd (Nat.le_refl _)
  rw [if_neg (by omega)] at this
  show alStep (x.al slot gen n) (alIt (x.al slot gen n) (x.wd + 4) (alR m S)).1 (alIt (x.al slot gen n) (x.wd + 4) (alR m S)).2.1 (alIt (x.al slot gen n) (x.wd + 4) (alR m S)).2.2 = _
  rw [show x.wd + 4 = 4 + x.wd by omega, this]
  unfold alStep
  simp only [Bool.false_eq_true, if_false, Int.toNat_natCast]
  rw [show 4 + x.wd + 1 = x.wd + 5 by omega]
  rfl
 have hl1 : m1.ws.length = x.len := l1.trans hl
 have hlc : ∀ i, (clrM m1 (x.word + y * x.wd) i).ws.length = x.len := fun i => (clrM_len _ _ _).trans hl1
 have hcat : ∀ i, i ≤ x.wd → ∀ a, (clrM m1 (x.word + y * x.wd) i).at_ a = if x.word + y * x.wd ≤ a ∧ a < x.word + y * x.wd + i then 0 else m1.at_ a := fun i hi a => clrM_at (by omega) a
 obtain ⟨v5, hv5⟩ : ∃ v5, v5 = ((rtOf W).chunk + 1).toNat := ⟨_, rfl⟩
 have hv5l : v5 < 18446744073709551616 := by
  have := Rt.chunk_lt (rtOf_mrk W); have := (rtOf W).chunk_ge; omega
 rw [← hv5] at e6
 have hat5 : ∀ a, ((clrM m1 (x.word + y * x.wd) x.wd).put (x.link + y) v5).at_ a = if x.link + y = a then v5 else if x.word + y * x.wd ≤ a ∧ a < x.word + y * x.wd + x.wd then 0 else m1.at_ a := fun a => by
  rw [Mm.at_put _ (by rw [hlc]; omega), hcat _ (Nat.le_refl _)]
 obtain ⟨m5, hm5⟩ : ∃ m5, m5 = (clrM m1 (x.word + y * x.wd) x.wd).put (x.link + y) v5 := ⟨_, rfl⟩
 rw [← hm5] at e6 hat5
 have hl5 : m5.ws.length = x.len := by rw [hm5, Mm.len_put]; exact hlc _
 have hok5 : m5.ok := by rw [hm5]; exact Mm.ok_put (clrM_ok hm1 _ _) hv5l
 have hr1 : m1.at_ (x.root + slot) = W := by rw [a1 _ (by show x.root + slot ≠ 0; omega)]; exact hW
 have hr5 : m5.at_ (x.root + slot) = W := by rw [hat5, if_neg (by omega), if_neg (by omega), hr1]
 have hR : Rt.ok ⟨(rtOf W).gen, 2 + y, (rtOf W).cl, afterS x.wd need⟩ := ⟨hk.g, by show 2 + y ≤ 4097; omega, hk.c, by have := afterS_le hn2; show afterS x.wd need ≤ 1024; omega⟩
 have e7 : alIt (x.al slot gen n) (x.wd + 6) (alR m S) = (m5.put (x.root + slot) (Rt.w ⟨(rtOf W).gen, 2 + y, (rtOf W).cl, afterS x.wd need⟩), S, ⟨6, ⟨x.wd + 6, -1, x.wd, true, true, need, x.wd + 6, W, 0, ⟨slot, gen, y, 0, n⟩⟩, T, PushS.init [], true⟩) := by
  show alStep (x.al slot gen n) (alIt (x.al slot gen n) (x.wd + 5) (alR m S)).1 (alIt (x.al slot gen n) (x.wd + 5) (alR m S)).2.1 (alIt (x.al slot gen n) (x.wd + 5) (alR m S)).2.2 = _
  rw [e6]
  unfold alStep
  simp only [Bool.false_eq_true, if_false, Int.toNat_natCast]
  rw [if_pos hr5, alClose_none rfl hx0]
 -- the pool
 have hnl : ∀ z ∈ l, z ≠ (y : Int) := fun z hz e => by
  have := hp.nd
  rw [List.nodup_cons] at this
  exact this.1 (e ▸ hz)
 have pool1 : ∀ i, i ≤ x.wd → Pool x.pool (clrM m1 (x.word + y * x.wd) i) l := fun i hi => by
  refine ⟨?_, po1.nd⟩
  rw [hcat i hi, if_neg (by show ¬ (_ ≤ 0 ∧ 0 < _); omega)]
  refine po1.c.congr fun z hz => ?_
  have hz2 := po1.c.mem z hz
  have hz3 : z < x.c := hz2.2
  rw [hcat i hi, if_neg (by show ¬ (_ ≤ x.link + z.toNat ∧ _); omega)]
 have pool5 : Pool x.pool m5 l := by
  refine ⟨?_, po1.nd⟩
  rw [hat5, if_neg (by show ¬ x.link + y = 0; omega), if_neg (by show ¬ (_ ≤ 0 ∧ 0 < _); omega)]
  refine po1.c.congr fun z hz => ?_
  have hz2 := po1.c.mem z hz
  have hz3 : z < x.c := hz2.2
  have := hnl z hz
  rw [hat5, if_neg (by show ¬ x.link + y = x.link + z.toNat; omega), if_neg (by show ¬ (_ ≤ x.link + z.toNat ∧ _); omega)]
 have hput : ∀ a v, (m5.put (x.root + slot) v).at_ a = if x.root + slot = a then v else m5.at_ a := fun a v => Mm.at_put a (by omega)
 have poolM : Pool x.pool (m5.put (x.root + slot) (Rt.w ⟨(rtOf W).gen, 2 + y, (rtOf W).cl, afterS x.wd need⟩)) l := by
  refine ⟨?_, po1.nd⟩
  rw [hput, if_neg (by show ¬ x.root + slot = 0; omega)]
  refine pool5.c.congr fun z hz => ?_
  rw [hput, if_neg (by show ¬ x.root + slot = x.link + z.toNat; omega)]
 have hall : ∀ j, j < x.wd + 6 → (j = 0) ∨ (∃ i, i ≤ 2 ∧ j = 1 + i) ∨ (∃ i, i ≤ x.wd ∧ j = 4 + i) ∨ j = x.wd + 5 := fun j hj => by
  rcases (show j = 0 ∨ (1 ≤ j ∧ j ≤ 3) ∨ (4 ≤ j ∧ j ≤ 4 + x.wd) ∨ j = x.wd + 5 by omega) with h | h | h | h
  ·exact .inl h
  ·exact .inr (.inl ⟨j - 1, by omega, by omega⟩)
  ·exact .inr (.inr (.inl ⟨j - 4, by omega, by omega⟩))
  ·exact .inr (.inr (.inr h))
 have hwok : (rtOf W).ok := hk
 have hnd : ∀ j, j < x.wd + 6 → (alIt (x.al slot gen n) j (alR m S)).2.2.done = false := fun j hj => by
  rcases hall j hj with rfl | ⟨i, hi, rfl⟩ | ⟨i, hi, rfl⟩ | rfl
  ·rfl
  ·obtain ⟨q, h, _⟩ := e2 i hi; rw [h]
  ·rw [e5 i hi]
  ·rw [e6]
 have hroot : ∀ j, j < x.wd + 6 → (alIt (x.al slot gen n) j (alR m S)).1.at_ (x.root + slot) = W := fun j hj => by
  rcases hall j hj with rfl | ⟨i, hi, rfl⟩ | ⟨i, hi, rfl⟩ | rfl
  ·exact hW
  ·obtain ⟨q, h, _⟩ := e2 i hi; rw [h]; exact hW
  ·rw [e5 i hi]
   show (clrM m1 (x.word + y * x.wd) i).at_ _ = W
   rw [hcat i hi, if_neg (by omega), hr1]
  ·rw [e6]; exact hr5
 refine ⟨_, _, e7, ⟨fun j hj => ?_, hnd, by rw [e7]⟩, by rw [Mm.len_put]; exact hl5, Mm.ok_put hok5 (Rt.w_lt hR), poolM, by rw [hput, if_pos rfl], fun a h0 h1 h2 h3 => ?_, fun a h1 h2 => ?_, fun j hj => ?_, fun j hj1 hj2 => ?_, hroot, fun j hj1 hj2 => ?_, fun j hj1 hj2 => ?_, ⟨T, by rw [e6]⟩, fun j hj => ?_, by rw [hput, if_neg (by omega), hat5, if_pos rfl, hv5]⟩
 ·by_cases hj6 : j = x.wd + 6
  ·subst hj6
   rw [e7]
   refine ⟨by rw [Mm.len_put]; exact hl5, Mm.ok_put hok5 (Rt.w_lt hR), ?_, hs, hm0, hm2, fun h => (by cases h)⟩
   show (rtOf ((m5.put (x.root + slot) _).at_ (x.root + slot))).ok
   rw [hput, if_pos rfl, rtOf_w hR]; exact hR
  ·have hr := hroot j (by omega)
   rcases hall j (by omega) with rfl | ⟨i, hi, rfl⟩ | ⟨i, hi, rfl⟩ | rfl
   ·exact good0 hl hm hk' hs hm0 hm2
   ·obtain ⟨q, h, _⟩ := e2 i hi
    rw [h] at hr ⊢
    refine ⟨hl, hm, by show (rtOf ((m.tick.add i).at_ _)).ok; rw [hr]; exact hk, hs, hm0, hm2, fun _ => ⟨by show 2 ≤ 6; omega, by show 1 + i ≤ 1000000; omega, by show (-1 : Int) ≤ -1; omega, by show (-1 : Int) < x.c; omega, hk, (fun h => by cases h), (fun h => by cases h), (fun h => by rcases h with h | h | h <;> cases h), (fun h => by cases h), fun _ => ⟨by show 1 ≤ 1; omega, fun _ => ⟨rfl, rfl⟩⟩⟩⟩
   ·rw [e5 i hi] at hr ⊢
    refine ⟨hlc i, clrM_ok hm1 _ _, by show (rtOf ((clrM m1 (x.word + y * x.wd) i).at_ _)).ok; rw [hr]; exact hk, hs, hm0, hm2, fun _ => ok_mid (by split <;> omega) (by omega) (by omega) (by omega) hk hn1 hn2 (fun h => by split at h <;> omega)⟩
   ·rw [e6] at hr ⊢
    refine ⟨hl5, hok5, by show (rtOf (m5.at_ _)).ok; rw [hr]; exact hk, hs, hm0, hm2, fun _ => ok_mid (by omega) (by omega) (by omega) (by omega) hk hn1 hn2 (fun h => by omega)⟩
 ·rw [hput, if_neg (fun h => h2 h.symm), hat5, if_neg (fun h => h1 h.symm), if_neg h3]
  exact a1 a h0
 ·rw [hput, if_neg (by omega), hat5, if_neg (by omega), if_pos ⟨h1, h2⟩]
 ·rcases (show j = 0 ∨ 1 ≤ j by omega) with rfl | h1
  ·exact ⟨rfl, rfl, hp⟩
  ·obtain ⟨q, h, _⟩ := e2 (j - 1) (by omega)
   rw [show 1 + (j - 1) = j by omega] at h
   rw [h]
   exact ⟨rfl, rfl, ⟨hp.c.congr fun _ _ => rfl, hp.nd⟩⟩
 ·rcases hall j hj2 with h0 | ⟨i, hi, h0⟩ | ⟨i, hi, rfl⟩ | rfl
  ·omega
  ·omega
  ·rw [e5 i hi]; exact ⟨rfl, rfl, pool1 i hi⟩
  ·rw [e6]; exact ⟨rfl, rfl, pool5⟩
 ·obtain ⟨q, h, h2⟩ := e2 (j - 1) (by omega)
  rw [show 1 + (j - 1) = j by omega] at h
  rw [h]
  refine ⟨rfl, rfl, ?_⟩
  have := (hin (j - 1)).2.1
  rw [h2] at this
  exact this
 ·have h := e5 (j - 4) (by omega)
  rw [show 4 + (j - 4) = j by omega] at h
  rw [h]
  show (if j - 4 < x.wd then 3 else 4) = 3 ∨ (if j - 4 < x.wd then 3 else 4) = 4
  split
  ·exact .inl rfl
  ·exact .inr rfl
 ·rcases hall j hj with rfl | ⟨i, hi, rfl⟩ | ⟨i, hi, rfl⟩ | rfl
  ·exact ⟨⟨rfl, rfl, fun _ => rfl, fun _ => rfl, by show 0 ≤ 5; omega, (fun h => by cases h), (fun h => by cases h), (fun h => by cases h), by show 0 ≠ 1; omega, (fun h => by cases h)⟩, rfl⟩
  ·obtain ⟨q, h, h2⟩ := e2 i hi
   rw [h]
   refine ⟨⟨rfl, rfl, fun _ => rfl, fun _ => rfl, by show 2 ≤ 5; omega, fun _ => rfl, fun _ => ?_, fun _ => ⟨rfl, rfl⟩, by show 2 ≠ 1; omega, fun _ => rfl⟩, rfl⟩
   have := (hin i).2.1
   rw [h2] at this
   exact this
  ·rw [e5 i hi]
   refine ⟨⟨rfl, rfl, fun h => ?_, fun h => ?_, ?_, fun h => ?_, fun h => ?_, fun h => ?_, ?_, fun h => ?_⟩, rfl⟩
   ·have h' : (if i < x.wd then 3 else 4) ≤ 2 := h
    split at h' <;> omega
   ·have h' : (if i < x.wd then 3 else 4) ≤ 2 := h
    split at h' <;> omega
   ·show (if i < x.wd then 3 else 4) ≤ 5
    split <;> omega
   ·rfl
   ·have h' : (if i < x.wd then 3 else 4) = 2 := h
    split at h' <;> omega
   ·have h' : (if i < x.wd then 3 else 4) = 2 := h
    split at h' <;> omega
   ·show (if i < x.wd then 3 else 4) ≠ 1
    split <;> omega
   ·have h' : (if i < x.wd then 3 else 4) = 2 := h
    split at h' <;> omega
  ·rw [e6]
   exact ⟨⟨rfl, rfl, fun h => absurd (show 5 ≤ 2 from h) (by omega), fun h => absurd (show 5 ≤ 2 from h) (by omega), Nat.le_refl _, fun _ => rfl, fun h => absurd (show 5 = 2 from h) (by omega), fun h => absurd (show 5 = 2 from h) (by omega), by show 5 ≠ 1; omega, fun h => absurd (show 5 = 2 from h) (by omega)⟩, rfl⟩
end
end Go.Proofs.YtflalhdofhobmaaGreat


namespace Go.Proofs.YtflalhdofhobmaaGreat
open Go
attribute [local irreducible] Sx Cx Rx Fx Krg Ksq Kbl Klp Kr
theorem crStep_ok {k : Sk} {ro cl len : Nat} {m : Mm} {c : CreS} (hk : k.ok len) (hm : m.ok) (hcl : cl ≤ 3) (h : c.ok k) (hn : c.cnt + 1 ≤ 1000000) : (crStep k ro cl m c).1.ok k ∧ (crStep k ro cl m c).2.ok ∧ (crStep k ro cl m c).2.ws.length = m.ws.length ∧ (crStep k ro cl m c).1.cnt ≤ c.cnt + 1 := by
 obtain ⟨h1, h2, h3, h4, h5⟩ := h
 have hq := popStep_ok hk hm h2
 have hpm := popStep_mem hk hm h2
 unfold crStep
 split
 ·exact ⟨⟨h1, h2, h3, h4, h5⟩, hm, rfl, by show c.cnt ≤ c.cnt + 1; omega⟩
 ·split
  ·rename_i ha
   split
   ·unfold crPopped
    split
    ·exact ⟨⟨by show c.at_ ≤ 2; omega, hq, h3, fun h => absurd ha h, hn⟩, hpm.1, hpm.2, Nat.le_refl _⟩
    ·rename_i s l hg
     exact ⟨⟨by show 1 ≤ 2; omega, hq, h3, fun _ => hq.g s (by dsimp only at hg; rw [hg]; simp), hn⟩, hpm.1, hpm.2, Nat.le_refl _⟩
   ·exact ⟨⟨h1, hq, h3, fun h => absurd ha h, hn⟩, hpm.1, hpm.2, Nat.le_refl _⟩
  ·rename_i ha
   exact ⟨⟨by show 2 ≤ 2; omega, h2, Mm.at_lt hm _, fun _ => h4 (by omega), hn⟩, hm, rfl, Nat.le_refl _⟩
  ·rename_i ha _
   exact ⟨⟨h1, h2, h3, h4, hn⟩, Mm.ok_put hm (Rt.w_lt (nextRt_ok h3 hcl)), Mm.len_put, Nat.le_refl _⟩
theorem crIt_ok {k : Sk} {ro cl len : Nat} {m : Mm} (hk : k.ok len) (hm : m.ok) (hcl : cl ≤ 3) : ∀ j, j ≤ 100000 → (crIt k ro cl j (CreS.init, m)).1.ok k ∧ (crIt k ro cl j (CreS.init, m)).2.ok ∧ (crIt k ro cl j (CreS.init, m)).2.ws.length = m.ws.length ∧ (crIt k ro cl j (CreS.init, m)).1.cnt ≤ j
 | 0, _ => ⟨⟨by show 0 ≤ 2; omega, PopS.ok_init hk.n1 1, by show 0 < 18446744073709551616; omega, fun h => absurd rfl h, by show 0 ≤ 1000000; omega⟩, hm, rfl, Nat.le_refl _⟩
 | j + 1, hj => by
   obtain ⟨a, b, c, d⟩ := crIt_ok hk hm hcl j (by omega)
   have := crStep_ok (ro := ro) hk b hcl a (by omega)
   exact ⟨this.1, this.2.1, this.2.2.1.trans c, by have := this.2.2.2; show (crStep k ro cl (crIt k ro cl j (CreS.init, m)).2 (crIt k ro cl j (CreS.init, m)).1).1.cnt ≤ j + 1; omega⟩
section
variable {L F G : St}
abbrev rgF (x : Cn) (n : Hn) (r r2 : Option Addr) (k c c2 : Nat) (m : Mm) (G : St) : St :=
 pt (some ⟨n.a, 0, none⟩) (Blk 45 (grV x n r r2 k c c2)) :: pt (some ⟨n.mp, 0, none⟩) (MemO m) :: pt (some ⟨n.ro, 0, none⟩) (RoO n.mp n.sp x) :: pt (some ⟨n.sp, 0, none⟩) (SkO n.mp x.spare) ::
 pt (some ⟨n.rm, 0, none⟩) (RMemO m) :: pt (some ⟨n.w, 0, none⟩) (RWO x n.rm n.rp n.rs n.re) :: pt (some ⟨n.rs, 0, none⟩) (RSkO n.rm x.spare) :: G
set_option maxHeartbeats 4000000 in
theorem grRegion {x : Cn} {n : Hn} {r r2 : Option Addr} {k c c2 : Nat} {m : Mm} (cl : Nat) (hcl : cl ≤ 3) (hx : x.ok) (hl : m.ws.length = x.len) (hm : m.ok) {s : Nat} {l : List Int} (hp : Pool x.spare m ((s : Int) :: l)) :
  Fx Tryz.prog 25 [.pointer (some ⟨n.a, 0, none⟩), .int .i64 cl] (rgF x n r r2 k c c2 m G)
   (fun v L' => v = .tuple #[.int .i64 s, .int .i64 (laterT (rtOf (m.at_ (x.root + s))).gen : Nat), .bool true] ∧ L' = rgF x n r r2 k c c2 (crIt x.spare x.root cl 10 (CreS.init, m)).2 G) := by
 have hlen := hx.len_le
 have hk := hx.spare (n := m.ws.length) (by omega) (by omega)
 have hroot : x.root + x.sl = x.slot := by unfold Cn.root Cn.slot; omega
 obtain ⟨C, M, e10, hd, hcode, hslot, hat, hwas, _⟩ := cr_alone (k := x.spare) (ro := x.root) (cl := cl) (m := m) hk rfl hm hp (by show x.root + x.sl ≤ x.slot; omega) (by show 1 < x.root; unfold Cn.root; omega) hcl
 rw [Int.toNat_natCast] at hwas
 refine Fx.mk Tryz.func25 k25 nb_ ?_
 dsimp only [c25, envOf, Nat.reduceAdd]
 refine go ?_
 refine Cx.ordc rfl kr_ ?_
 refine ge ?_
 iterate 5 (refine Ev.bring 1 rfl ?_; refine ge ?_)
 refine Ev.caH kr_ rfl rfl (rootsCreate (g := n.ro) (mp := n.mp) (sb := n.sp) (x := x) cl hcl hx) (.keep (fun v L' ⟨_, _, e⟩ => by subst e; exact Has.cell rfl) (.dep rfl .nil)) ?_
 rintro v L' ⟨b, rfl, rfl⟩
 refine ge ?_
 refine Ev.caH kr_ rfl rfl (refCreate (w := n.w) (rm := n.rm) (rp := n.rp) (rs := n.rs) (re := n.re) (x := x) cl hcl) (Pres.deps kr_) ?_
 rintro v L' ⟨bb, rfl, rfl⟩
 refine ge ?_
 refine go ?_
 refine Cx.lp (α := {j : Nat // j ≤ 10}) (fun j => [(7, .pointer (some ⟨b, 0, none⟩)), (8, .pointer (some ⟨bb, 0, none⟩)), (9, .int .i64 j.1)])
  (fun j => pt (some ⟨b, 0, none⟩) (CreO n.ro n.sp x.spare cl (crIt x.spare x.root cl j.1 (CreS.init, m)).1) :: pt (some ⟨bb, 0, none⟩) (RCreO n.w n.rs cl (crIt x.spare x.root cl j.1 (CreS.init, m)).1) :: rgF x n r r2 k c c2 (crIt x.spare x.root cl j.1 (CreS.init, m)).2 G)
  (fun j => 10 - j.1) ⟨0, by omega⟩ (sub.cons rfl (sub.cons rfl (sub.cons rfl sub.nil))) ?_ ?_
 ·dsimp only [rgF, crIt]
  exact ent
 rintro ⟨j, hj⟩
 dsimp only [rgF]
 obtain ⟨k1, k2, k3, k4⟩ := crIt_ok (ro := x.root) (m := m) hk hm hcl j (by omega)
 refine go ?_
 refine Cx.ifp rfl (fun h => ?_) (fun h => ?_)
 ·refine go ?_
  refine Sx.ca rfl (crStepC (b := b) (r := n.ro) (mp := n.mp) (sp := n.sp) (x := x) (m := (crIt x.spare x.root cl j (CreS.init, m)).2) (cl := cl) (c := (crIt x.spare x.root cl j (CreS.init, m)).1) hx (by omega) hcl k1) ?_
  rintro v L' ⟨rfl, rfl⟩
  refine go ?_
  refine Sx.ca rfl (refCrStep (b := bb) (w := n.w) (rm := n.rm) (rp := n.rp) (rs := n.rs) (re := n.re) (x := x) (m := (crIt x.spare x.root cl j (CreS.init, m)).2) (cl := cl) (c := (crIt x.spare x.root cl j (CreS.init, m)).1) hx (by omega) hcl k1) ?_
  rintro v L' ⟨rfl, rfl⟩
  refine go ?_
  rw [w64 (n := (j : Int) + 1) (by omega) (by omega)]
  refine Klp.nm ⟨j + 1, by omega⟩ (sub.cons rfl (sub.cons rfl (sub.cons rfl sub.nil))) ?_ (by dsimp only; omega)
  dsimp only [rgF, crIt]
  refine Ent.trans (Ent.take (a := some ⟨b, 0, none⟩)) (Ent.cons ?_)
  exact ent
 ·obtain rfl : j = 10 := by omega
  rw [e10]
  dsimp only
  refine go ?_
  refine Sx.ca rfl (crRegion (b := b) (r := n.ro) (sp := n.sp) (k := x.spare) (cl := cl) (c := C) hd hat hcode) ?_
  rintro v L' ⟨rfl, rfl⟩
  rw [hslot, hwas]
  refine go ?_
  refine Cx.ent (Ent.take (a := some ⟨bb, 0, none⟩)) ?_
  refine Cx.openp (a := some ⟨bb, 0, none⟩) rfl ?_
  intro p
  have er : C.rslot = s := by unfold CreS.rslot; rw [if_neg (by omega), hslot]
  have eg : C.rgen = laterT (rtOf (m.at_ (x.root + s))).gen := by unfold CreS.rgen; rw [if_pos ⟨hd, hat⟩, hwas]
  simp only [rcrL, List.cons_append, List.nil_append, er, eg, hd, hcode]
  refine Cx.ordc rfl kr_ ?_
  refine ge ?_
  refine Ev.cakH kr_ rfl rfl (crDone (b := b) (r := n.ro) (sp := n.sp) (k := x.spare) (cl := cl) (c := C) hd) ?_
  refine ge ?_
  refine Ev.yes 43 rfl rfl ?_
  refine ge ?_
  refine Ev.yes 49 rfl rfl ?_
  refine ge ?_
  refine Ev.cakH kr_ rfl rfl (crCode (b := b) (r := n.ro) (sp := n.sp) (k := x.spare) (cl := cl) (c := C) hd) ?_
  rw [hcode]
  refine ge ?_
  refine Ev.yes 54 rfl rfl ?_
  refine ge ?_
  refine Ev.yes 61 rfl rfl ?_
  refine ge ?_
  refine Ev.yes 69 rfl (decide_eq_true rfl) ?_
  refine ge ?_
  refine go ?_
  refine Kr.three (.inr rfl) rfl rfl rfl ?_ ⟨by rw [decide_eq_true rfl], rfl⟩
  refine Ent.trans Ent.drop ?_
  exact ent
abbrev agF (x : Cn) (n : Hn) (r : Nat) (r2 : Option Addr) (k c c2 : Nat) (Q : Nat → Who) (i : Nat) (S : SupS) (m : Mm) (G : St) : St :=
 pt (some ⟨n.a, 0, none⟩) (Blk 45 (grV x n (some ⟨r, 0, none⟩) r2 k c c2)) :: pt (some ⟨r, 0, none⟩) (Row 47 1 k c (ptrs k fun i => (Q i).u)) :: pt (some ⟨(Q i).u, 0, none⟩) (SupO n.mp (Q i).pb x S) ::
 pt (some ⟨n.mp, 0, none⟩) (MemO m) :: pt (some ⟨(Q i).pb, 0, none⟩) (SkO n.mp x.pool) :: pt (some ⟨n.g, 0, none⟩) (GrO n.mp x) :: G
set_option maxHeartbeats 4000000 in
theorem grAlone {x : Cn} {n : Hn} {r : Nat} {r2 : Option Addr} {k c c2 : Nat} {Q : Nat → Who} {i : Nat} {S : SupS} {m : Mm} {slot : Nat} {gen : Int} {sz : Nat} (N : Nat) (hN : N < 4000) (hi : i < k) (hk : k ≤ 64) (hx : x.ok) (hs : slot < x.sl) (hn : 1 ≤ sz) (hn2 : sz ≤ x.wd) (hw8 : x.wd % 8 = 0) (hr : AlRun x (x.al slot gen sz) (alR m S) N) :
  Fx Tryz.prog 20 [.pointer (some ⟨n.a, 0, none⟩), .int .i64 i, .int .i64 slot, .int .i64 gen, .int .i64 sz] (agF x n r r2 k c c2 Q i S m G)
   (fun v L' => ∃ b, v = .tuple #[.pointer (some ⟨b, 0, none⟩), .int .i64 N] ∧ L' = pt (some ⟨b, 0, none⟩) (AlO n.g (Q i).u (Q i).pb x slot gen sz (alIt (x.al slot gen sz) N (alR m S)).2.2) ::
    agF x n r r2 k c c2 Q i (alIt (x.al slot gen sz) N (alR m S)).2.1 (alIt (x.al slot gen sz) N (alR m S)).1 G) := by
 obtain ⟨hgood, hnd, hd⟩ := hr
 refine Fx.mk Tryz.func20 k20 nb_ ?_
 dsimp only [c20, envOf, Nat.reduceAdd]
 refine go ?_
 refine Cx.ordc rfl kr_ ?_
 refine ge ?_
 refine Ev.ldrH (b := r) (v := .pointer (some ⟨(Q i).u, 0, none⟩)) kr_ rfl rfl (by rw [show 0 + (i : Int).toNat * 1 = i by omega]; exact ptrs_get (U := fun i => (Q i).u) hi) ?_
 refine ge ?_
 refine Ev.caH kr_ rfl rfl (grantAlloc (g := n.g) (u := (Q i).u) (mp := n.mp) (pb := (Q i).pb) (x := x) slot gen sz hs hn hn2) (Pres.deps kr_) ?_
 rintro v L' ⟨b, rfl, rfl⟩
 refine ge ?_
 refine go ?_
 refine Cx.lp (α := {j : Nat // j ≤ N}) (fun j => [(12, .pointer (some ⟨b, 0, none⟩)), (14, .int .i64 j.1), (15, .int .i64 j.1)])
  (fun j => pt (some ⟨b, 0, none⟩) (AlO n.g (Q i).u (Q i).pb x slot gen sz (alIt (x.al slot gen sz) j.1 (alR m S)).2.2) :: agF x n r r2 k c c2 Q i (alIt (x.al slot gen sz) j.1 (alR m S)).2.1 (alIt (x.al slot gen sz) j.1 (alR m S)).1 G)
  (fun j => N - j.1) ⟨0, by omega⟩ (sub.cons rfl (sub.cons rfl (sub.cons rfl sub.nil))) ?_ ?_
 ·dsimp only [agF, alIt]
  exact ent
 rintro ⟨j, hj⟩
 dsimp only [agF]
 obtain ⟨g1, g2, g3, g4, g5, g6, g7⟩ := hgood j hj
 repeat' (first|refine Zo0 rfl ?_|refine Zo1 ?_|refine Zo2 ?_|refine Zo3 ?_|refine Zo4 ?_|refine Zo5 ?_|refine Zo6 ?_|refine Zo7 ?_|refine Zo8 rfl ?_|refine Zo9 rfl ?_|refine Zoa ?_|refine Zob ?_|refine Zoc ?_|refine Zod ?_|refine Zoe ?_|refine Zof ?_|refine Zog ?_|refine Zoh ?_|refine Zom rfl (by rfl) ?_|refine Zon rfl rfl ?_|refine Zoo rfl rfl rfl rfl (by rfl) (by rfl) ?_|refine Zop rfl trivial ?_|refine Zoq rfl rfl rfl ?_)
 rw [decide_eq_true (show (j : Int) < 4000 by omega)]
 refine go ?_
 refine Sx.ca rfl (alStepC (b := b) (g := n.g) (u := (Q i).u) (mp := n.mp) (pb := (Q i).pb) (x := x) (slot := slot) (gen := gen) (n := sz) (S := (alIt (x.al slot gen sz) j (alR m S)).2.1) (m := (alIt (x.al slot gen sz) j (alR m S)).1) (a := (alIt (x.al slot gen sz) j (alR m S)).2.2) hx (by omega) hs hn hn2 hw8 g3 (by omega) g5 g6 g7) ?_
 rintro v L' ⟨rfl, rfl⟩
 by_cases hjn : j = N
 ·subst hjn
  have e : alStep (x.al slot gen sz) (alIt (x.al slot gen sz) j (alR m S)).1 (alIt (x.al slot gen sz) j (alR m S)).2.1 (alIt (x.al slot gen sz) j (alR m S)).2.2 = alIt (x.al slot gen sz) j (alR m S) := by
   unfold alStep; rw [if_pos hd]
  rw [hd, e]
  refine go ?_
  refine Kr.two (.inr rfl) rfl rfl ?_ ⟨b, rfl, rfl⟩
  exact ent
 ·rw [hnd j (by omega)]
  refine go ?_
  rw [w64 (n := (j : Int) + 1) (by omega) (by omega)]
  refine Klp.nm ⟨j + 1, by omega⟩ (sub.cons rfl (sub.cons rfl (sub.cons rfl sub.nil))) ?_ (by dsimp only; omega)
  dsimp only [agF, alIt]
  exact ent
theorem alDone {b g u pb : Nat} {x : Cn} {slot : Nat} {gen : Int} {n : Nat} {s : AlS} {F1 : St} (hd : s.done = true) [t1 : Take L (some ⟨b, 0, none⟩) (AlO g u pb x slot gen n s) F1] : Fx Tryz.prog 27 [.pointer (some ⟨b, 0, none⟩)] L (fun v L' => v = .bool true ∧ L = L') := by
 refine Fx.kept (t := t1) ?_
 refine Fx.mk Tryz.func27 k27 nb_ ?_
 dsimp only [c27, envOf, Nat.reduceAdd]
 refine Cx.ent (Ent.of t1.out) ?_
 refine Cx.openp (a := some ⟨b, 0, none⟩) (AlO.dd_ hd) ?_
 rintro ⟨q, n1, n2, n3, tp⟩
 simp only [alDL, List.cons_append, List.nil_append]
 refine go ?_
 refine Sx.ca rfl (machDoneYes (b := b)) ?_
 rintro v L' ⟨rfl, rfl⟩
 refine go ?_
 exact Kr.one (.inr rfl) rfl (AlO.closeD (v := s.v) (rt := rtOf s.v.was) s hd rfl rfl rfl rfl) ⟨rfl, rfl⟩
theorem alCode {b g u pb : Nat} {x : Cn} {slot : Nat} {gen : Int} {n : Nat} {s : AlS} {F1 : St} (hd : s.done = true) [t1 : Take L (some ⟨b, 0, none⟩) (AlO g u pb x slot gen n s) F1] : Fx Tryz.prog 21 [.pointer (some ⟨b, 0, none⟩)] L (fun v L' => v = .int .i64 (s.v.code : Nat) ∧ L = L') := by
 refine Fx.kept (t := t1) ?_
 refine Fx.mk Tryz.func21 k21 nb_ ?_
 dsimp only [c21, envOf, Nat.reduceAdd]
 refine Cx.ent (Ent.of t1.out) ?_
 refine go ?_
 refine Sx.ca rfl (alDone (b := b) (g := g) (u := u) (pb := pb) (x := x) (slot := slot) (gen := gen) (n := n) (s := s) hd) ?_
 rintro v L' ⟨rfl, rfl⟩
 refine go ?_
 refine Sx.openp (a := some ⟨b, 0, none⟩) (AlO.dd_ hd) ?_
 rintro ⟨q, n1, n2, n3, tp⟩
 simp only [alDL, List.cons_append, List.nil_append]
 refine go ?_
 exact Kr.one (.inr rfl) rfl (AlO.closeD (v := s.v) (rt := rtOf s.v.was) s hd rfl rfl rfl rfl) ⟨rfl, rfl⟩
theorem alPoint {b g u pb : Nat} {x : Cn} {slot : Nat} {gen : Int} {n : Nat} {s : AlS} {F1 : St} (hd : s.done = true) [t1 : Take L (some ⟨b, 0, none⟩) (AlO g u pb x slot gen n s) F1] : Fx Tryz.prog 22 [.pointer (some ⟨b, 0, none⟩)] L (fun v L' => v = .int .i64 (s.v.point : Nat) ∧ L = L') := by
 refine Fx.kept (t := t1) ?_
 refine Fx.mk Tryz.func22 k22 nb_ ?_
 dsimp only [c22, envOf, Nat.reduceAdd]
 refine Cx.ent (Ent.of t1.out) ?_
 refine Cx.openp (a := some ⟨b, 0, none⟩) (AlO.dd_ hd) ?_
 rintro ⟨q, n1, n2, n3, tp⟩
 simp only [alDL, List.cons_append, List.nil_append]
 refine go ?_
 exact Kr.one (.inr rfl) rfl (AlO.closeD (v := s.v) (rt := rtOf s.v.was) s hd rfl rfl rfl rfl) ⟨rfl, rfl⟩
theorem alObject {b g u pb : Nat} {x : Cn} {slot : Nat} {gen : Int} {n : Nat} {s : AlS} {F1 : St} (hd : s.done = true) [t1 : Take L (some ⟨b, 0, none⟩) (AlO g u pb x slot gen n s) F1] : Fx Tryz.prog 28 [.pointer (some ⟨b, 0, none⟩)] L (fun v L' => v = hdA s.v.obj ∧ L = L') := by
 refine Fx.kept (t := t1) ?_
 refine Fx.mk Tryz.func28 k28 nb_ ?_
 dsimp only [c28, envOf, Nat.reduceAdd]
 refine Cx.ent (Ent.of t1.out) ?_
 refine Cx.sq ?_
 refine Cx.rg ?_
 refine Sx.al fun o => ?_
 refine go ?_
 refine Sx.ca rfl (alDone (b := b) (g := g) (u := u) (pb := pb) (x := x) (slot := slot) (gen := gen) (n := n) (s := s) hd) ?_
 rintro v L' ⟨rfl, rfl⟩
 refine go ?_
 refine Sx.ent (Ent.take (a := some ⟨b, 0, none⟩)) ?_
 refine Sx.openp (a := some ⟨b, 0, none⟩) (AlO.dd_ hd) ?_
 rintro ⟨q, n1, n2, n3, tp⟩
 simp only [alDL, List.cons_append, List.nil_append]
 refine go ?_
 refine Sx.st (b := o) rfl rfl rfl rfl rfl rfl ?_
 refine Sx.re (hdL s.v.obj) rfl ?_
 refine go ?_
 refine Kr_cell (b := o) (.inr rfl) rfl rfl ?_ ⟨rfl, rfl⟩
 refine Ent.trans Ent.drop ?_
 exact AlO.closeD (v := s.v) (rt := rtOf s.v.was) s hd rfl rfl rfl rfl
end
end Go.Proofs.YtflalhdofhobmaaGreat


namespace Go.Proofs.YtflalhdofhobmaaGreat
open Go
attribute [local irreducible] Sx Cx Rx Fx Krg Ksq Kbl Klp Kr
theorem region0 {x : Cn} (hx : x.ok) (cl : Nat) (hcl : cl ≤ 3) : ∃ M, (crIt x.spare x.root cl 10 (CreS.init, allM x)).2 = M ∧ M.n = 5 ∧ M.ws.length = x.len ∧ M.ok ∧ Pool x.pool M (iotaI x.c) ∧ rtOf (M.at_ (x.root + 0)) = ⟨1, 1, cl, 0⟩ ∧ (∀ a, a ≠ 1 → a ≠ x.root → M.at_ a = (allM x).at_ a) ∧
  Pool x.spare (allM x) (((0 : Nat) : Int) :: (iotaI x.sl).tail) ∧ laterT (rtOf ((allM x).at_ (x.root + 0))).gen = 1 := by
 obtain ⟨b1, b2, b3, b4, b5, b6, b7⟩ := hx.b
 have hlen := hx.len_le
 have hl := allM_len x
 have hk := hx.spare (n := (allM x).ws.length) (by omega) (by omega)
 have hroot : x.root + x.sl = x.slot := by unfold Cn.root Cn.slot; omega
 have hslot : x.slot + x.sl = x.link := by unfold Cn.slot Cn.link; omega
 have g3 : 3 ≤ x.root := by unfold Cn.root; omega
 have hsp := allM_spare hx
 have hio : iotaI x.sl = ((0 : Nat) : Int) :: (iotaI x.sl).tail := by
  have h0 := iota_get (n := x.sl) (i := 0) (by omega)
  have hl0 : (iotaI x.sl).length = x.sl := by simp [iotaI]
  cases he : iotaI x.sl with
  | nil => rw [he] at hl0; simp at hl0; omega
  | cons z l => rw [he] at h0; simp only [itI, List.getD_cons_zero] at h0; rw [h0]; rfl
 rw [hio] at hsp
 have h0 : (allM x).at_ (x.root + 0) = 0 := allM_at hx (by omega) (by omega) (by omega) (by omega)
 have hroot0 : (allM x).at_ (x.root + 0) < 18446744073709551616 := by omega
 obtain ⟨C, M, e10, _, _, _, _, _, hn, hml, hmo, _, hrv, hoth⟩ := cr_alone (k := x.spare) (ro := x.root) (cl := cl) (m := allM x) hk rfl (allM_ok hx) hsp (by show x.root + x.sl ≤ x.slot; omega) (by show 1 < x.root; omega) hcl
 rw [Int.toNat_natCast] at hrv hoth
 refine ⟨M, by rw [e10], ?_, hml.trans hl, hmo, ?_, ?_, fun a ha hb => hoth a ha (by omega), hsp, by rw [h0]; rfl⟩
 ·rw [hn]; unfold allM poolM; rw [fillM_n, fillM_n]; rfl
 ·have hp := allM_pool hx
  refine ⟨?_, hp.nd⟩
  rw [hoth _ (by show (0 : Nat) ≠ 1; omega) (by show 0 ≠ x.root + 0; omega)]
  refine hp.c.congr fun z hz => ?_
  have hz2 := hp.c.mem z hz
  exact hoth _ (by show x.link + z.toNat ≠ 1; omega) (by show x.link + z.toNat ≠ x.root + 0; omega)
 ·rw [hrv, rtOf_w (nextRt_ok hroot0 hcl), h0]; rfl
section
variable {L F G : St}
theorem grF_rg {x : Cn} {n : Hn} {r r2 : Option Addr} {k c c2 : Nat} {Q : Nat → Who} {S S2 : Nat → SupS} {m : Mm} : Ent (grF x n r r2 k c c2 Q S S2 m m G)
  (rgF x n r r2 k c c2 m (pt r (Row 47 1 k c (ptrs k fun i => (Q i).u)) :: pt r2 (Row 81 1 k c2 (ptrs k fun i => (Q i).s)) :: pt (some ⟨n.pb, 0, none⟩) (SkO n.mp x.pool) :: pt (some ⟨n.g, 0, none⟩) (GrO n.mp x) ::
   pt (some ⟨n.rp, 0, none⟩) (RSkO n.rm x.pool) :: pt (some ⟨n.re, 0, none⟩) (REpO x n.rm) :: (many k (fun i => whoL n.mp n.w x (Q i) (S i) (S2 i)) ++ G))) := by
 exact entm
set_option maxHeartbeats 4000000 in
theorem grFirst : Fx Tryz.prog 12 [] L (fun v L' => v = .bool true ∧ L = L') := by
 refine Fx.mk Tryz.func12 k12 nb_ ?_
 dsimp only [c12, envOf, Nat.reduceAdd]
 have hx : (⟨1, 2, 8, 1, 1, 1⟩ : Cn).ok := by unfold Cn.ok MayC; decide
 obtain ⟨x, hxe⟩ : ∃ x, x = (⟨1, 2, 8, 1, 1, 1⟩ : Cn) := ⟨_, rfl⟩
 have hwd : x.wd = 8 := by rw [hxe]
 have hc : x.c = 2 := by rw [hxe]
 have hca : x.ca = 1 := by rw [hxe]
 have hba : x.ba = 1 := by rw [hxe]
 have hsl : x.sl = 1 := by rw [hxe]
 rw [← hxe] at hx
 obtain ⟨M, hM, hn, hml, hmo, hpo, hrt, hoth, hsp, hgen⟩ := region0 hx 0 (by omega)
 have hio : iotaI x.c = ((0 : Nat) : Int) :: [1] := by rw [hc]; rfl
 rw [hio] at hpo
 have hcl : (rtOf (M.at_ (x.root + 0))).cl = 0 := by rw [hrt]
 obtain ⟨M2, t, e14, hrun, _⟩ := al_new (x := x) (slot := 0) (gen := 1) (n := 3) (m := M) (S := SupS.nil x.ca) hx hml hmo (by omega) (by rw [hrt]; exact ⟨by show 1 < 4294967296; omega, by show 1 ≤ 4097; omega, by show 0 ≤ 3; omega, by show 0 ≤ 1024; omega⟩)
  (by show 0 + 0 ≤ 1000; omega) (by rw [hca]; decide) (by rw [hca]; decide) hba rfl rfl (by omega) (by omega) (by omega) (by rw [hrt]; exact ⟨by show 1 ≤ 1; omega, rfl⟩) 3 (by rw [hrt]; rfl) (by rw [hrt]; intro h; have := h.1; dsimp only at this; omega) 0 [1] hpo
 rw [hwd] at e14 hrun
 refine go ?_
 refine Sx.ca (vs := [x.v]) (by rw [hxe]; rfl) (grMade hx) ?_
 rintro v L' ⟨n, r, r2, c, c2, Q, rfl, rfl⟩
 refine go ?_
 refine Sx.ent grF_rg ?_
 refine Sx.ca rfl (grRegion (x := x) (n := n) (m := allM x) (s := 0) (l := (iotaI x.sl).tail) 0 (by omega) hx (allM_len x) (allM_ok hx) hsp) ?_
 rintro v L' ⟨rfl, rfl⟩
 rw [hM, hgen]
 refine go ?_
 have ga := grAlone (x := x) (n := n) (r := r) (r2 := some ⟨r2, 0, none⟩) (k := 3) (c := c) (c2 := c2) (Q := Q) (i := 0) (S := SupS.nil x.ca) (m := M) (slot := 0) (gen := 1) (sz := 3) (G := L) 14 (by omega) (by omega) (by omega) hx (by omega) (by omega) (by omega) (by omega) hrun
 rw [e14] at ga
 refine Sx.ent ?_ (Sx.ca rfl ga ?_)
 ·dsimp only [rgF, agF]
  refine Ent.trans (Ent.ith 0 (by omega)) ?_
  simp only [whoL, List.cons_append, List.nil_append]
  exact entm
 rintro v L' ⟨b, rfl, rfl⟩
 refine go ?_
 obtain ⟨A, hA⟩ : ∃ A : AlS, A = ⟨6, ⟨8 + 6, -1, 8, true, true, 3, 8 + 6, M.at_ (x.root + 0), 0, ⟨((0 : Nat) : Int), 1, ((0 : Nat) : Int), 0, ((3 : Nat) : Int)⟩⟩, t, PushS.init [], true⟩ := ⟨_, rfl⟩
 rw [← hA]
 have a1 : A.done = true := by rw [hA]
 have a2 : A.v.code = 0 := by rw [hA]
 have a3 : A.v.obj = ⟨((0 : Nat) : Int), 1, ((0 : Nat) : Int), 0, ((3 : Nat) : Int)⟩ := by rw [hA]
 have a4 : A.v.point = 14 := by rw [hA]
 refine Sx.ca rfl (alDone (b := b) (g := n.g) (u := (Q 0).u) (pb := (Q 0).pb) (x := x) (slot := 0) (gen := 1) (n := 3) (s := A) a1) ?_
 rintro v L' ⟨rfl, rfl⟩
 refine go ?_
 refine Sx.ca rfl (alCode (b := b) (g := n.g) (u := (Q 0).u) (pb := (Q 0).pb) (x := x) (slot := 0) (gen := 1) (n := 3) (s := A) a1) ?_
 rintro v L' ⟨rfl, rfl⟩
 rw [a2]
 refine go ?_
 refine Sx.ca rfl (alObject (b := b) (g := n.g) (u := (Q 0).u) (pb := (Q 0).pb) (x := x) (slot := 0) (gen := 1) (n := 3) (s := A) a1) ?_
 rintro v L' ⟨rfl, rfl⟩
 rw [a3]
 refine go ?_
 refine Sx.ca rfl (alPoint (b := b) (g := n.g) (u := (Q 0).u) (pb := (Q 0).pb) (x := x) (slot := 0) (gen := 1) (n := 3) (s := A) a1) ?_
 rintro v L' ⟨rfl, rfl⟩
 rw [a4]
 refine go ?_
 refine Kr.one (.inr rfl) rfl ?_ ⟨rfl, rfl⟩
 exact entm
end
end Go.Proofs.YtflalhdofhobmaaGreat


namespace Go.Proofs.YtflalhdofhobmaaGreat
open Go
attribute [local irreducible] Sx Cx Rx Fx Krg Ksq Kbl Klp Kr
section
variable {L F G : St}
end
end Go.Proofs.YtflalhdofhobmaaGreat


namespace Go.Proofs.YtflalhdofhobmaaGreat
open Go
attribute [local irreducible] Sx Cx Rx Fx Krg Ksq Kbl Klp Kr
theorem ints_getD {xs : List Int} {i : Nat} {x : Int} (h : xs[i]? = some x) : (ints xs)[i]? = some (.int .i64 x) := by simp [ints, h]
section
variable {L F : St}
theorem Rd.atD {a : Option Addr} {n i : Nat} {vs : List Value} {v : Value} (h : Rd L 1 a n vs) (hv : vs[i]? = some v) : ∃ b o, a = some ⟨b, o, none⟩ ∧ Has L b (o + i) [v] := by
 obtain ⟨h1, h0 | ⟨b, o, rfl, h2⟩⟩ := h
 ·have := (List.getElem?_eq_some_iff.1 hv).1; omega
 ·exact ⟨b, o, rfl, h2.at_ hv⟩
theorem seqN {q : Nat} {xs : List Int} {a : Option Addr} {n c i : Nat} {m : Int} {F : St} [t : Take L (some ⟨q, 0, none⟩) (Blk 125 [.slice a n c, .int .i64 i]) F]
  (hr : Rd L 1 a n (ints xs)) (hi : i ≤ 1000000000) (hm : 0 < m) (hm2 : m ≤ 4611686018427387904) :
  Fx Tryz.prog 68 [.pointer (some ⟨q, 0, none⟩), .int .i64 m] L (fun v L' => v = .int .i64 (xs.getD i 0 % m) ∧ L' = pt (some ⟨q, 0, none⟩) (Blk 125 [.slice a n c, .int .i64 ((i + 1 : Nat) : Int)]) :: F) := by
 have hn : n = xs.length := by have := hr.1; simp [ints] at this; omega
 refine Fx.mk Tryz.func68 k68 nb_ ?_
 dsimp only [c68, envOf, Nat.reduceAdd]
 refine go ?_
 refine Cx.calm kr_ ?_
 repeat' (first | (refine Cm.pvs rfl ?_) | (refine Cm.step rfl ?_) | (refine Cm.done ?_) | (refine Cm.ldb rfl rfl (by rfl) ?_) | (refine Cm.ldbs rfl rfl rfl ?_))
 refine Cx.jn (β := Unit) (fun _ => [(0, .pointer (some ⟨q, 0, none⟩)), (1, .int .i64 m), (5, .int .i64 (xs.getD i 0))]) (fun _ => L) ?_ ?_
 ·refine Cx.ifp rfl (fun h => ?_) (fun h => ?_)
  ·have hlt : i < xs.length := by omega
   have hg : (ints xs)[i]? = some (.int .i64 (xs.getD i 0)) := ints_getD (by simp [hlt])
   obtain ⟨b, o, rfl, hh⟩ := hr.atD hg
   refine Cx.calmK Kjn.mono kr_ ?_
   repeat' (first | (refine Cm.pvs rfl ?_) | (refine Cm.step rfl ?_) | (refine Cm.done ?_) | (refine Cm.ldb rfl rfl (by rfl) ?_) | (refine Cm.ldbs rfl rfl rfl ?_))
   refine Cm.pv rfl rfl ⟨by omega, by omega⟩ ?_
   refine Cm.ld rfl rfl (by simpa using hh) rfl ?_
   repeat' (first | (refine Cm.pvs rfl ?_) | (refine Cm.step rfl ?_) | (refine Cm.done ?_) | (refine Cm.ldb rfl rfl (by rfl) ?_) | (refine Cm.ldbs rfl rfl rfl ?_))
   exact Cm.nil (Kjn.nm () (sub.cons rfl (sub.cons rfl (sub.cons rfl sub.nil))) (Ent.refl _))
  ·refine go ?_
   refine Kjn.nm () (sub.cons rfl (sub.cons rfl (sub.cons ?_ sub.nil))) (Ent.refl _)
   rw [show xs.getD i 0 = 0 by rw [List.getD_eq_getElem?_getD, List.getElem?_eq_none (by omega)]; rfl]
   rfl
 ·rintro ⟨⟩
  refine go ?_
  rw [w64 (by omega) (by omega)]
  refine Sx.ca rfl (number _ m hm hm2) ?_
  rintro v L' ⟨rfl, rfl⟩
  refine go ?_
  exact Kr.one (.inr rfl) rfl (Ent.refl _) ⟨rfl, by simp⟩
def SmallC (w c wd sl ca ba : Int) : Prop := (1 ≤ w ∧ w ≤ 4) ∧ (1 ≤ c ∧ c ≤ 8) ∧ (wd = 8 ∨ wd = 16) ∧ (1 ≤ sl ∧ sl ≤ 4) ∧ (0 ≤ ca ∧ ca ≤ 3) ∧ (1 ≤ ba ∧ ba ≤ 3)
theorem config_ (n : Int) : Fx Tryz.prog 13 [.int .i64 n] L (fun v L' => (∃ w c wd sl ca ba, v = cfg w c wd sl ca ba ∧ SmallC w c wd sl ca ba) ∧ L = L') := by
 refine Fx.mk Tryz.func13 k13 nb_ ?_
 dsimp only [c13, envOf, Nat.reduceAdd]
 refine go ?_
 refine Sx.al fun g => ?_
 refine go ?_
 refine Sx.ca rfl (number n 4 (by omega) (by omega)) ?_
 rintro v L' ⟨rfl, rfl⟩
 refine go ?_
 refine Sx.pv rfl (by decide) ?_
 refine Sx.ca rfl (number _ 8 (by omega) (by omega)) ?_
 rintro v L' ⟨rfl, rfl⟩
 refine go ?_
 refine Sx.pv rfl (by decide) ?_
 refine Sx.ca rfl (number _ 2 (by omega) (by omega)) ?_
 rintro v L' ⟨rfl, rfl⟩
 refine go ?_
 refine Sx.pv rfl (by decide) ?_
 refine Sx.ca rfl (number _ 4 (by omega) (by omega)) ?_
 rintro v L' ⟨rfl, rfl⟩
 refine go ?_
 refine Sx.pv rfl (by decide) ?_
 refine Sx.ca rfl (number _ 4 (by omega) (by omega)) ?_
 rintro v L' ⟨rfl, rfl⟩
 refine go ?_
 refine Sx.pv rfl (by decide) ?_
 refine Sx.ca rfl (number _ 3 (by omega) (by omega)) ?_
 rintro v L' ⟨rfl, rfl⟩
 refine go ?_
 generalize n % 4 = x0
 generalize IntKind.i64.wrap (n.tdiv 4) % 8 = x1
 generalize IntKind.i64.wrap (n.tdiv 32) % 2 = x2
 generalize IntKind.i64.wrap (n.tdiv 64) % 4 = x3
 generalize IntKind.i64.wrap (n.tdiv 256) % 4 = x4
 generalize IntKind.i64.wrap (n.tdiv 1024) % 3 = x5
 refine Sx.bs (sz := 1) rfl rfl fun r => ?_
 refine go ?_
 refine Sx.bx rfl rfl fun q => ?_
 refine go ?_
 refine Sx.ca rfl (seqN (q := q) (xs := [x0, x1, x2, x3, x4, x5]) (i := 0) (Rd.row (b := r) (E := 3) (cap := 6) rfl) (by omega) (by omega) (by omega)) ?_
 rintro v L' ⟨rfl, rfl⟩
 refine go ?_
 refine Sx.ca rfl (seqN (q := q) (xs := [x0, x1, x2, x3, x4, x5]) (i := 1) (Rd.row (b := r) (E := 3) (cap := 6) rfl) (by omega) (by omega) (by omega)) ?_
 rintro v L' ⟨rfl, rfl⟩
 refine go ?_
 refine Sx.ca rfl (seqN (q := q) (xs := [x0, x1, x2, x3, x4, x5]) (i := 2) (Rd.row (b := r) (E := 3) (cap := 6) rfl) (by omega) (by omega) (by omega)) ?_
 rintro v L' ⟨rfl, rfl⟩
 refine go ?_
 refine Sx.ca rfl (seqN (q := q) (xs := [x0, x1, x2, x3, x4, x5]) (i := 3) (Rd.row (b := r) (E := 3) (cap := 6) rfl) (by omega) (by omega) (by omega)) ?_
 rintro v L' ⟨rfl, rfl⟩
 refine go ?_
 refine Sx.ca rfl (seqN (q := q) (xs := [x0, x1, x2, x3, x4, x5]) (i := 4) (Rd.row (b := r) (E := 3) (cap := 6) rfl) (by omega) (by omega) (by omega)) ?_
 rintro v L' ⟨rfl, rfl⟩
 refine go ?_
 refine Sx.ca rfl (seqN (q := q) (xs := [x0, x1, x2, x3, x4, x5]) (i := 5) (Rd.row (b := r) (E := 3) (cap := 6) rfl) (by omega) (by omega) (by omega)) ?_
 rintro v L' ⟨rfl, rfl⟩
 refine go ?_
 refine Sx.st (b := g) rfl rfl rfl rfl rfl rfl ?_
 dsimp only [lay]
 refine go ?_
 refine Kr_cell (b := g) (.inr rfl) rfl rfl (L' := L) ?_ ⟨⟨_, _, _, _, _, _, rfl, ?_⟩, rfl⟩
 ·exact ent
 ·have h0 := Int.emod_nonneg x0 (show (4 : Int) ≠ 0 by omega)
  have h0' := Int.emod_lt_of_pos x0 (show (0 : Int) < 4 by omega)
  have h1 := Int.emod_nonneg x1 (show (8 : Int) ≠ 0 by omega)
  have h1' := Int.emod_lt_of_pos x1 (show (0 : Int) < 8 by omega)
  have h2 := Int.emod_nonneg x2 (show (2 : Int) ≠ 0 by omega)
  have h2' := Int.emod_lt_of_pos x2 (show (0 : Int) < 2 by omega)
  have h3 := Int.emod_nonneg x3 (show (4 : Int) ≠ 0 by omega)
  have h3' := Int.emod_lt_of_pos x3 (show (0 : Int) < 4 by omega)
  have h4 := Int.emod_nonneg x4 (show (4 : Int) ≠ 0 by omega)
  have h4' := Int.emod_lt_of_pos x4 (show (0 : Int) < 4 by omega)
  have h5 := Int.emod_nonneg x5 (show (3 : Int) ≠ 0 by omega)
  have h5' := Int.emod_lt_of_pos x5 (show (0 : Int) < 3 by omega)
  simp only [List.getD_cons_zero, List.getD_cons_succ]
  rw [w64 (n := 1 + x0 % 4) (by omega) (by omega), w64 (n := 1 + x1 % 8) (by omega) (by omega), w64 (n := 8 * (x2 % 2)) (by omega) (by omega), w64 (n := 8 + 8 * (x2 % 2)) (by omega) (by omega), w64 (n := 1 + x3 % 4) (by omega) (by omega), w64 (n := 1 + x5 % 3) (by omega) (by omega)]
  unfold SmallC
  omega
end
end Go.Proofs.YtflalhdofhobmaaGreat


namespace Go.Proofs.YtflalhdofhobmaaGreat
open Go
attribute [local irreducible] Sx Cx Rx Fx Krg Ksq Kbl Klp Kr
theorem TakeR.perm {ba : Int} {s s' : SupS} {l l' : List Int} {ch : Int} {is_ : Bool} {N : Nat} (h1 : 1 ≤ ba) (h : TakeR ba s l ch is_ N s' l') (hn : s.xs ++ l ≠ []) : is_ = true ∧ (s.xs ++ l).Perm (ch :: (s'.xs ++ l')) := by
 rcases h with ⟨hx, rfl, rfl, _, rfl, rfl⟩ | ⟨hx, hl, c, hc, rfl, rfl, _, rfl, rfl⟩ | ⟨hx, hl, _⟩
 ·refine ⟨rfl, ?_⟩
  have e : s.xs = s.xs.dropLast ++ [lastI s.xs] := by
   unfold lastI
   rw [List.getLastD_eq_getLast?, List.getLast?_eq_some_getLast hx]
   exact (List.dropLast_concat_getLast hx).symm
  have : (s.xs.dropLast ++ [lastI s.xs] ++ l').Perm (lastI s.xs :: (s.xs.dropLast ++ l')) := by
   rw [List.append_assoc]
   exact List.perm_middle
  rw [← e] at this
  exact this
 ·refine ⟨rfl, ?_⟩
  obtain ⟨y, l2, rfl⟩ := List.exists_cons_of_ne_nil hl
  obtain ⟨c, rfl⟩ : ∃ d, c = d + 1 := ⟨c - 1, by simp at hc; omega⟩
  have : (s.give (List.take (c + 1) (y :: l2)).tail).xs ++ List.drop (c + 1) (y :: l2) = l2 := by
   simp [SupS.give, hx]
  rw [this, hx]
  exact List.Perm.refl _
 ·rw [hx, hl] at hn; exact absurd rfl hn
def AllP (x : Cn) (i : Nat) (s : SupS) (m : Mm) (l : List Int) (sn : List Bool) : Prop :=
 s.most = (SupS.nil x.ca).most ∧ s.lm = Lm.nil ∧ m.ws.length = x.len ∧ Pool x.pool m l ∧ (s.xs ++ l).Nodup ∧ (∀ y ∈ s.xs ++ l, 0 ≤ y ∧ y < (x.c : Int)) ∧ i + (s.xs ++ l).length = x.c ∧ sn.length = x.c ∧ (∀ y ∈ s.xs ++ l, sn[y.toNat]? = some false)
theorem AllP.step {x : Cn} {i : Nat} {s s' : SupS} {m m' : Mm} {l l' : List Int} {sn : List Bool} {ch : Int} {is_ : Bool} {N : Nat} (h1 : 1 ≤ (x.ba : Int)) (h8 : (x.ba : Int) ≤ 8) (h : AllP x i s m l sn) (hi : i < x.c) (ht : TakeR x.ba s l ch is_ N s' l')
  (hl : m'.ws.length = x.len) (hp : Pool x.pool m' l') : is_ = true ∧ (0 ≤ ch ∧ ch < (x.c : Int)) ∧ sn[ch.toNat]? = some false ∧ AllP x (i + 1) s' m' l' (sn.set ch.toNat true) := by
 obtain ⟨a1, a2, a3, a4, a5, a6, a7, a8, a9⟩ := h
 obtain ⟨hi1, hpm⟩ := ht.perm h1 (by intro e; rw [e] at a7; simp at a7; omega)
 obtain ⟨_, z2, z3⟩ := ht.size h8
 have hmem : ch ∈ s.xs ++ l := hpm.mem_iff.2 (by simp)
 have hnd := hpm.nodup_iff.1 a5
 rw [List.nodup_cons] at hnd
 have hsub : ∀ y ∈ s'.xs ++ l', y ∈ s.xs ++ l := fun y hy => hpm.mem_iff.2 (List.mem_cons_of_mem _ hy)
 have hlen := hpm.length_eq
 rw [List.length_cons] at hlen
 refine ⟨hi1, a6 _ hmem, a9 _ hmem, z3.trans a1, z2.trans a2, hl, hp, hnd.2, fun y hy => a6 y (hsub y hy), by omega, by rw [List.length_set]; exact a8, fun y hy => ?_⟩
 have h2 := a6 y (hsub y hy)
 have h3 := a6 _ hmem
 rw [List.getElem?_set_ne (fun e => hnd.1 (by rw [show ch = y by omega]; exact hy))]
 exact a9 y (hsub y hy)
section
variable {L F G : St}
end
end Go.Proofs.YtflalhdofhobmaaGreat


namespace Go.Proofs.YtflalhdofhobmaaGreat
open Go
attribute [local irreducible] Sx Cx Rx Fx Krg Ksq Kbl Klp Kr
section
variable {L F G : St}
theorem grF_out {P : As} {x : Cn} {n : Hn} {r r2 : Option Addr} {k c c2 : Nat} {Q : Nat → Who} {S S2 : Nat → SupS} {m m2 : Mm} : Ent (grF x n r r2 k c c2 Q S S2 m m2 (P :: G)) (P :: grF x n r r2 k c c2 Q S S2 m m2 G) := by
 dsimp only [grF]
 iterate 13 (refine Ent.trans (Ent.cons ?_) Ent.swap)
 exact Ent.deep (N := many k _) (M := [P]) (G := G)
theorem Cn.ok.w8 {x : Cn} (h : x.ok) : x.wd % 8 = 0 := by
 obtain ⟨_, _, _, b4, _⟩ := show MayC (x.w : Int) x.c x.wd x.sl x.ca x.ba from h
 rw [show (8 : Int) = ((8 : Nat) : Int) from rfl, natTmod] at b4
 omega
end
end Go.Proofs.YtflalhdofhobmaaGreat


namespace Go.Proofs.YtflalhdofhobmaaGreat
structure GA (x : Cn) (cl : Nat) (m : Mm) (ch : Int) (off used : Nat) (l : List Int) : Prop where
 len : m.ws.length = x.len
 ok : m.ok
 pool : Pool x.pool m l
 cnt : l.length + used = x.c
 root : rtOf (m.at_ (x.root + 0)) = ⟨1, if ch = -1 then 1 else (ch + 2).toNat, cl, off⟩
 ch1 : -1 ≤ ch
 ch2 : ch < x.c
 out : ch ∉ l
 off1 : off ≤ x.wd
theorem GA.rok {x : Cn} {cl : Nat} {m : Mm} {ch : Int} {off used : Nat} {l : List Int} (h : GA x cl m ch off used l) (hcl : cl ≤ 3) (hc : x.c ≤ 4096) (hwd : x.wd ≤ 1024) : (rtOf (m.at_ (x.root + 0))).ok := by
 rw [h.root]
 have := h.ch1; have := h.ch2; have := h.off1
 refine ⟨by show 1 < 4294967296; omega, ?_, hcl, by show off ≤ 1024; omega⟩
 show (if ch = -1 then 1 else (ch + 2).toNat) ≤ 4097
 split <;> omega
section
variable {x : Cn} {cl n : Nat} {m : Mm} {S : SupS} {ch : Int} {off used : Nat} {l : List Int}
theorem GA.fit (h : GA x cl m ch off used l) (hx : x.ok) (hcl : cl ≤ 3) (hn : 1 ≤ n) (hnw : n ≤ x.wd) (hs : S.xs.length + S.lm.size ≤ 1000) (hm0 : 0 ≤ S.most) (hm2 : S.most ≤ 64) (hx0 : (S.xs.length : Int) ≤ S.most) (h0 : 0 ≤ ch) (need : Nat) (hneed : roundS cl n = need) (hf : fitsS x.wd off need) :
  ∃ M A, alIt (x.al 0 1 n) 2 (alR m S) = (M, S, A) ∧ AlRun x (x.al 0 1 n) (alR m S) 2 ∧ A.done = true ∧ A.v.code = 0 ∧ A.v.obj = ⟨0, 1, ch, off, n⟩ ∧ A.v.point = 2 ∧ GA x cl M ch (off + need) used l := by
 obtain ⟨b1, b2, b3, b4, b5, b6, b7⟩ := show MayC (x.w : Int) x.c x.wd x.sl x.ca x.ba from hx
 have g1 : x.root + x.sl ≤ x.link := by unfold Cn.root Cn.link; omega
 have g2 : x.link + x.c ≤ x.len := by unfold Cn.link Cn.len; omega
 have g3 : 3 ≤ x.root := by unfold Cn.root; omega
 have hr := h.root
 have hrk := h.rok hcl (by omega) (by omega)
 have hc1 := h.ch2
 rw [if_neg (by omega)] at hr
 obtain ⟨e, hrun⟩ := al_fit (x := x) (slot := 0) (gen := 1) (n := n) (m := m) (S := S) h.len h.ok (by omega) hrk hs hm0 hm2 hx0 (by omega) (by rw [hr]; exact ⟨by show 1 ≤ (ch + 2).toNat; omega, rfl⟩) need (by rw [hr]; exact hneed) (by rw [hr]; show 2 ≤ (ch + 2).toNat; omega) (by rw [hr]; exact hf)
 have hR : Rt.ok ⟨1, (ch + 2).toNat, cl, off + need⟩ := ⟨by show 1 < 4294967296; omega, by show (ch + 2).toNat ≤ 4097; omega, hcl, by have := hf.2; show off + need ≤ 1024; omega⟩
 rw [hr] at e
 have hput : ∀ a v, (m.tick.put (x.root + 0) v).at_ a = if x.root + 0 = a then v else m.at_ a := fun a v => Mm.at_put a (by have := h.len; show _ < m.ws.length; omega)
 refine ⟨_, _, e, hrun, rfl, rfl, ?_, rfl, ⟨by rw [Mm.len_put]; exact h.len, Mm.ok_put (Mm.ok_tick h.ok) (Rt.w_lt hR), ⟨?_, h.pool.nd⟩, h.cnt, ?_, h.ch1, h.ch2, h.out, hf.2⟩⟩
 ·show (⟨((0 : Nat) : Int), 1, Rt.chunk ⟨1, (ch + 2).toNat, cl, off⟩, (off : Int), (n : Int)⟩ : Hd) = _
  unfold Rt.chunk
  rw [if_neg (by show ¬ (ch + 2).toNat < 2; omega)]
  dsimp only
  rw [show (((ch + 2).toNat : Nat) : Int) - 2 = ch by omega]
  rfl
 ·rw [hput, if_neg (by show ¬ x.root + 0 = 0; omega)]
  refine h.pool.c.congr fun z hz => ?_
  have := h.pool.c.mem z hz
  rw [hput, if_neg (by show ¬ x.root + 0 = x.link + z.toNat; omega)]
 ·rw [hput, if_pos rfl, rtOf_w hR, if_neg (by omega)]
theorem GA.none_ (h : GA x cl m ch off used l) (hx : x.ok) (hcl : cl ≤ 3) (hs : S.xs.length + S.lm.size ≤ 1000) (hm0 : 0 ≤ S.most) (hm2 : S.most ≤ 64) (hba : x.ba = 1) (hxs : S.xs = []) (hlm : S.lm.size = 0) (need : Nat) (hneed : roundS cl n = need) (hf : ¬ (0 ≤ ch ∧ fitsS x.wd off need)) (hu : used = x.c) :
  ∃ M A, alIt (x.al 0 1 n) 3 (alR m S) = (M, S, A) ∧ AlRun x (x.al 0 1 n) (alR m S) 3 ∧ A.done = true ∧ A.v.code = 6 ∧ A.v.obj = Hd.zero ∧ A.v.point = 3 ∧ GA x cl M ch off used l := by
 obtain ⟨b1, b2, b3, b4, b5, b6, b7⟩ := show MayC (x.w : Int) x.c x.wd x.sl x.ca x.ba from hx
 have hr := h.root
 have hrk := h.rok hcl (by omega) (by omega)
 have hc1 := h.ch1
 have hl : l = [] := List.eq_nil_of_length_eq_zero (by have := h.cnt; omega)
 have hmk : 1 ≤ (if ch = -1 then 1 else (ch + 2).toNat) := by split <;> omega
 have hmk2 : 2 ≤ (if ch = -1 then 1 else (ch + 2).toNat) → 0 ≤ ch := by split <;> omega
 obtain ⟨t, e, hrun⟩ := al_none (x := x) (slot := 0) (gen := 1) (n := n) (m := m) (S := S) hx h.len h.ok (by omega) hrk hs hm0 hm2 hba hxs hlm (by rw [hr]; exact ⟨hmk, rfl⟩) need (by rw [hr]; exact hneed) (by rw [hr]; exact fun hh => hf ⟨hmk2 hh.1, hh.2⟩) (by rw [← hl]; exact h.pool)
 exact ⟨_, _, e, hrun, rfl, rfl, rfl, rfl, ⟨h.len, h.ok, ⟨h.pool.c.congr fun _ _ => rfl, h.pool.nd⟩, h.cnt, h.root, h.ch1, h.ch2, h.out, h.off1⟩⟩
theorem GA.more (h : GA x cl m ch off used l) (hx : x.ok) (hcl : cl ≤ 3) (hw8 : x.wd % 8 = 0) (hn : 1 ≤ n) (hnw : n ≤ x.wd) (hs : S.xs.length + S.lm.size ≤ 1000) (hm0 : 0 ≤ S.most) (hm2 : S.most ≤ 64) (hba : x.ba = 1) (hxs : S.xs = []) (hlm : S.lm.size = 0) (need : Nat) (hneed : roundS cl n = need) (hf : ¬ (0 ≤ ch ∧ fitsS x.wd off need)) (hu : used ≠ x.c) :
  ∃ M A y l', alIt (x.al 0 1 n) (x.wd + 6) (alR m S) = (M, S, A) ∧ AlRun x (x.al 0 1 n) (alR m S) (x.wd + 6) ∧ A.done = true ∧ A.v.code = 0 ∧ A.v.obj = ⟨0, 1, y, 0, n⟩ ∧ A.v.point = x.wd + 6 ∧ y ≠ ch ∧ 0 ≤ y ∧ GA x cl M y (afterS x.wd need) (used + 1) l' := by
 obtain ⟨b1, b2, b3, b4, b5, b6, b7⟩ := show MayC (x.w : Int) x.c x.wd x.sl x.ca x.ba from hx
 have hr := h.root
 have hrk := h.rok hcl (by omega) (by omega)
 have hc1 := h.ch1
 have hcnt := h.cnt
 have hmk : 1 ≤ (if ch = -1 then 1 else (ch + 2).toNat) := by split <;> omega
 have hmk2 : 2 ≤ (if ch = -1 then 1 else (ch + 2).toNat) → 0 ≤ ch := by split <;> omega
 obtain ⟨z, l', rfl⟩ : ∃ z l', l = z :: l' := by
  cases l with
  | nil => simp at hcnt; omega
  | cons z l' => exact ⟨z, l', rfl⟩
 have hz := h.pool.c.mem z (by simp)
 obtain ⟨y, rfl⟩ : ∃ y : Nat, z = y := ⟨z.toNat, by omega⟩
 have hzc : (y : Int) < x.c := hz.2
 have hn2 : need ≤ x.wd := by rw [← hneed]; exact roundS_le hcl hnw hw8
 have haf := afterS_le hn2
 obtain ⟨M, t, e, hrun, e1, e2, e3, e4, _⟩ := al_new (x := x) (slot := 0) (gen := 1) (n := n) (m := m) (S := S) hx h.len h.ok (by omega) hrk hs hm0 hm2 hba hxs hlm hw8 hn hnw (by rw [hr]; exact ⟨hmk, rfl⟩) need (by rw [hr]; exact hneed) (by rw [hr]; exact fun hh => hf ⟨hmk2 hh.1, hh.2⟩) y l' h.pool
 rw [hr] at e4
 have hR : Rt.ok ⟨1, 2 + y, cl, afterS x.wd need⟩ := ⟨by show 1 < 4294967296; omega, by show 2 + y ≤ 4097; omega, hcl, by show afterS x.wd need ≤ 1024; omega⟩
 have hnd := h.pool.nd
 rw [List.nodup_cons] at hnd
 refine ⟨M, _, (y : Int), l', e, hrun, rfl, rfl, rfl, rfl, fun hh => h.out (by rw [← hh]; simp), by omega, ⟨e1, e2, e3, by simp at hcnt; omega, ?_, by omega, hzc, hnd.1, haf⟩⟩
 rw [e4, rtOf_w hR, if_neg (by omega)]
 congr 1
 omega
end
end Go.Proofs.YtflalhdofhobmaaGreat


namespace Go.Proofs.YtflalhdofhobmaaGreat
open Go Go.RowKit Go.ChangeShapes Go.WideShapes
def In (w : World) (sz : Nat) (v : Value) (n : Nat) (vs : List Value) : Prop :=
 vs.length = n * sz ∧ n ≤ maxLen ∧ ∃ a c, v = .slice a n c ∧ (n = 0 ∨ ∃ b o, a = some ⟨b, o, none⟩ ∧ ∀ j u, vs[j]? = some u → w.cell? ⟨b, o + j, none⟩ = some u)
theorem addr_add (b o i : Nat) : (⟨b, o, none⟩ : Addr).add i = ⟨b, o + i, none⟩ := by
 unfold Addr.add; split <;> simp_all
theorem In.rd {w : World} {sz n : Nat} {v : Value} {vs : List Value} (h : In w sz v n vs) : n ≤ maxLen ∧ ∃ a c, v = .slice a n c ∧ ∀ L : St, Ent L [Old w] → Rd L sz a n vs := by
 obtain ⟨h1, h2, a, c, rfl, h3⟩ := h
 refine ⟨h2, a, c, rfl, fun L hL => ⟨h1, h3.imp id ?_⟩⟩
 rintro ⟨b, o, rfl, hc⟩
 exact ⟨b, o, rfl, Has.old hL hc⟩
theorem flat_get {sz : Nat} (hp : 0 < sz) : ∀ (rows : List (List Value)) (h : ∀ r ∈ rows, r.length = sz) (j : Nat), rows.flatten[j]? = (rows[j / sz]?).bind (·[j % sz]?)
 | [], _, j => by simp
 | r :: l, h, j => by
   have hr : r.length = sz := h r (by simp)
   have ih := flat_get hp l (fun x hx => h x (by simp [hx]))
   by_cases hj : j < sz
   ·rw [List.flatten_cons, List.getElem?_append_left (by omega), Nat.div_eq_of_lt hj, Nat.mod_eq_of_lt hj]
    simp
   ·rw [List.flatten_cons, List.getElem?_append_right (by omega), hr, ih]
    obtain ⟨q, rfl⟩ : ∃ q, j = q + sz := ⟨j - sz, by omega⟩
    rw [Nat.add_sub_cancel, Nat.add_mod_right, Nat.add_div_right q hp]
    simp
theorem flat_length {sz : Nat} : ∀ (rows : List (List Value)) (h : ∀ r ∈ rows, r.length = sz), rows.flatten.length = rows.length * sz
 | [], _ => by simp
 | r :: l, h => by
   have hr : r.length = sz := h r (by simp)
   have ih := flat_length l (fun x hx => h x (by simp [hx]))
   rw [List.flatten_cons, List.length_append, ih, hr, List.length_cons, Nat.add_mul]; omega
section
variable {H : Type} {enc : TypeId × Value → H} {P : Program} {w : World} {base : Nat} {held : Bool}
theorem In.rows {t e : TypeId} {sz fuel : Nat} {v : Value} {x : DataW H × List MemPlace} (ht : P.underlying t = some (.slice e)) (hs : P.cellsOf e = sz) (hp : 0 < sz)
  (h : DataW.trod enc P w base (fun _ => true) held fuel t [v] = some x) :
  ∃ rows : List (List Value), In w sz v rows.length rows.flatten ∧ ∀ r ∈ rows, r.length = sz ∧ ∃ n y, DataW.trod enc P w base (fun _ => true) held n e r = some y := by
 rcases Deep.open_slice ht h with ⟨h0, _⟩ | ⟨a, len, cap, m, n, D, Pl, h0, hb, hl, hm, hmm, rfl, hx⟩
 ·simp only [List.cons.injEq, and_true] at h0
  subst h0
  exact ⟨[], ⟨by simp, by simp, none, 0, rfl, .inl rfl⟩, by simp⟩
 ·simp only [List.cons.injEq, and_true] at h0
  subst h0
  simp only [if_true] at hmm
  subst hmm
  rw [hs] at hx
  obtain ⟨V, hV⟩ := Deep.choose_lt (α := List Value) (p := fun i cs' => w.cells? base (a.add (i * sz)) sz = some cs' ∧ DataW.trod enc P w base (fun _ => true) held n e cs' = some (D i, Pl i)) hx
  have hlen : ∀ i, i < m → (V i).length = sz := fun i hi => (World.cells?_some (hV i hi).1).2.1
  refine ⟨(List.range len).map V, ⟨?_, ?_, some a, m, by simp, ?_⟩, ?_⟩
  ·rw [flat_length _ (by simp only [List.mem_map, List.mem_range]; rintro r ⟨i, hi, rfl⟩; exact hlen i (by omega))]
  ·simp; omega
  ·rcases Nat.eq_zero_or_pos len with h0 | h0
   ·left; simpa using h0
   ·right
    obtain ⟨b, o, spot⟩ := a
    have hc0 := (World.cells?_some (hV 0 (by omega)).1).2.2 0 hp
    rw [List.getElem?_eq_getElem (by rw [hlen 0 (by omega)]; exact hp)] at hc0
    have hspot : spot = none := by simpa [Addr.add] using World.cell?_spot hc0
    subst hspot
    refine ⟨b, o, rfl, fun j u hu => ?_⟩
    rw [flat_get hp _ (by simp only [List.mem_map, List.mem_range]; rintro r ⟨i, hi, rfl⟩; exact hlen i (by omega))] at hu
    obtain ⟨r, hr, hj⟩ := Option.bind_eq_some_iff.1 hu
    rw [List.getElem?_map] at hr
    obtain ⟨i, hi, rfl⟩ := Option.map_eq_some_iff.1 hr
    have hi' : j / sz < len := by have := (List.getElem?_eq_some_iff.1 hi).1; simpa using this
    have hij : i = j / sz := by simpa [hi'] using hi.symm
    subst hij
    have hc := (World.cells?_some (hV (j / sz) (by omega)).1).2.2 (j % sz) (Nat.mod_lt _ hp)
    rw [hj] at hc
    have he : o + j = o + j / sz * sz + j % sz := by have := Nat.div_add_mod j sz; rw [Nat.mul_comm] at this; omega
    rw [he]
    rwa [addr_add, addr_add] at hc
  ·simp only [List.mem_map, List.mem_range]
   rintro r ⟨i, hi, rfl⟩
   exact ⟨hlen i (by omega), n, _, (hV i (by omega)).2⟩
theorem In.ones {t e : TypeId} {fuel : Nat} {v : Value} {x : DataW H × List MemPlace} (ht : P.underlying t = some (.slice e)) (hs : P.cellsOf e = 1)
  (h : DataW.trod enc P w base (fun _ => true) held fuel t [v] = some x) :
  ∃ us : List Value, In w 1 v us.length us ∧ ∀ u ∈ us, ∃ n y, DataW.trod enc P w base (fun _ => true) held n e [u] = some y := by
 obtain ⟨rows, h1, h2⟩ := In.rows ht hs (by omega) h
 have key : ∀ rows : List (List Value), (∀ r ∈ rows, r.length = 1 ∧ ∃ n y, DataW.trod enc P w base (fun _ => true) held n e r = some y) → ∀ u ∈ rows.flatten, ∃ n y, DataW.trod enc P w base (fun _ => true) held n e [u] = some y := by
  intro rows h2 u hu
  obtain ⟨r, hr, hur⟩ := List.mem_flatten.1 hu
  obtain ⟨hl, n, y, hy⟩ := h2 r hr
  match r, hl with
  | [z], _ =>
    simp only [List.mem_singleton] at hur
    subst hur
    exact ⟨n, y, hy⟩
 refine ⟨rows.flatten, ?_, key rows h2⟩
 rw [flat_length rows (fun r hr => (h2 r hr).1), Nat.mul_one]
 exact h1
theorem In.ints {t e : TypeId} {k : IntKind} {fuel : Nat} {v : Value} {x : DataW H × List MemPlace} (ht : P.underlying t = some (.slice e)) (he : P.underlying e = some (.int k)) (hs : P.cellsOf e = 1)
  (h : DataW.trod enc P w base (fun _ => true) held fuel t [v] = some x) : ∃ xs : List Int, In w 1 v xs.length (xs.map (Value.int k)) ∧ ∀ x ∈ xs, (Lit.int k x).wf = true := by
 obtain ⟨us, h1, h2⟩ := In.ones ht hs h
 obtain ⟨xs, rfl, hx⟩ : ∃ xs : List Int, us = xs.map (Value.int k) ∧ ∀ x ∈ xs, (Lit.int k x).wf = true := by
  clear h1 h
  induction us with
  | nil => exact ⟨[], rfl, by simp⟩
  | cons u l ih =>
    obtain ⟨xs, rfl, hx⟩ := ih (fun z hz => h2 z (by simp [hz]))
    obtain ⟨n, y, hy⟩ := h2 u (by simp)
    obtain ⟨z, h3, _, h5⟩ := DataW.trod_int he hy
    simp only [List.cons.injEq, and_true] at h3
    subst h3
    refine ⟨z :: xs, rfl, ?_⟩
    simp only [List.mem_cons, forall_eq_or_imp]
    exact ⟨h5, hx⟩
 exact ⟨xs, by simpa using h1, hx⟩
end
end Go.Proofs.YtflalhdofhobmaaGreat


namespace Go.Proofs.YtflalhdofhobmaaGreat
open Go
attribute [local irreducible] Sx Cx Rx Fx Krg Ksq Kbl Klp Kr
section
variable {L F G : St}
theorem Rd.at1_ {a : Option Addr} {n i : Nat} {vs : List Value} {v : Value} (h : Rd L 1 a n vs) (hv : vs[i]? = some v) : ∃ b o, a = some ⟨b, o, none⟩ ∧ Has L b (o + i) [v] := by
 obtain ⟨h1, h0 | ⟨b, o, rfl, h2⟩⟩ := h
 ·have := (List.getElem?_eq_some_iff.1 hv).1; omega
 ·exact ⟨b, o, rfl, h2.at_ hv⟩
end
end Go.Proofs.YtflalhdofhobmaaGreat


namespace Go.Proofs.YtflalhdofhobmaaGreat
def Off (r v : Nat) (m m2 : Mm) : Prop := m2.ws = m.ws.set r v
section
variable {r v : Nat} {m m2 : Mm}
theorem Off.len (h : Off r v m m2) : m2.ws.length = m.ws.length := by rw [show m2.ws = _ from h, List.length_set]
theorem Off.at_ (h : Off r v m m2) {a : Nat} (ha : r ≠ a) : m2.at_ a = m.at_ a := by
 unfold Mm.at_
 rw [show m2.ws = _ from h, List.getD_eq_getElem?_getD, List.getElem?_set_ne ha, ← List.getD_eq_getElem?_getD]
theorem Off.tick (h : Off r v m m2) : Off r v m.tick m2.tick := h
theorem Off.put (h : Off r v m m2) {i w : Nat} (hi : r ≠ i) : Off r v (m.put i w) (m2.put i w) := by
 show m2.ws.set i w = (m.ws.set i w).set r v
 rw [show m2.ws = _ from h, List.set_comm _ _ hi]
theorem Off.cas (h : Off r v m m2) {i o w : Nat} (hi : r ≠ i) : Off r v (m.cas i o w) (m2.cas i o w) := by
 unfold Mm.cas
 rw [h.at_ hi]
 split
 ·exact h.put hi
 ·exact h
theorem Off.ok (h : Off r v m m2) (hm : m.ok) (hv : v < 18446744073709551616) : m2.ok := fun w hw => by
 rw [show m2.ws = _ from h] at hw
 rcases List.mem_or_eq_of_mem_set hw with h | rfl
 ·exact hm w h
 ·exact hv
theorem Off.pool {k : Sk} {l : List Int} (h : Off r v m m2) (h0 : r ≠ k.head) (hl : ∀ z : Int, 0 ≤ z → z < k.n → r ≠ k.links + z.toNat) (hp : Pool k m l) : Pool k m2 l := by
 refine ⟨?_, hp.nd⟩
 rw [h.at_ h0]
 refine hp.c.congr fun z hz => ?_
 have := hp.c.mem z hz
 rw [h.at_ (hl z this.1 this.2)]
end
section
variable {x : Cn} {slot : Nat} {gen : Int} {n : Nat} {m : Mm} {S : SupS}
theorem AlRun.all {p : AlP} {r : Mm × SupS × AlS} {N : Nat} (h : AlRun x p r N) (j : Nat) : AlGood x p.slot (alIt p j r) := by
 by_cases hj : j ≤ N
 ·exact h.good j hj
 ·obtain ⟨i, rfl⟩ : ∃ i, j = N + i := ⟨j - N, by omega⟩
  rw [alIt_idle h.d]
  exact h.good N (Nat.le_refl _)
theorem AlRun.end_ {p : AlP} {r : Mm × SupS × AlS} {N j : Nat} (h : AlRun x p r N) (hj : N ≤ j) : alIt p j r = alIt p N r := by
 obtain ⟨i, rfl⟩ : ∃ i, j = N + i := ⟨j - N, by omega⟩
 exact alIt_idle h.d i
end
end Go.Proofs.YtflalhdofhobmaaGreat


namespace Go.Proofs.YtflalhdofhobmaaGreat
open Go
attribute [local irreducible] Sx Cx Rx Fx Krg Ksq Kbl Klp Kr
theorem small_cfg2 {w c wd sl ca ba : Int} (h : SmallC w c wd sl ca ba) : ∃ x : Cn, cfg w c wd sl ca ba = x.v ∧ x.ok ∧ x.ca ≤ 3 ∧ x.c ≤ 8 ∧ x.ba ≤ 3 ∧ x.w ≤ 4 ∧ x.wd ≤ 16 ∧ x.sl ≤ 4 := by
 unfold SmallC at h
 refine ⟨⟨w.toNat, c.toNat, wd.toNat, sl.toNat, ca.toNat, ba.toNat⟩, ?_, ?_, ?_⟩
 ·simp only [Cn.v]
  rw [Int.toNat_of_nonneg (by omega), Int.toNat_of_nonneg (by omega), Int.toNat_of_nonneg (by omega), Int.toNat_of_nonneg (by omega), Int.toNat_of_nonneg (by omega), Int.toNat_of_nonneg (by omega)]
 ·unfold Cn.ok MayC
  simp only
  rw [Int.toNat_of_nonneg (by omega), Int.toNat_of_nonneg (by omega), Int.toNat_of_nonneg (by omega), Int.toNat_of_nonneg (by omega), Int.toNat_of_nonneg (by omega), Int.toNat_of_nonneg (by omega)]
  rw [Int.tmod_eq_emod_of_nonneg (by omega)]
  omega
 ·simp only; omega
section
variable {L F G : St}
theorem alDoneQ {b g u pb : Nat} {x : Cn} {slot : Nat} {gen : Int} {n : Nat} {s : AlS} {F1 : St} (h6 : s.done = false → s.at_ ≤ 6) [t1 : Take L (some ⟨b, 0, none⟩) (AlO g u pb x slot gen n s) F1] : Fx Tryz.prog 27 [.pointer (some ⟨b, 0, none⟩)] L (fun v L' => v = .bool s.done ∧ L = L') := by
 cases hd : s.done with
 | true => exact alDone (b := b) (g := g) (u := u) (pb := pb) (x := x) (slot := slot) (gen := gen) (n := n) (s := s) hd
 | false =>
   have h7 := h6 hd
   refine Fx.kept (t := t1) ?_
   refine Fx.mk Tryz.func27 k27 nb_ ?_
   dsimp only [c27, envOf, Nat.reduceAdd]
   refine Cx.ent (Ent.of t1.out) ?_
   by_cases h2 : s.at_ = 2
   ·refine Cx.openp (a := some ⟨b, 0, none⟩) (AlO.tt_ hd h2) ?_
    intro q
    simp only [alTL, List.cons_append, List.nil_append]
    refine go ?_
    refine Sx.ca rfl (machDoneNo (b := b)) ?_
    rintro v L' ⟨rfl, rfl⟩
    refine go ?_
    exact Kr.one (.inr rfl) rfl (AlO.closeT (v := s.v) (rt := rtOf s.v.was) s hd h2 rfl rfl rfl rfl) ⟨rfl, rfl⟩
   ·by_cases h6 : s.at_ = 6
    ·refine Cx.openp (a := some ⟨b, 0, none⟩) (AlO.gg_ hd h6) ?_
     rintro ⟨q, tp⟩
     simp only [alGL, List.cons_append, List.nil_append]
     refine go ?_
     refine Sx.ca rfl (machDoneNo (b := b)) ?_
     rintro v L' ⟨rfl, rfl⟩
     refine go ?_
     exact Kr.one (.inr rfl) rfl (AlO.closeG (v := s.v) (rt := rtOf s.v.was) s hd h6 rfl rfl rfl rfl) ⟨rfl, rfl⟩
    ·refine Cx.openp (a := some ⟨b, 0, none⟩) (AlO.ss_ hd h2 h6) ?_
     rintro ⟨n1, n2, n3, tp⟩
     simp only [alSL, List.cons_append, List.nil_append]
     refine go ?_
     refine Sx.ca rfl (machDoneNo (b := b)) ?_
     rintro v L' ⟨rfl, rfl⟩
     refine go ?_
     exact Kr.one (.inr rfl) rfl (AlO.closeS (v := s.v) (rt := rtOf s.v.was) s hd (by rw [← Bool.not_eq_true, Nat.beq_eq]; exact h2) (by rw [← Bool.not_eq_true, Nat.beq_eq]; exact h6) rfl rfl rfl rfl) ⟨rfl, rfl⟩
end
end Go.Proofs.YtflalhdofhobmaaGreat


namespace Go.Proofs.YtflalhdofhobmaaGreat
open Go
attribute [local irreducible] Sx Cx Rx Fx Krg Ksq Kbl Klp Kr
section
variable {L F G : St}
end
end Go.Proofs.YtflalhdofhobmaaGreat


namespace Go.Proofs.YtflalhdofhobmaaGreat
open Go
attribute [local irreducible] Sx Cx Rx Fx Krg Ksq Kbl Klp Kr
section
variable {L F G : St}
end
end Go.Proofs.YtflalhdofhobmaaGreat


namespace Go.Proofs.YtflalhdofhobmaaGreat
def aIdle : AlS := ⟨0, AlV.init, TakeS.zero, gNone, true⟩
def updW (W : Nat → Wk) (i : Nat) (v : Wk) : Nat → Wk := fun j => if j = i then v else W j
def wl (W : Nat → Wk) : List Wk := [W 0, W 1, W 2]
theorem wl_split (W : Nat → Wk) {i : Nat} (hi : i < 3) : ∃ A B, wl W = A ++ W i :: B ∧ ∀ v, wl (updW W i v) = A ++ v :: B := by
 rcases (show i = 0 ∨ i = 1 ∨ i = 2 by omega) with rfl | rfl | rfl
 ·exact ⟨[], [W 1, W 2], rfl, fun v => rfl⟩
 ·exact ⟨[W 0], [W 2], rfl, fun v => rfl⟩
 ·exact ⟨[W 0, W 1], [], rfl, fun v => rfl⟩
section
variable {x : Cn} {cl T i : Nat} {m : Mm} {W : Nat → Wk} {has : List Hd}
theorem updW_at (W : Nat → Wk) (i : Nat) (v : Wk) : updW W i v i = v := if_pos rfl
end
end Go.Proofs.YtflalhdofhobmaaGreat


namespace Go.Proofs.YtflalhdofhobmaaGreat
open Go
attribute [local irreducible] Sx Cx Rx Fx Krg Ksq Kbl Klp Kr
structure LM (x : Cn) (m : Mm) : Prop where
 l : m.ws.length = x.len
 o : m.ok
 e : ∀ a, a < x.word → m.at_ a = (allM x).at_ a
theorem LM.lay {x : Cn} {m : Mm} {i v : Nat} (h : LM x m) (hi : x.word ≤ i) (hl : i < x.len) (hv : v < 18446744073709551616) : LM x (m.lay i v) :=
 ⟨by rw [Mm.len_lay]; exact h.l, Mm.ok_lay h.o hv, fun a ha => by rw [Mm.at_lay _ (by rw [h.l]; exact hl), if_neg (by omega)]; exact h.e a ha⟩
theorem allM_0 {x : Cn} (hx : x.ok) : (allM x).at_ 0 = 1 := by
 have hlen := hx.len_le
 have hk := hx.spare (n := x.len) (Nat.le_refl _) hlen
 have hp := hx.pool (n := x.len) (Nat.le_refl _) hlen
 have h1 := (fill_pool hk (poolM_len x)).2 0 (by show (0 : Nat) ≠ 1; omega) (fun j _ => by show 0 ≠ x.slot + j; unfold Cn.slot; omega)
 unfold allM
 rw [h1]
 have hh := hp.h
 unfold poolM fillM
 rw [Mm.at_lay _ (by rw [Mm.len_lay, fillUp_len, zeroM_len]; exact hh)]
 exact if_pos rfl
def hds (l : List Hd) : List Value := l.flatMap fun o => [.int .i64 o.slot, .int .i64 o.gen, .int .i64 o.chunk, .int .i64 o.off, .int .i64 o.len]
def xvs (W : Nat → Wk) (bs : Nat → Nat) : List Value := (List.range 3).map fun j => if (W j).a.done then .pointer none else .pointer (some ⟨bs j, 0, none⟩)
section
variable {L F G : St}
theorem many_ent {n : Nat} {f g : Nat → St} (h : ∀ i, i < n → ∀ G, Ent (f i ++ G) (g i ++ G)) : ∀ {G : St}, Ent (many n f ++ G) (many n g ++ G) := by
 induction n with
 | zero => exact Ent.refl _
 | succ n ih =>
   intro G
   rw [many_succ, many_succ, List.append_assoc, List.append_assoc]
   exact Ent.trans (ih fun i hi => h i (by omega)) (Ent.app (h n (by omega) G))
def updN (f : Nat → Nat) (i v : Nat) : Nat → Nat := fun j => if j = i then v else f j
theorem xvs_get {W : Nat → Wk} {bs : Nat → Nat} {i : Nat} (h : i < 3) : (xvs W bs)[0 + (i : Int).toNat * 1]? = some (if (W i).a.done then .pointer none else .pointer (some ⟨bs i, 0, none⟩)) := by simp [xvs, h]
theorem xvs_len (W : Nat → Wk) (bs : Nat → Nat) : (xvs W bs).length = 3 := by simp [xvs]
theorem xvs_set {W : Nat → Wk} {bs : Nat → Nat} {i b : Nat} {w : Wk} (h : i < 3) : (xvs W bs).set (0 + (i : Int).toNat * 1) (if w.a.done then .pointer none else .pointer (some ⟨b, 0, none⟩)) = xvs (updW W i w) (updN bs i b) := by
 rcases (show i = 0 ∨ i = 1 ∨ i = 2 by omega) with rfl | rfl | rfl <;> rfl
theorem xvs_blt {W : Nat → Wk} {bs : Nat → Nat} {i : Nat} (h : i < 3) : Nat.blt (0 + (i : Int).toNat * 1) (xvs W bs).length = true := by
 rw [xvs_len]; rcases (show i = 0 ∨ i = 1 ∨ i = 2 by omega) with rfl | rfl | rfl <;> rfl
theorem xvs_same {W : Nat → Wk} {bs : Nat → Nat} {i : Nat} {w : Wk} (h : i < 3) (hd : w.a.done = (W i).a.done) : xvs W bs = xvs (updW W i w) (updN bs i (bs i)) := by
 refine Eq.symm ?_
 rcases (show i = 0 ∨ i = 1 ∨ i = 2 by omega) with rfl | rfl | rfl
 ·show [_, _, _] = [_, _, _]
  simp only [updW, updN, if_true, hd]; rfl
 ·show [_, _, _] = [_, _, _]
  simp only [updW, updN, if_true, hd]; rfl
 ·show [_, _, _] = [_, _, _]
  simp only [updW, updN, if_true, hd]; rfl
end
end Go.Proofs.YtflalhdofhobmaaGreat


namespace Go.Proofs.YtflalhdofhobmaaGreat
open Go
attribute [local irreducible] Sx Cx Rx Fx Krg Ksq Kbl Klp Kr
section
variable {L F G : St}
theorem SupS.kept_nil {s : SupS} (h : s.xs = []) : s.kept = s := by
 cases s; simp only [SupS.kept]; simp only at h; subst h; rfl
theorem refTakeNew {s w rm rp rs re : Nat} {x : Cn} {S : SupS} {F1 F2 : St} (hx : x.ok) (hb : S.xs.length + S.lm.size ≤ 1000000) [t2 : Take L (some ⟨s, 0, none⟩) (RSupO w S) F1] [t3 : Take F1 (some ⟨w, 0, none⟩) (RWO x rm rp rs re) F2] [t4 : Take F2 (some ⟨rp, 0, none⟩) (RSkO rm x.pool) G] :
  Fx Tryz.prog 180 [.pointer (some ⟨s, 0, none⟩)] L
   (fun v L' => ∃ b, v = .pointer (some ⟨b, 0, none⟩) ∧ L' = pt (some ⟨b, 0, none⟩) (RTakeO s rp (takeInit x.ba S).2) :: pt (some ⟨s, 0, none⟩) (RSupO w (takeInit x.ba S).1) :: F1) := by
 obtain ⟨b1, b2, b3, b4, b5, b6, b7⟩ := hx.b
 refine Fx.mk Tryz.func180 k180 nb_ ?_
 dsimp only [c180, envOf, Nat.reduceAdd]
 refine go ?_
 refine Sx.bx rfl rfl fun b => ?_
 refine go ?_
 refine Sx.ca rfl (refKept (b := b) (s := s) (w := w) (S := S) (n := 0) (seen := -1) (pp := .pointer none) (by omega)) ?_
 rintro v L' ⟨rfl, rfl⟩
 by_cases hxs : S.xs = []
 ·rw [decide_eq_false (fun h => h hxs), if_pos hxs, SupS.kept_nil hxs]
  refine Sx.nil ?_
  refine Krg.i ?_
  refine Ksq.nm ?_
  refine Cx.sq ?_
  refine Cx.sq ?_
  refine Cx.ent (Ent.cons (Ent.cons (Ent.trans (Ent.of t3.out) (Ent.cons (Ent.of t4.out))))) ?_
  refine Cx.openp (a := some ⟨s, 0, none⟩) rfl ?_
  rintro ⟨st, lm⟩
  simp only [rsupL, List.cons_append, List.nil_append]
  refine go ?_
  refine Sx.ca rfl (refLimboLen (b := lm) (m := S.lm) (by omega)) ?_
  rintro v L' ⟨rfl, rfl⟩
  refine go ?_
  by_cases hz : 0 < S.lm.size
  ·have e0 : takeInit x.ba S = (S, TakeS.none_) := by unfold takeInit keepT; rw [if_pos hxs]; simp only; rw [if_pos hz]
   rw [e0]
   refine Cx.cno rfl (decide_eq_false (by omega)) ?_
   refine go ?_
   refine Kr.one (.inr rfl) rfl ?_ ⟨b, rfl, rfl⟩
   refine Ent.trans (Ent.trans (Ent.take (a := some ⟨b, 0, none⟩)) (RTakeO.closeL (rp := rp) TakeS.none_ rfl rfl rfl)) (Ent.cons ?_)
   refine Ent.trans (RSupO.close (a := some ⟨s, 0, none⟩) (st := st) (lm := lm) (w := w) S rfl rfl rfl) (Ent.cons ?_)
   exact Ent.trans (Ent.cons (Ent.of t4.back)) (Ent.of t3.back)
  ·have e0 : takeInit x.ba S = (S, { TakeS.none_ with at_ := 1, q := PopS.init x.ba }) := by unfold takeInit keepT; rw [if_pos hxs]; simp only; rw [if_neg hz]
   rw [e0]
   refine Cx.cyes rfl (decide_eq_true (by omega)) ?_
   refine Cx.ent (RSupO.close (a := some ⟨s, 0, none⟩) (st := st) (lm := lm) (w := w) S rfl rfl rfl) ?_
   refine go ?_
   refine Sx.ca rfl (refTakePop (b := b) (s := s) (w := w) (rm := rm) (rp := rp) (rs := rs) (re := re) (x := x) (S := S) (n := 0) (ch := -1) (seen := -1) (pp := .pointer none) b6) ?_
   rintro v L' ⟨p, rfl, rfl⟩
   refine go ?_
   refine Kr.one (.inr rfl) rfl ?_ ⟨b, rfl, rfl⟩
   refine Ent.trans (RTakeO.closeP (rp := rp) { TakeS.none_ with at_ := 1, q := PopS.init x.ba } rfl (by simp) rfl rfl) (Ent.cons (Ent.cons ?_))
   exact Ent.trans (Ent.cons (Ent.of t4.back)) (Ent.of t3.back)
 ·have e0 : takeInit x.ba S = (S.kept, { TakeS.none_ with chunk := lastI S.xs, is_ := true, done := true }) := by unfold takeInit keepT; rw [if_neg hxs]
  rw [e0, decide_eq_true hxs, if_neg hxs]
  refine go ?_
  refine Kr.one (.inr rfl) rfl ?_ ⟨b, rfl, rfl⟩
  refine Ent.trans (RTakeO.closeD (rp := rp) { TakeS.none_ with chunk := lastI S.xs, is_ := true, done := true } rfl rfl rfl) ?_
  exact Ent.refl _
set_option maxHeartbeats 1000000 in
theorem refTakeStep {b s w rm rp rs re : Nat} {x : Cn} {S : SupS} {m : Mm} {t : TakeS} {F1 F2 F3 F4 : St} (hx : x.ok) (hl : x.len ≤ m.ws.length) (ht : t.ok) (hq : t.done = false → t.at_ = 1 → t.q.ok x.pool) (hb : S.xs.length + S.lm.size ≤ 1000000)
  [t1 : Take L (some ⟨b, 0, none⟩) (RTakeO s rp t) F1] [t2 : Take F1 (some ⟨s, 0, none⟩) (RSupO w S) F2] [t3 : Take F2 (some ⟨rm, 0, none⟩) (RMemO m) F3] [t4 : Take F3 (some ⟨w, 0, none⟩) (RWO x rm rp rs re) F4] [t5 : Take F4 (some ⟨rp, 0, none⟩) (RSkO rm x.pool) G] :
  Fx Tryz.prog 108 [.pointer (some ⟨b, 0, none⟩)] L
   (fun v L' => v = .bool (!t.done) ∧ L' = pt (some ⟨b, 0, none⟩) (RTakeO s rp (takeStep x.pool x.ba m S t).2.2) :: pt (some ⟨s, 0, none⟩) (RSupO w (takeStep x.pool x.ba m S t).2.1) :: pt (some ⟨rm, 0, none⟩) (RMemO (takeStep x.pool x.ba m S t).1) :: F3) := by
 obtain ⟨b1, b2, b3, b4, b5, b6, b7⟩ := hx.b
 have hl3 : 3 ≤ x.len := by unfold Cn.len; omega
 have hback : Ent (pt (some ⟨w, 0, none⟩) (RWO x rm rp rs re) :: pt (some ⟨rp, 0, none⟩) (RSkO rm x.pool) :: G) F3 := Ent.trans (Ent.cons (Ent.of t5.back)) (Ent.of t4.back)
 refine Fx.mk Tryz.func108 k108 nb_ ?_
 dsimp only [c108, envOf, Nat.reduceAdd]
 refine Cx.ent (Ent.trans (Ent.of t1.out) (Ent.cons (Ent.trans (Ent.of t2.out) (Ent.cons (Ent.trans (Ent.of t3.out) (Ent.cons (Ent.trans (Ent.of t4.out) (Ent.cons (Ent.of t5.out))))))))) ?_
 refine Cx.pure (rmemKey (rm := rm) (m := m)) fun hm => ?_
 cases hd : t.done with
 | true =>
   have e1 : takeStep x.pool x.ba m S t = (m, S, t) := by unfold takeStep; rw [hd]; rfl
   rw [e1]
   refine Cx.openp (a := some ⟨b, 0, none⟩) (RTakeO.d hd) ?_
   rintro ⟨n, pp⟩
   simp only [rtakeDL, List.cons_append, List.nil_append]
   refine go ?_
   exact Kr.one (.inr rfl) rfl (Ent.trans (RTakeO.closeD t hd rfl rfl) (Ent.cons (Ent.cons (Ent.cons hback)))) ⟨rfl, rfl⟩
 | false =>
   have ha := ht.a
   rcases (show t.at_ = 0 ∨ t.at_ = 1 by omega) with h0 | h0
   ·have hlt := Mm.at_lt hm.1 2
    have hsz := size_ready (cutE (m.at_ 2)) S.lm
    have hsx : (S.ready (cutE (m.at_ 2))).xs.length ≤ 100000000 := by
     show (S.xs ++ (readyAll (cutE (m.at_ 2)) S.lm).1).length ≤ _
     rw [List.length_append]; omega
    refine Cx.openp (a := some ⟨b, 0, none⟩) (RTakeO.l hd h0) ?_
    rintro pp
    simp only [rtakeLL, List.cons_append, List.nil_append]
    refine Cx.openp (a := some ⟨s, 0, none⟩) rfl ?_
    rintro ⟨st, lm⟩
    simp only [rsupL, List.cons_append, List.nil_append]
    refine go ?_
    refine Sx.ca rfl (refLoad (rm := rm) (m := m) 2 (by omega)) ?_
    rintro v L' ⟨rfl, rfl⟩
    refine go ?_
    refine Sx.ca rfl (refCut (m.at_ 2) hlt) ?_
    rintro v L' ⟨rfl, rfl⟩
    refine go ?_
    refine Cx.ent (RSupO.close (a := some ⟨s, 0, none⟩) (st := st) (lm := lm) (w := w) S rfl rfl rfl) ?_
    refine Cx.ordc rfl kr_ ?_
    refine ge ?_
    refine Ev.caH kr_ rfl rfl (refSupReady (s := s) (w := w) (S := S) (now := cutE (m.at_ 2)) (by omega) (by omega) (by unfold cutE; omega)) (Pres.deps kr_) ?_
    rintro v L' ⟨rfl, rfl⟩
    refine ge ?_
    refine go ?_
    refine Sx.ca rfl (refKept (b := b) (s := s) (w := w) (S := S.ready (cutE (m.at_ 2))) (n := 0) (seen := cutE (m.at_ 2)) (pp := pp) hsx) ?_
    rintro v L' ⟨rfl, rfl⟩
    by_cases hxs : (S.ready (cutE (m.at_ 2))).xs = []
    ·have e1 : takeStep x.pool x.ba m S t = (m.tick, S.ready (cutE (m.at_ 2)), { t with seen := cutE (m.at_ 2), at_ := 1, q := PopS.init x.ba }) := by
      unfold takeStep keepT; rw [hd, h0]; simp only [Bool.false_eq_true, if_false]; rw [if_pos hxs]
     rw [e1, decide_eq_false (show ¬ ((S.ready (cutE (m.at_ 2))).xs ≠ []) from fun h => h hxs), if_pos hxs, SupS.kept_nil hxs]
     refine go ?_
     refine Sx.ca rfl (refTakePop (b := b) (s := s) (w := w) (rm := rm) (rp := rp) (rs := rs) (re := re) (x := x) (S := S.ready (cutE (m.at_ 2))) (n := 0) (ch := -1) (seen := cutE (m.at_ 2)) (pp := pp) b6) ?_
     rintro v L' ⟨p, rfl, rfl⟩
     refine go ?_
     refine Kr.one (.inr rfl) rfl ?_ ⟨rfl, rfl⟩
     refine Ent.trans (RTakeO.closeP (rp := rp) { t with seen := cutE (m.at_ 2), at_ := 1, q := PopS.init x.ba } hd (by simp) rfl rfl) (Ent.cons (Ent.cons ?_))
     refine Ent.trans ?_ (Ent.cons hback)
     exact ent
    ·have e1 : takeStep x.pool x.ba m S t = (m.tick, (S.ready (cutE (m.at_ 2))).kept, { t with seen := cutE (m.at_ 2), chunk := lastI (S.ready (cutE (m.at_ 2))).xs, is_ := true, done := true }) := by
      unfold takeStep keepT; rw [hd, h0]; simp only [Bool.false_eq_true, if_false]; rw [if_neg hxs]
     rw [e1, decide_eq_true hxs, if_neg hxs]
     refine go ?_
     refine Kr.one (.inr rfl) rfl ?_ ⟨rfl, rfl⟩
     refine Ent.trans (RTakeO.closeD (rp := rp) { t with seen := cutE (m.at_ 2), chunk := lastI (S.ready (cutE (m.at_ 2))).xs, is_ := true, done := true } rfl rfl rfl) (Ent.cons (Ent.cons ?_))
     refine Ent.trans ?_ (Ent.cons hback)
     exact ent
   ·have hk := hx.pool (n := m.ws.length) hl hm.2
    have hqo := hq hd h0
    refine Cx.openp (a := some ⟨b, 0, none⟩) (RTakeO.p hd (by omega)) ?_
    rintro p
    simp only [rtakePL, List.cons_append, List.nil_append]
    refine go ?_
    refine Sx.ca rfl (refPopStep (b := p) (sb := rp) (rm := rm) (k := x.pool) (m := m) (q := t.q) hk hqo) ?_
    rintro v L' ⟨rfl, rfl⟩
    have hq' := popStep_ok hk hm.1 hqo
    obtain ⟨q1, hq1⟩ : ∃ q1, (popStep x.pool m t.q).1 = q1 := ⟨_, rfl⟩
    obtain ⟨m1, hm1⟩ : ∃ m1, (popStep x.pool m t.q).2 = m1 := ⟨_, rfl⟩
    have hp1 : popStep x.pool m t.q = (q1, m1) := by rw [← hq1, ← hm1]
    rw [hq1] at hq'
    rw [hp1]
    dsimp only
    cases hqd : q1.done with
    | false =>
      have e1 : takeStep x.pool x.ba m S t = (m1, S, { t with q := q1 }) := by unfold takeStep; rw [hd, h0]; simp only [Bool.false_eq_true, if_false]; rw [hp1]; simp only [hqd, Bool.false_eq_true, if_false]
      rw [e1]
      refine Sx.nil ?_
      refine Krg.i ?_
      refine Ksq.nm ?_
      refine Cx.sq ?_
      refine Cx.openp (a := some ⟨p, 0, none⟩) rfl ?_
      rintro ⟨r, c⟩
      simp only [rpopL, List.cons_append, List.nil_append]
      rw [hqd]
      refine go ?_
      refine Kr.one (.inr rfl) rfl ?_ ⟨rfl, rfl⟩
      refine Ent.trans (RPopO.close (sb := rp) (a := some ⟨p, 0, none⟩) (r := r) q1 rfl rfl rfl rfl rfl rfl (by rw [hqd]) rfl) ?_
      refine Ent.trans (Ent.trans (Ent.take (a := some ⟨b, 0, none⟩)) (RTakeO.closeP (rp := rp) { t with q := q1 } hd (by dsimp only; omega) rfl rfl)) (Ent.cons ?_)
      refine Ent.trans ?_ (Ent.cons (Ent.cons hback))
      exact ent
    | true =>
      have e1 : takeStep x.pool x.ba m S t = (m1, popped S { t with q := q1 }) := by unfold takeStep; rw [hd, h0]; simp only [Bool.false_eq_true, if_false]; rw [hp1]; simp only [hqd, if_true]
      rw [e1]
      refine Sx.nil ?_
      refine Krg.i ?_
      refine Ksq.nm ?_
      refine Cx.sq ?_
      refine Cx.openp (a := some ⟨p, 0, none⟩) rfl ?_
      rintro ⟨r, c⟩
      simp only [rpopL, List.cons_append, List.nil_append]
      rw [hqd]
      refine go ?_
      refine Sx.ent (RPopO.close (sb := rp) (a := some ⟨p, 0, none⟩) (r := r) q1 rfl rfl rfl rfl rfl rfl (by rw [hqd]) rfl) ?_
      refine Sx.ca rfl (refPopGot (b := p) (sb := rp) (rm := rm) (k := x.pool) (q := q1) hqd hq'.len) ?_
      rintro v L' ⟨ro, co, rfl, rfl⟩
      refine go ?_
      cases hg : q1.got with
      | nil =>
        have e2 : popped S { t with q := q1 } = (S, { t with q := q1, done := true }) := by unfold popped; simp only [hg]
        rw [e2]
        refine go ?_
        refine Kr.one (.inr rfl) rfl ?_ ⟨rfl, rfl⟩
        refine Ent.trans (Ent.trans (Ent.take (a := some ⟨b, 0, none⟩)) (RTakeO.closeD (rp := rp) { t with q := q1, done := true } rfl (by unfold TakeS.ch; simp only; rw [(ht.i hd).2]; rfl) rfl)) (Ent.cons ?_)
        refine Ent.trans ?_ (Ent.cons (Ent.cons hback))
        exact ent
      | cons y l =>
        have e2 : popped S { t with q := q1 } = (S.give l, { t with q := q1, chunk := y, is_ := true, done := true }) := by unfold popped; simp only [hg]
        have h8 := hq'.len
        rw [hg] at h8
        simp only [List.length_cons] at h8 ⊢
        rw [e2]
        refine Cx.cyes rfl (decide_eq_true (by omega)) ?_
        refine Cx.rowkey (a := ro) fun hx0 hn0 hc0 hk0 => ?_
        obtain ⟨rg, rfl⟩ := row_some (i := 0) (by omega) (hk0.imp (fun h => ⟨h.1, h.2.1, h.2.2⟩) id)
        refine gg ?_
        refine Sx.ldr (b := rg) rfl (v := .int .i64 y) rfl ?_
        refine go ?_
        refine Cx.ent (Ent.take (a := some ⟨s, 0, none⟩)) ?_
        refine Cx.openp (a := some ⟨s, 0, none⟩) rfl ?_
        rintro ⟨st, lm⟩
        simp only [rsupL, List.cons_append, List.nil_append]
        refine Cx.ordc rfl kr_ ?_
        refine ge ?_
        refine Ev.caH kr_ rfl rfl (refGive (b := st) (ys := l) (Rd.suffix_ (g := rg) (i := 1) hx0 hn0 (by omega)) (by omega)) (Pres.deps kr_) ?_
        rintro v L' ⟨rfl, rfl⟩
        refine ge ?_
        refine go ?_
        refine Kr.one (.inr rfl) rfl ?_ ⟨rfl, rfl⟩
        refine Ent.trans (Ent.trans (Ent.take (a := some ⟨b, 0, none⟩)) (RTakeO.closeD (rp := rp) { t with q := q1, chunk := y, is_ := true, done := true } rfl rfl rfl)) (Ent.cons ?_)
        refine Ent.trans (RSupO.close (a := some ⟨s, 0, none⟩) (st := st) (lm := lm) (w := w) (S.give l) rfl rfl rfl) (Ent.cons ?_)
        refine Ent.trans ?_ (Ent.cons hback)
        exact ent
end
end Go.Proofs.YtflalhdofhobmaaGreat


namespace Go.Proofs.YtflalhdofhobmaaGreat
open Go
attribute [local irreducible] Sx Cx Rx Fx Krg Ksq Kbl Klp Kr
section
variable {L F G : St}
theorem refWord {x : Cn} (hx : x.ok) (k j : Nat) (hk : k < x.c) (hj : j < x.wd) : Fx Tryz.prog 111 [x.v, .int .i64 k, .int .i64 j] L (fun v L' => v = .int .i64 ((x.word + k * x.wd + j : Nat) : Int) ∧ L = L') := by
 obtain ⟨b1, b2, b3, b4, b5, b6, b7⟩ := hx.b
 have hlt := word_lt (x := x) hk hj
 have hlen := hx.len_le
 obtain ⟨K, hK⟩ : ∃ K, k * x.wd = K := ⟨_, rfl⟩
 have hK2 : (k : Int) * (x.wd : Int) = (K : Int) := by rw [← hK]; push_cast; rfl
 rw [hK] at hlt ⊢
 have hw : x.word = 3 + x.w + x.sl + x.sl + x.c := rfl
 refine Fx.mk Tryz.func111 k111 nb_ ?_
 dsimp only [c111, envOf, Nat.reduceAdd]
 refine Cx.sq ?_
 refine Cx.rg ?_
 refine Sx.bx rfl rfl fun g => ?_
 refine go ?_
 refine Sx.ca rfl (refMay_ (x.w : Int) x.c x.wd x.sl x.ca x.ba) ?_
 rintro v L' ⟨rfl, rfl⟩
 rw [decide_eq_true (show MayC (x.w : Int) x.c x.wd x.sl x.ca x.ba from hx)]
 refine go ?_
 refine Sx.gyes rfl (decide_eq_false (by omega)) ?_
 refine go ?_
 refine Cx.cno rfl (decide_eq_false (by omega)) ?_
 refine go ?_
 rw [hK2, w64 (n := (3 : Int) + x.w) (by omega) (by omega), w64 (n := (2 : Int) * x.sl) (by omega) (by omega), w64 (n := (3 : Int) + x.w + 2 * x.sl) (by omega) (by omega), w64 (n := (3 : Int) + x.w + 2 * x.sl + x.c) (by omega) (by omega), w64 (n := (K : Int)) (by omega) (by omega), w64 (n := (3 : Int) + x.w + 2 * x.sl + x.c + K) (by omega) (by omega), w64 (n := (3 : Int) + x.w + 2 * x.sl + x.c + K + j) (by omega) (by omega)]
 refine Kr.one (.inr rfl) rfl Ent.drop ⟨congrArg (Value.int .i64) ?_, rfl⟩
 omega
theorem refChunk (r : Rt) (h : r.mrk < 65536) : Fx Tryz.prog 103 [rtV r] L (fun v L' => v = .int .i64 r.chunk ∧ L = L') := by
 refine Fx.mk Tryz.func103 k103 nb_ ?_
 dsimp only [c103, envOf, Nat.reduceAdd]
 refine Cx.sq ?_
 refine Cx.rg ?_
 refine Sx.bx rfl rfl fun g => ?_
 refine go ?_
 refine Cx.ifp rfl (fun h2 => ?_) (fun h2 => ?_)
 ·refine go ?_
  exact Kr.one (.inr rfl) rfl Ent.drop ⟨by unfold Rt.chunk; rw [if_pos (by omega)], rfl⟩
 ·refine go ?_
  rw [w64 (n := (r.mrk : Int) - 2) (by omega) (by omega)]
  exact Kr.one (.inr rfl) rfl Ent.drop ⟨by unfold Rt.chunk; rw [if_neg (by omega)], rfl⟩
theorem refLive (r : Rt) (gen : Int) : Fx Tryz.prog 99 [rtV r, .int .i64 gen] L (fun v L' => v = .bool (decide (r.live gen)) ∧ L = L') := by
 refine Fx.mk Tryz.func99 k99 nb_ ?_
 dsimp only [c99, envOf, Nat.reduceAdd]
 refine Cx.sq ?_
 refine Cx.rg ?_
 refine Sx.bx rfl rfl fun g => ?_
 refine go ?_
 by_cases h1 : 1 ≤ r.mrk
 ·refine Sx.gyes rfl (decide_eq_true (by omega)) ?_
  refine go ?_
  refine Kr.one (.inr rfl) rfl Ent.drop ⟨congrArg Value.bool (decide_eq_decide.2 ⟨fun h => ⟨h1, h⟩, fun h => h.2⟩), rfl⟩
 ·refine Sx.gno rfl (decide_eq_false (by omega)) ?_
  refine go ?_
  refine Kr.one (.inr rfl) rfl Ent.drop ⟨?_, rfl⟩
  rw [decide_eq_false (fun h => h1 h.1)]
theorem refIn (n lo hi : Int) : Fx Tryz.prog 173 [.int .i64 n, .int .i64 lo, .int .i64 hi] L (fun v L' => v = .bool (decide (lo ≤ n ∧ n ≤ hi)) ∧ L = L') := in_ n lo hi
set_option maxHeartbeats 1000000 in
theorem refRound (cl n : Nat) (hc : cl ≤ 3) (hn : 1 ≤ n) (hn2 : n ≤ 1024) : Fx Tryz.prog 178 [.int .i64 cl, .int .i64 n] L (fun v L' => v = .int .i64 (roundS cl n : Nat) ∧ L = L') := by
 have hrl := roundS_lt (n := n) hc
 have hrg := roundS_ge (n := n) hc
 refine Fx.mk Tryz.func178 k178 nb_ ?_
 dsimp only [c178, envOf, Nat.reduceAdd]
 refine go ?_
 refine Sx.ca rfl (refIn (n : Int) 1 1024) ?_
 rintro v L' ⟨rfl, rfl⟩
 rw [decide_eq_true (show (1 : Int) ≤ n ∧ (n : Int) ≤ 1024 by omega)]
 refine go ?_
 refine Cx.lp (α := {i : Nat // i ≤ cl}) (fun i => [(0, .int .i64 (cl : Nat)), (1, .int .i64 (n : Nat)), (5, .int .i64 ((2 ^ i.1 : Nat) : Int)), (6, .int .i64 (i.1 : Nat))]) (fun _ => L) (fun i => cl - i.1) ⟨0, Nat.zero_le _⟩ (sub.cons rfl (sub.cons rfl (sub.cons rfl (sub.cons rfl sub.nil)))) (Ent.refl _) ?_
 rintro ⟨i, hi⟩
 dsimp only
 have hpi : 2 ^ i ≤ 8 := by rcases (show i = 0 ∨ i = 1 ∨ i = 2 ∨ i = 3 by omega) with rfl | rfl | rfl | rfl <;> decide
 have hps : 2 ^ (i + 1) = 2 ^ i * 2 := Nat.pow_succ 2 i
 refine go ?_
 by_cases h : i < cl
 ·refine Sx.gyes rfl (decide_eq_true (by omega)) ?_
  refine go ?_
  refine Cx.cyes rfl (decide_eq_true (by omega)) ?_
  refine go ?_
  rw [w64 (n := (i : Int) + 1) (by omega) (by omega), w64 (n := 2 * ((2 ^ i : Nat) : Int)) (by omega) (by omega)]
  refine Klp.nm ⟨i + 1, by omega⟩ (sub.cons rfl (sub.cons rfl (sub.cons (by rw [show (((2 ^ (i + 1) : Nat)) : Int) = 2 * ((2 ^ i : Nat) : Int) by omega]; rfl) (sub.cons rfl sub.nil)))) (Ent.refl _) (by dsimp only; omega)
 ·obtain rfl : i = cl := by omega
  refine Sx.gno rfl (decide_eq_false (by omega)) ?_
  refine go ?_
  obtain ⟨P, hP⟩ : ∃ P, P = 2 ^ i := ⟨_, rfl⟩
  rw [← hP] at hpi ⊢
  have hp1 : 1 ≤ P := by rw [hP]; exact Nat.one_le_two_pow
  obtain ⟨R, hR⟩ : ∃ R, roundS i n = R := ⟨_, rfl⟩
  rw [hR] at hrl hrg ⊢
  have hfin : ∀ k : Nat, n ≤ k → k ≤ R → k % P = 0 → k = R := by
   intro k h1 h2 h3
   rcases roundS_cases (n := n) hc with ⟨rfl, e⟩ | ⟨rfl, e⟩ | ⟨rfl, e⟩ | ⟨rfl, e⟩
   all_goals (rw [hR] at e; simp at hP; subst hP; omega)
  have hmore : ∀ k : Nat, n ≤ k → k ≤ R → k % P ≠ 0 → k + 1 ≤ R := by
   intro k h1 h2 h3
   rcases Nat.lt_or_ge k R with h | h
   ·omega
   ·exfalso
    obtain rfl : k = R := by omega
    rcases roundS_cases (n := n) hc with ⟨rfl, e⟩ | ⟨rfl, e⟩ | ⟨rfl, e⟩ | ⟨rfl, e⟩
    all_goals (rw [hR] at e; simp at hP; subst hP; omega)
  refine Cx.lp (α := {k : Nat // n ≤ k ∧ k ≤ R}) (fun k => [(1, .int .i64 (k.1 : Nat)), (5, .int .i64 (P : Nat))]) (fun _ => L) (fun k => R - k.1) ⟨n, Nat.le_refl _, hrg⟩ (sub.cons rfl (sub.cons rfl sub.nil)) (Ent.refl _) ?_
  rintro ⟨k, hk1, hk2⟩
  dsimp only
  refine go ?_
  refine Sx.pv rfl (by omega) ?_
  have em : Int.tmod (k : Int) (P : Int) = ((k % P : Nat) : Int) := rfl
  have hkm : k % P < P := Nat.mod_lt _ hp1
  rw [em]
  refine go ?_
  refine Cx.ifn rfl (fun hz => ?_) (fun hz => ?_)
  ·refine go ?_
   rw [w64 (n := (k : Int) + 1) (by omega) (by omega)]
   have := hmore k hk1 hk2 (by omega)
   refine Klp.nm ⟨k + 1, by omega, by omega⟩ (sub.cons rfl (sub.cons rfl sub.nil)) (Ent.refl _) (by dsimp only; omega)
  ·refine go ?_
   have := hfin k hk1 hk2 (by omega)
   exact Kr.one (.inr rfl) rfl (Ent.refl _) ⟨by rw [this], rfl⟩
theorem refRight (wd need : Nat) (hw : 1 ≤ wd) (hw2 : wd ≤ 1024) (hn : 1 ≤ need) (hn2 : need ≤ wd) : Fx Tryz.prog 186 [.int .i64 wd, .int .i64 need] L (fun v L' => v = .bool true ∧ L = L') := by
 refine Fx.mk Tryz.func186 k186 nb_ ?_
 dsimp only [c186, envOf, Nat.reduceAdd]
 refine go ?_
 refine Sx.ca rfl (refIn (wd : Int) 1 1024) ?_
 rintro v L' ⟨rfl, rfl⟩
 rw [decide_eq_true (show (1 : Int) ≤ wd ∧ (wd : Int) ≤ 1024 by omega)]
 refine go ?_
 refine Sx.ca rfl (refIn (need : Int) 1 (wd : Int)) ?_
 rintro v L' ⟨rfl, rfl⟩
 rw [decide_eq_true (show (1 : Int) ≤ need ∧ (need : Int) ≤ wd by omega)]
 refine go ?_
 exact Kr.one (.inr rfl) rfl (Ent.refl _) ⟨rfl, rfl⟩
theorem refAlone1 (wd need : Nat) (hw : 1 ≤ wd) (hw2 : wd ≤ 1024) (hn : 1 ≤ need) (hn2 : need ≤ wd) : Fx Tryz.prog 187 [.int .i64 wd, .int .i64 need] L (fun v L' => v = .bool (decide (wd < 2 * need)) ∧ L = L') := by
 refine Fx.mk Tryz.func187 k187 nb_ ?_
 dsimp only [c187, envOf, Nat.reduceAdd]
 refine go ?_
 refine Sx.ca rfl (refRight wd need hw hw2 hn hn2) ?_
 rintro v L' ⟨rfl, rfl⟩
 refine go ?_
 rw [w64 (n := (wd : Int) - need) (by omega) (by omega)]
 refine Kr.one (.inr rfl) rfl (Ent.refl _) ⟨congrArg Value.bool (decide_eq_decide.2 (by omega)), rfl⟩
theorem refFits2 (wd off need : Nat) (hw : 1 ≤ wd) (hw2 : wd ≤ 1024) (hn : 1 ≤ need) (hn2 : need ≤ wd) (ho : off ≤ 4096) : Fx Tryz.prog 179 [.int .i64 wd, .int .i64 off, .int .i64 need] L (fun v L' => v = .bool (decide (fitsS wd off need)) ∧ L = L') := by
 refine Fx.mk Tryz.func179 k179 nb_ ?_
 dsimp only [c179, envOf, Nat.reduceAdd]
 refine go ?_
 refine Sx.ca rfl (refRight wd need hw hw2 hn hn2) ?_
 rintro v L' ⟨rfl, rfl⟩
 refine go ?_
 refine Sx.ca rfl (refAlone1 wd need hw hw2 hn hn2) ?_
 rintro v L' ⟨rfl, rfl⟩
 by_cases h : wd < 2 * need
 ·rw [decide_eq_true h]
  refine go ?_
  refine Kr.one (.inr rfl) rfl (Ent.refl _) ⟨congrArg Value.bool (decide_eq_false (fun hh => ?_)).symm, rfl⟩
  have := hh.1; omega
 ·rw [decide_eq_false h]
  refine go ?_
  rw [w64 (n := (wd : Int) - need) (by omega) (by omega)]
  refine Kr.one (.inr rfl) rfl (Ent.refl _) ⟨congrArg Value.bool (decide_eq_decide.2 ?_), rfl⟩
  unfold fitsS; omega
theorem refAfter (wd need : Nat) (hw : 1 ≤ wd) (hw2 : wd ≤ 1024) (hn : 1 ≤ need) (hn2 : need ≤ wd) : Fx Tryz.prog 113 [.int .i64 wd, .int .i64 need] L (fun v L' => v = .int .i64 (afterS wd need : Nat) ∧ L = L') := by
 refine Fx.mk Tryz.func113 k113 nb_ ?_
 dsimp only [c113, envOf, Nat.reduceAdd]
 refine go ?_
 refine Sx.ca rfl (refRight wd need hw hw2 hn hn2) ?_
 rintro v L' ⟨rfl, rfl⟩
 refine go ?_
 refine Sx.ca rfl (refAlone1 wd need hw hw2 hn hn2) ?_
 rintro v L' ⟨rfl, rfl⟩
 refine Sx.nil ?_
 refine Krg.i ?_
 refine Ksq.nm ?_
 refine Cx.ifp rfl (fun h => ?_) (fun h => ?_)
 ·refine go ?_
  exact Kr.one (.inr rfl) rfl (Ent.refl _) ⟨by unfold afterS; rw [if_pos h], rfl⟩
 ·refine go ?_
  exact Kr.one (.inr rfl) rfl (Ent.refl _) ⟨by unfold afterS; rw [if_neg h], rfl⟩
end
end Go.Proofs.YtflalhdofhobmaaGreat


namespace Go.Proofs.YtflalhdofhobmaaGreat
open Go
attribute [local irreducible] Sx Cx Rx Fx Krg Ksq Kbl Klp Kr
section
variable {L F G : St}
abbrev ralV (sa slot : Nat) (gen : Int) (n at_ : Nat) (cnt : Int) (v : AlV) (tp gp : Value) (dry d : Bool) : List Value :=
 [.pointer (some ⟨sa, 0, none⟩), .int .i64 (slot : Nat), .int .i64 gen, .int .i64 (n : Nat), .int .i64 (at_ : Nat), .int .i64 cnt, .int .i64 (v.point : Nat), .int .i64 (v.need : Nat), .int .i64 v.hand, .int .i64 (v.zat : Nat), wd v.was, tp, gp, .int .i64 (v.code : Nat),
  .int .i64 v.obj.slot, .int .i64 v.obj.gen, .int .i64 v.obj.chunk, .int .i64 v.obj.off, .int .i64 v.obj.len, .bool dry, .bool d]
abbrev ralB (b sa slot : Nat) (gen : Int) (n at_ : Nat) (cnt : Int) (v : AlV) (tp gp : Value) (dry d : Bool) : As := pt (some ⟨b, 0, none⟩) (Blk 87 (ralV sa slot gen n at_ cnt v tp gp dry d))
def dryOk (s : AlS) (dry : Bool) : Prop := s.at_ ≤ 1 → s.v.hand < 0 → dry = s.v.asked
def ralSL (T : TypeId) (sa slot : Nat) (gen : Int) (n : Nat) (s : AlS) (a : Option Addr) (y : Value × Value × Bool) : St :=
 [lift (dryOk s y.2.2), pt a (Blk T (ralV sa slot gen n s.at_ (s.v.cnt : Nat) s.v y.1 y.2.1 y.2.2 s.done))]
def ralTL (T : TypeId) (sa rp slot : Nat) (gen : Int) (n : Nat) (s : AlS) (a : Option Addr) (y : Nat × Value) : St :=
 [pt a (Blk T (ralV sa slot gen n 2 (s.v.cnt : Nat) s.v (.pointer (some ⟨y.1, 0, none⟩)) y.2 false false)), pt (some ⟨y.1, 0, none⟩) (RTakeO sa rp s.t)]
def RAlT (T : TypeId) (sa rp slot : Nat) (gen : Int) (n : Nat) (s : AlS) (a : Option Addr) : As := bif !s.done && Nat.beq s.at_ 2 then exs (ralTL T sa rp slot gen n s a) else exs (ralSL T sa slot gen n s a)
abbrev RAlO := RAlT 87
theorem RAlO.t_ {T : TypeId} {sa rp slot : Nat} {gen : Int} {n : Nat} {s : AlS} {a : Option Addr} (h : s.done = false) (h2 : s.at_ = 2) : RAlT T sa rp slot gen n s a = exs (ralTL T sa rp slot gen n s a) := by unfold RAlT; rw [h, h2]; rfl
theorem RAlO.s_ {T : TypeId} {sa rp slot : Nat} {gen : Int} {n : Nat} {s : AlS} {a : Option Addr} (h : s.done = true ∨ s.at_ ≠ 2) : RAlT T sa rp slot gen n s a = exs (ralSL T sa slot gen n s a) := by
 unfold RAlT
 rcases h with h | h
 ·rw [h]; rfl
 ·cases hb : Nat.beq s.at_ 2 with
  | true => exact absurd (Nat.eq_of_beq_eq_true hb) h
  | false => rw [Bool.and_false]; rfl
theorem RAlO.closeS {b sa rp slot at_ : Nat} {gen : Int} {n : Nat} {cnt : Int} {v : AlV} {tp gp : Value} {dry d : Bool} (s : AlS) (h : s.done = true ∨ s.at_ ≠ 2) (hd : d = s.done) (ha : at_ = s.at_) (hc : cnt = (s.v.cnt : Nat)) (hv : { v with cnt := s.v.cnt, ends := s.v.ends, asked := s.v.asked } = s.v) (hdr : dryOk s dry) :
  Ent (ralB b sa slot gen n at_ cnt v tp gp dry d :: G) (pt (some ⟨b, 0, none⟩) (RAlO sa rp slot gen n s) :: G) := by
 subst hd ha hc
 obtain ⟨a1, v0, t0, g0, d0⟩ := s
 obtain ⟨c1, c2, c3, c4, c5, c6, c7, c8, c9, c10⟩ := v0
 obtain ⟨e1, e2, e3, e4, e5, e6, e7, e8, e9, e10⟩ := v
 dsimp only at hv
 cases hv
 refine Ent.trans (Ent.lift hdr (Ent.refl _)) ?_
 exact Ent.close (f := ralSL 87 sa slot gen n _ (some ⟨b, 0, none⟩)) (RAlO.s_ h) (tp, gp, dry)
theorem RAlO.closeT {b sa rp slot q : Nat} {gen : Int} {n : Nat} {cnt : Int} {v : AlV} {gp : Value} {t : TakeS} (s : AlS) (h : s.done = false) (ha : s.at_ = 2) (hc : cnt = (s.v.cnt : Nat)) (hv : { v with cnt := s.v.cnt, ends := s.v.ends, asked := s.v.asked } = s.v) (ht : t = s.t) :
  Ent (ralB b sa slot gen n 2 cnt v (.pointer (some ⟨q, 0, none⟩)) gp false false :: pt (some ⟨q, 0, none⟩) (RTakeO sa rp t) :: G) (pt (some ⟨b, 0, none⟩) (RAlO sa rp slot gen n s) :: G) := by
 subst hc ht
 obtain ⟨a1, v0, t0, g0, d0⟩ := s
 obtain ⟨c1, c2, c3, c4, c5, c6, c7, c8, c9, c10⟩ := v0
 obtain ⟨e1, e2, e3, e4, e5, e6, e7, e8, e9, e10⟩ := v
 dsimp only at hv
 cases hv
 exact Ent.close (f := ralTL 87 sa rp slot gen n _ (some ⟨b, 0, none⟩)) (RAlO.t_ h ha) (q, gp)
theorem refSupAlloc {sa rp : Nat} (slot : Nat) (gen : Int) (n : Nat) :
  Fx Tryz.prog 37 [.pointer (some ⟨sa, 0, none⟩), .int .i64 slot, .int .i64 gen, .int .i64 n] L (fun v L' => ∃ b, v = .pointer (some ⟨b, 0, none⟩) ∧ L' = pt (some ⟨b, 0, none⟩) (RAlO sa rp slot gen n AlS.init) :: L) := by
 refine Fx.mk Tryz.func37 k37 nb_ ?_
 dsimp only [c37, envOf, Nat.reduceAdd]
 refine go ?_
 refine Sx.bx rfl rfl fun b => ?_
 refine Sx.re (ralV sa slot gen n 0 0 AlV.init (.pointer none) (.pointer none) false false) rfl ?_
 refine go ?_
 refine Kr.one (.inr rfl) rfl ?_ ⟨b, rfl, rfl⟩
 exact RAlO.closeS (v := AlV.init) AlS.init (.inr (by decide)) rfl rfl rfl rfl (fun _ _ => rfl)
theorem refAlTaken {b sa rp slot at_ q : Nat} {gen : Int} {n : Nat} {v : AlV} {gp : Value} {t : TakeS} {cnt : Int} (hcnt : cnt = (v.cnt : Nat)) (hd : t.done = true) (hask : v.asked = true) (hz : v.zat = 0) (hh : v.hand = -1) (hch : t.is_ = true → 0 ≤ t.chunk) :
  Fx Tryz.prog 109 [.pointer (some ⟨b, 0, none⟩)] (ralB b sa slot gen n at_ cnt v (.pointer (some ⟨q, 0, none⟩)) gp false false :: pt (some ⟨q, 0, none⟩) (RTakeO sa rp t) :: G)
   (fun _ L' => L' = pt (some ⟨b, 0, none⟩) (RAlO sa rp slot gen n (alTaken v t)) :: G) := by
 subst hcnt
 obtain ⟨c1, c2, c3, c4, c5, c6, c7, c8, c9, c10⟩ := v
 dsimp only at hz hask hh
 subst hz hask hh
 refine Fx.mk Tryz.func109 k109 nb_ ?_
 dsimp only [c109, envOf, Nat.reduceAdd]
 refine Cx.ent (Ent.cons (Ent.refl _)) ?_
 refine Cx.ent (Ent.swap) ?_
 refine Cx.openp (a := some ⟨q, 0, none⟩) (RTakeO.d hd) ?_
 rintro ⟨m, pp⟩
 simp only [rtakeDL, List.cons_append, List.nil_append]
 refine go ?_
 cases hi : t.is_ with
 | true =>
   have e : alTaken ⟨c1, -1, 0, true, c5, c6, c7, c8, c9, c10⟩ t = ⟨3, ⟨c1, t.chunk, 0, true, c5, c6, c7, c8, c9, c10⟩, t, gNone, false⟩ := by unfold alTaken; rw [hi]; rfl
   have ec : t.ch = t.chunk := by unfold TakeS.ch; rw [hi]; rfl
   have := hch hi
   rw [e, ec]
   refine Cx.cno rfl (decide_eq_false (by omega)) ?_
   refine go ?_
   refine Kr.none (.inl rfl) ?_ rfl
   refine Ent.trans (Ent.take (a := some ⟨b, 0, none⟩)) ?_
   refine Ent.trans (RAlO.closeS (rp := rp) (v := ⟨c1, t.chunk, 0, true, c5, c6, c7, c8, c9, c10⟩) ⟨3, ⟨c1, t.chunk, 0, true, c5, c6, c7, c8, c9, c10⟩, t, gNone, false⟩ (.inr (by show 3 ≠ 2; omega)) rfl rfl rfl rfl (fun h => by exact absurd h (by show ¬ 3 ≤ 1; omega))) (Ent.cons ?_)
   exact ent
 | false =>
   have e : alTaken ⟨c1, -1, 0, true, c5, c6, c7, c8, c9, c10⟩ t = ⟨0, ⟨c1, -1, 0, true, c5, c6, c7, c8, c9, c10⟩, t, gNone, false⟩ := by unfold alTaken; rw [hi]; rfl
   have ec : t.ch = -1 := by unfold TakeS.ch; rw [hi]; rfl
   rw [e, ec]
   refine go ?_
   refine Kr.none (.inr rfl) ?_ rfl
   refine Ent.trans (Ent.take (a := some ⟨b, 0, none⟩)) ?_
   refine Ent.trans (RAlO.closeS (rp := rp) (v := ⟨c1, -1, 0, true, c5, c6, c7, c8, c9, c10⟩) ⟨0, ⟨c1, -1, 0, true, c5, c6, c7, c8, c9, c10⟩, t, gNone, false⟩ (.inr (by show 0 ≠ 2; omega)) rfl rfl rfl rfl (fun _ _ => rfl)) (Ent.cons ?_)
   exact ent
end
end Go.Proofs.YtflalhdofhobmaaGreat


namespace Go.Proofs.YtflalhdofhobmaaGreat
open Go
attribute [local irreducible] Sx Cx Rx Fx Krg Ksq Kbl Klp Kr
section
variable {L F G : St}
theorem rt_was_lt {w : Nat} (h : (rtOf w).ok) : w < 18446744073709551616 := by
 have : w / 4294967296 < 4294967296 := h.g
 omega
end
end Go.Proofs.YtflalhdofhobmaaGreat


namespace Go.Proofs.YtflalhdofhobmaaGreat
open Go
attribute [local irreducible] Sx Cx Rx Fx Krg Ksq Kbl Klp Kr
section
variable {L F G : St}
theorem takeStep_pop {k : Sk} {ba : Int} {m : Mm} {s : SupS} {t : TakeS} {len : Nat} (hk : k.ok len) (hm : m.ok) (hq : t.q.ok k) (h1 : t.at_ = 1) (hd : t.done = false) :
  ((takeStep k ba m s t).2.2.done = false → (takeStep k ba m s t).2.2.at_ = 1) ∧ ((takeStep k ba m s t).2.2.is_ = true → (takeStep k ba m s t).2.2.done = true → t.is_ = false → 0 ≤ (takeStep k ba m s t).2.2.chunk) := by
 have hp := popStep_ok hk hm hq
 unfold takeStep
 rw [hd, h1]
 simp only [Bool.false_eq_true, if_false]
 split
 ·unfold popped
  dsimp only
  split
  ·exact ⟨fun h => (by cases h), fun h1 _ h2 => by dsimp only at h1; rw [h2] at h1; cases h1⟩
  ·rename_i y l hg
   refine ⟨fun h => (by cases h), fun _ _ _ => ?_⟩
   exact (hp.g y (by rw [hg]; simp)).1
 ·exact ⟨fun _ => rfl, fun _ h _ => by cases h⟩
end
end Go.Proofs.YtflalhdofhobmaaGreat


namespace Go.Proofs.YtflalhdofhobmaaGreat
open Go
attribute [local irreducible] Sx Cx Rx Fx Krg Ksq Kbl Klp Kr
section
variable {L F G : St}
def rpushL (T : TypeId) (sb : Nat) (p : PushS) (a : Option Addr) (y : Option Addr × Nat) : St :=
 [pt a (Blk T [.pointer (some ⟨sb, 0, none⟩), .slice y.1 p.l.length y.2, .int .i64 (p.at_ : Nat), wd p.was, .bool p.done]), pt y.1 (Row 3 1 p.l.length y.2 (ints p.l))]
def RPushT (T : TypeId) (sb : Nat) (p : PushS) (a : Option Addr) : As := exs (rpushL T sb p a)
abbrev RPushO := RPushT 206
theorem RPushO.close {T : TypeId} {sb : Nat} {a r : Option Addr} {c n : Nat} {v0 v2 v3 v4 : Value} {w : List Value} {F G : St} (p : PushS) [t : Take L a (Blk T [v0, .slice r n c, v2, v3, v4]) F] [u : Take F r (Row 3 1 n c w) G]
  (h0 : v0 = .pointer (some ⟨sb, 0, none⟩)) (h1 : n = p.l.length) (h2 : v2 = .int .i64 (p.at_ : Nat)) (h3 : v3 = wd p.was) (h4 : v4 = .bool p.done) (hw : w = ints p.l) : Ent L (pt a (RPushT T sb p) :: G) := by
 subst h0 h1 h2 h3 h4 hw
 refine Ent.trans (Ent.take1 (t := t) (Ent.of u.out)) ?_
 exact Ent.close (f := rpushL T sb p a) rfl (r, c)
theorem refPushNew {sb rm : Nat} {k : Sk} {a : Option Addr} {n c : Nat} {l : List Int} (hr : Rd L 1 a n (ints l)) (hn : n ≤ 1000000000) [t : Take L (some ⟨sb, 0, none⟩) (RSkO rm k) F] :
  Fx Tryz.prog 193 [.pointer (some ⟨sb, 0, none⟩), .slice a n c] L (fun v L' => ∃ p, v = .pointer (some ⟨p, 0, none⟩) ∧ L' = pt (some ⟨p, 0, none⟩) (RPushO sb (PushS.init l)) :: L) := by
 have hl : l.length = n := by have := hr.1; simpa [ints] using this
 refine Fx.mk Tryz.func193 k193 nb_ ?_
 dsimp only [c193, envOf, Nat.reduceAdd]
 refine go ?_
 refine Sx.apn rfl rfl hr (ones_ints _) (by simp [maxLen]; omega) (by omega) fun r2 c2 h4 => ?_
 refine go ?_
 refine Sx.bx rfl rfl fun p => ?_
 refine Sx.re [.pointer (some ⟨sb, 0, none⟩), .slice r2 n c2, .int .i64 0, .int .u64 0, .bool (decide ((n : Int) = 0))] rfl ?_
 refine go ?_
 refine Kr.one (.inr rfl) rfl ?_ ⟨p, rfl, rfl⟩
 refine RPushO.close (a := some ⟨p, 0, none⟩) (r := r2) (sb := sb) (PushS.init l) rfl hl.symm rfl rfl ?_ rfl
 show Value.bool _ = Value.bool (decide (l = []))
 congr 1
 exact decide_eq_decide.2 ⟨fun h => List.eq_nil_of_length_eq_zero (by omega), fun h => by rw [h] at hl; simp at hl; omega⟩
set_option maxHeartbeats 2000000 in
theorem refPushStep {b sb rm : Nat} {k : Sk} {m : Mm} {p : PushS} {F1 F2 : St} (hk : k.ok m.ws.length) (hp : p.ok k) (hlen : p.l.length ≤ 1000000) [t1 : Take L (some ⟨b, 0, none⟩) (RPushO sb p) F1] [t2 : Take F1 (some ⟨rm, 0, none⟩) (RMemO m) F2] [t3 : Take F2 (some ⟨sb, 0, none⟩) (RSkO rm k) G] :
  Fx Tryz.prog 127 [.pointer (some ⟨b, 0, none⟩)] L (fun v L' => v = .bool (!p.done) ∧ L' = pt (some ⟨b, 0, none⟩) (RPushO sb (pushStep k m p).1) :: pt (some ⟨rm, 0, none⟩) (RMemO (pushStep k m p).2) :: F2) := by
 obtain ⟨k1, k2, k3, k4, k5, k6⟩ := hk
 refine Fx.mk Tryz.func127 k127 nb_ ?_
 dsimp only [c127, envOf, Nat.reduceAdd]
 refine Cx.ent (Ent.trans (Ent.of t1.out) (Ent.cons (Ent.trans (Ent.of t2.out) (Ent.cons (Ent.of t3.out))))) ?_
 refine Cx.pure (rmemKey (rm := rm) (m := m)) fun hm => ?_
 refine Cx.openp (a := some ⟨b, 0, none⟩) rfl ?_
 rintro ⟨r, c⟩
 simp only [rpushL, List.cons_append, List.nil_append]
 cases hd : p.done with
 | true =>
   have e1 : pushStep k m p = (p, m) := by unfold pushStep; rw [hd]; rfl
   rw [e1]
   refine go ?_
   refine Kr.one (.inr rfl) rfl (Ent.trans (RPushO.close (sb := sb) (a := some ⟨b, 0, none⟩) (r := r) p rfl rfl rfl rfl (by rw [hd]) rfl) (Ent.cons (Ent.cons (Ent.of t3.back)))) ⟨rfl, rfl⟩
 | false =>
   have hlp := List.length_pos_iff.2 (hp.ne hd)
   have hpa := hp.a
   refine Cx.rowkey (a := r) fun hxl hc1 hc2 hkr => ?_
   obtain ⟨rg, rfl⟩ : ∃ g, r = some ⟨g, 0, none⟩ := by
    rcases hkr with h | h
    ·omega
    ·exact h
   refine go ?_
   refine Cx.ordc rfl kr_ ?_
   refine ge ?_
   refine go ?_
   rw [w64 (n := (p.l.length : Int) - 1) (by omega) (by omega)]
   by_cases h1 : p.at_ + 1 < p.l.length
   ·have hv1 := itI_some (l := p.l) (i := p.at_) (by omega)
    have hv2 := itI_some (l := p.l) (i := p.at_ + 1) (by omega)
    have hr1 := hp.g _ (itI_mem (l := p.l) (i := p.at_) (by omega))
    have hr2 := hp.g _ (itI_mem (l := p.l) (i := p.at_ + 1) (by omega))
    obtain ⟨x, hx⟩ : ∃ x : Nat, itI p.l p.at_ = x := ⟨(itI p.l p.at_).toNat, by omega⟩
    obtain ⟨y, hy⟩ : ∃ y : Nat, itI p.l (p.at_ + 1) = y := ⟨(itI p.l (p.at_ + 1)).toNat, by omega⟩
    have e1 : pushStep k m p = ({ p with at_ := p.at_ + 1 }, m.put (k.links + x) (y + 1)) := by
     unfold pushStep; rw [hd]; simp only [Bool.false_eq_true, if_false]; rw [if_pos h1, hx, hy]; rfl
    rw [hx] at hr1 hv1
    rw [hy] at hr2 hv2
    rw [e1]
    refine Cx.cyes rfl (decide_eq_true (by omega)) ?_
    refine go ?_
    refine Cx.ordc rfl kr_ ?_
    refine ge ?_
    refine Ev.ldrH (b := rg) kr_ rfl rfl (v := .int .i64 (x : Nat)) (by rw [show 0 + ((p.at_ : Int)).toNat * 1 = p.at_ by omega]; exact hv1) ?_
    refine ge ?_
    rw [w64 (n := (p.at_ : Int) + 1) (by omega) (by omega)]
    refine Ev.pvH kr_ rfl rfl ⟨by omega, by omega⟩ ?_
    refine Ev.ldrH (b := rg) kr_ rfl rfl (v := .int .i64 (y : Nat)) (by rw [show 0 + ((p.at_ : Int) + 1).toNat * 1 = p.at_ + 1 by omega]; exact hv2) ?_
    refine ge ?_
    rw [w64 (n := (k.links : Int) + x) (by omega) (by omega), show (k.links : Int) + x = ((k.links + x : Nat) : Int) by omega, wrapS (x := (y : Int) + 1) (by omega) (by omega), show ((y : Int) + 1).toNat = y + 1 by omega]
    refine Ev.caH kr_ rfl rfl (refStore (rm := rm) (m := m) (k.links + x) (y + 1) (by omega) (by omega)) (Pres.deps kr_) ?_
    rintro v L' ⟨rfl, rfl⟩
    refine ge ?_
    refine go ?_
    rw [w64 (n := (p.at_ : Int) + 1) (by omega) (by omega)]
    refine Kr.one (.inr rfl) rfl ?_ ⟨rfl, rfl⟩
    refine Ent.trans (RPushO.close (sb := sb) (a := some ⟨b, 0, none⟩) (r := some ⟨rg, 0, none⟩) { p with at_ := p.at_ + 1 } rfl rfl rfl rfl (by rw [hd]) rfl) (Ent.cons ?_)
    refine Ent.trans ?_ (Ent.cons (Ent.of t3.back))
    exact ent
   ·refine Cx.cno rfl (decide_eq_false (by omega)) ?_
    refine go ?_
    rw [w64 (n := (p.l.length : Int) - 1) (by omega) (by omega)]
    by_cases h2 : p.at_ + 1 = p.l.length
    ·have e1 : pushStep k m p = ({ p with at_ := p.at_ + 1, was := m.at_ k.head }, m.tick) := by
      unfold pushStep; rw [hd]; simp only [Bool.false_eq_true, if_false]; rw [if_neg h1, if_pos h2]
     rw [e1]
     refine Cx.cyes rfl (decide_eq_true (by omega)) ?_
     refine go ?_
     refine Cx.ordc rfl kr_ ?_
     refine ge ?_
     refine Ev.caH kr_ rfl rfl (refLoad (rm := rm) (m := m) k.head k3) (Pres.deps kr_) ?_
     rintro v L' ⟨rfl, rfl⟩
     refine ge ?_
     refine Ev.stbH (b := b) kr_ rfl rfl rfl rfl rfl (by rfl) rfl (Pres.deps kr_) ?_
     refine ge ?_
     refine go ?_
     rw [w64 (n := (p.at_ : Int) + 1) (by omega) (by omega)]
     refine Kr.one (.inr rfl) rfl ?_ ⟨rfl, rfl⟩
     refine Ent.trans (RPushO.close (sb := sb) (a := some ⟨b, 0, none⟩) (r := some ⟨rg, 0, none⟩) { p with at_ := p.at_ + 1, was := m.at_ k.head } rfl rfl rfl rfl (by rw [hd]) rfl) (Ent.cons ?_)
     refine Ent.trans ?_ (Ent.cons (Ent.of t3.back))
     exact ent
    ·refine Cx.cno rfl (decide_eq_false (by omega)) ?_
     refine go ?_
     by_cases h3 : p.at_ = p.l.length
     ·have hv1 := itI_some (l := p.l) (i := p.l.length - 1) (by omega)
      have hr1 := hp.g _ (itI_mem (l := p.l) (i := p.l.length - 1) (by omega))
      have ht1 := k.top_ge p.was
      have ht2 := k.top_lt p.was
      obtain ⟨x, hx⟩ : ∃ x : Nat, itI p.l (p.l.length - 1) = x := ⟨(itI p.l (p.l.length - 1)).toNat, by omega⟩
      have e1 : pushStep k m p = ({ p with at_ := p.at_ + 1 }, m.put (k.links + x) (k.top p.was + 1).toNat) := by
       unfold pushStep; rw [hd]; simp only [Bool.false_eq_true, if_false]; rw [if_neg h1, if_neg h2, if_pos h3, hx]; rfl
      rw [hx] at hr1 hv1
      rw [e1]
      refine Cx.cyes rfl (decide_eq_true (by omega)) ?_
      refine go ?_
      refine Cx.ordc rfl kr_ ?_
      refine ge ?_
      rw [w64 (n := (p.l.length : Int) - 1) (by omega) (by omega)]
      refine Ev.pvH kr_ rfl rfl ⟨by omega, by omega⟩ ?_
      refine Ev.ldrH (b := rg) kr_ rfl rfl (v := .int .i64 (x : Nat)) (by rw [show 0 + ((p.l.length : Int) - 1).toNat * 1 = p.l.length - 1 by omega]; exact hv1) ?_
      refine ge ?_
      refine Ev.cakH kr_ rfl rfl (refTop (sb := sb) (rm := rm) (k := k) p.was hp.w) ?_
      refine ge ?_
      rw [w64 (n := (k.links : Int) + x) (by omega) (by omega), show (k.links : Int) + x = ((k.links + x : Nat) : Int) by omega, wrapS (x := k.top p.was + 1) (by omega) (by omega)]
      refine Ev.caH kr_ rfl rfl (refStore (rm := rm) (m := m) (k.links + x) (k.top p.was + 1).toNat (by omega) (by omega)) (Pres.deps kr_) ?_
      rintro v L' ⟨rfl, rfl⟩
      refine ge ?_
      refine go ?_
      rw [w64 (n := (p.at_ : Int) + 1) (by omega) (by omega)]
      refine Kr.one (.inr rfl) rfl ?_ ⟨rfl, rfl⟩
      refine Ent.trans (RPushO.close (sb := sb) (a := some ⟨b, 0, none⟩) (r := some ⟨rg, 0, none⟩) { p with at_ := p.at_ + 1 } rfl rfl rfl rfl (by rw [hd]) rfl) (Ent.cons ?_)
      refine Ent.trans ?_ (Ent.cons (Ent.of t3.back))
      exact ent
     ·have hv1 := itI_some (l := p.l) (i := 0) (by omega)
      have hr1 := hp.g _ (itI_mem (l := p.l) (i := 0) (by omega))
      have hnl := nextW_lt (i := itI p.l 0) hp.w (by omega)
      have e1 : pushStep k m p = ({ p with at_ := p.l.length - 1, done := decide (m.at_ k.head = p.was) }, m.cas k.head p.was (nextW p.was (itI p.l 0))) := by
       unfold pushStep; rw [hd]; simp only [Bool.false_eq_true, if_false]; rw [if_neg h1, if_neg h2, if_neg h3]
      rw [e1]
      refine Cx.cno rfl (decide_eq_false (by omega)) ?_
      refine go ?_
      refine Cx.ordc rfl kr_ ?_
      refine ge ?_
      refine Ev.ldrH (b := rg) kr_ rfl rfl (v := .int .i64 (itI p.l 0)) hv1 ?_
      refine ge ?_
      refine Ev.cakH kr_ rfl rfl (refNextW p.was (itI p.l 0) hp.w (by omega) (by omega)) ?_
      refine ge ?_
      refine Ev.caH kr_ rfl rfl (refCas (rm := rm) (m := m) k.head p.was (nextW p.was (itI p.l 0)) k3 hp.w hnl) (Pres.deps kr_) ?_
      rintro v L' ⟨rfl, rfl⟩
      refine ge ?_
      refine Ev.stbH (b := b) kr_ rfl rfl rfl rfl rfl (by rfl) rfl (Pres.deps kr_) ?_
      refine ge ?_
      refine go ?_
      rw [w64 (n := (p.l.length : Int) - 1) (by omega) (by omega)]
      refine Kr.one (.inr rfl) rfl ?_ ⟨rfl, rfl⟩
      refine Ent.trans (RPushO.close (sb := sb) (a := some ⟨b, 0, none⟩) (r := some ⟨rg, 0, none⟩) { p with at_ := p.l.length - 1, done := decide (m.at_ k.head = p.was) } rfl rfl (congrArg (Value.int .i64) (by dsimp only; omega)) rfl rfl rfl) (Ent.cons ?_)
      refine Ent.trans ?_ (Ent.cons (Ent.of t3.back))
      exact ent
def rgiveL (T : TypeId) (rp : Nat) (p : PushS) (a : Option Addr) (y : Nat × Option Addr × Nat) : St :=
 [pt a (Blk T [.pointer (some ⟨y.1, 0, none⟩), .slice y.2.1 p.l.length y.2.2, .bool p.done]), pt (some ⟨y.1, 0, none⟩) (RPushO rp p), pt y.2.1 (Row 3 1 p.l.length y.2.2 (ints p.l))]
def RGiveT (T : TypeId) (rp : Nat) (p : PushS) (a : Option Addr) : As := exs (rgiveL T rp p a)
abbrev RGiveO := RGiveT 189
theorem RGiveO.close {b q rp n c : Nat} {r : Option Addr} {d : Bool} {p0 : PushS} {w : List Value} (p : PushS) (hq : p0 = p) (hn : n = p.l.length) (hd : d = p.done) (hw : w = ints p.l) :
  Ent (pt (some ⟨b, 0, none⟩) (Blk 189 [.pointer (some ⟨q, 0, none⟩), .slice r n c, .bool d]) :: pt (some ⟨q, 0, none⟩) (RPushO rp p0) :: pt r (Row 3 1 n c w) :: G) (pt (some ⟨b, 0, none⟩) (RGiveO rp p) :: G) := by
 subst hq hn hd hw
 exact Ent.close (f := rgiveL 189 rp p0 (some ⟨b, 0, none⟩)) rfl (q, r, c)
theorem refGiveStep {b rp rm : Nat} {k : Sk} {m : Mm} {p : PushS} {F1 F2 : St} (hk : k.ok m.ws.length) (hp : p.ok k) (hlen : p.l.length ≤ 1000000) [t1 : Take L (some ⟨b, 0, none⟩) (RGiveO rp p) F1] [t2 : Take F1 (some ⟨rm, 0, none⟩) (RMemO m) F2] [t3 : Take F2 (some ⟨rp, 0, none⟩) (RSkO rm k) G] :
  Fx Tryz.prog 114 [.pointer (some ⟨b, 0, none⟩)] L (fun v L' => v = .bool (!p.done) ∧ L' = pt (some ⟨b, 0, none⟩) (RGiveO rp (pushStep k m p).1) :: pt (some ⟨rm, 0, none⟩) (RMemO (pushStep k m p).2) :: F2) := by
 have hlp := pushStep_l k m p
 refine Fx.mk Tryz.func114 k114 nb_ ?_
 dsimp only [c114, envOf, Nat.reduceAdd]
 refine Cx.ent (Ent.trans (Ent.of t1.out) (Ent.cons (Ent.trans (Ent.of t2.out) (Ent.cons (Ent.of t3.out))))) ?_
 refine Cx.openp (a := some ⟨b, 0, none⟩) rfl ?_
 rintro ⟨q, r, c⟩
 simp only [rgiveL, List.cons_append, List.nil_append]
 cases hd : p.done with
 | true =>
   have e1 : pushStep k m p = (p, m) := by unfold pushStep; rw [hd]; rfl
   rw [e1]
   refine go ?_
   refine Kr.one (.inr rfl) rfl (Ent.trans (RGiveO.close p rfl rfl hd.symm rfl) (Ent.cons (Ent.cons (Ent.of t3.back)))) ⟨rfl, rfl⟩
 | false =>
   refine go ?_
   refine Sx.ca rfl (refPushStep (b := q) (sb := rp) (rm := rm) (k := k) (m := m) (p := p) hk hp hlen) ?_
   rintro v L' ⟨rfl, rfl⟩
   refine Sx.nil ?_
   refine Krg.i ?_
   refine Ksq.nm ?_
   refine Cx.openp (a := some ⟨q, 0, none⟩) rfl ?_
   rintro ⟨r2, c2⟩
   simp only [rpushL, List.cons_append, List.nil_append]
   refine go ?_
   refine Kr.one (.inr rfl) rfl ?_ ⟨rfl, rfl⟩
   refine Ent.trans (Ent.take (a := some ⟨q, 0, none⟩)) ?_
   refine Ent.trans (RPushO.close (sb := rp) (a := some ⟨q, 0, none⟩) (r := r2) (pushStep k m p).1 rfl rfl rfl rfl rfl rfl) ?_
   refine Ent.trans (Ent.cons (Ent.take (a := some ⟨b, 0, none⟩))) ?_
   refine Ent.trans Ent.swap ?_
   refine Ent.trans (Ent.cons (Ent.cons (Ent.take (a := r)))) ?_
   refine Ent.trans (RGiveO.close (pushStep k m p).1 rfl (by rw [hlp]) rfl (by rw [hlp])) (Ent.cons ?_)
   refine Ent.trans ?_ (Ent.cons (Ent.of t3.back))
   exact ent
end
end Go.Proofs.YtflalhdofhobmaaGreat


namespace Go.Proofs.YtflalhdofhobmaaGreat
open Go
attribute [local irreducible] Sx Cx Rx Fx Krg Ksq Kbl Klp Kr
section
variable {L F G : St}
theorem refGiveNew {s w st lm rm rp rs re : Nat} {x : Cn} {l : List Int} {a : Option Addr} {n c : Nat} (hn : n = l.length) (hb : n ≤ 1000000) {F1 F2 F3 : St} [t1 : Take L (some ⟨s, 0, none⟩) (Blk 183 [.pointer (some ⟨w, 0, none⟩), .pointer (some ⟨st, 0, none⟩), .pointer (some ⟨lm, 0, none⟩)]) F1] [t2 : Take F1 (some ⟨w, 0, none⟩) (RWO x rm rp rs re) F2] [t3 : Take F2 (some ⟨rp, 0, none⟩) (RSkO rm x.pool) F3] [t4 : Take F3 a (Row 3 1 n c (ints l)) G] :
  Fx Tryz.prog 196 [.pointer (some ⟨s, 0, none⟩), .slice a n c] L (fun v L' => ∃ q, v = .pointer (some ⟨q, 0, none⟩) ∧ L' = pt (some ⟨q, 0, none⟩) (RGiveO rp (PushS.init l)) :: pt (some ⟨s, 0, none⟩) (Blk 183 [.pointer (some ⟨w, 0, none⟩), .pointer (some ⟨st, 0, none⟩), .pointer (some ⟨lm, 0, none⟩)]) :: pt (some ⟨w, 0, none⟩) (RWO x rm rp rs re) :: pt (some ⟨rp, 0, none⟩) (RSkO rm x.pool) :: G) := by
 subst hn
 refine Fx.mk Tryz.func196 k196 nb_ ?_
 dsimp only [c196, envOf, Nat.reduceAdd]
 refine Cx.ent (Ent.trans (Ent.of t1.out) (Ent.cons (Ent.trans (Ent.of t2.out) (Ent.cons (Ent.trans (Ent.of t3.out) (Ent.cons (Ent.of t4.out))))))) ?_
 refine Cx.rowkey (a := a) fun hxl hc1 _ hkr => ?_
 have hk2 : l.length = 0 ∨ ∃ g, a = some ⟨g, 0, none⟩ := hkr.imp (fun h => h.2.1) id
 refine go ?_
 refine Sx.ca rfl (refPushNew (sb := rp) (rm := rm) (k := x.pool) (l := l) (Rd.any (a := a) hxl hk2) (by omega)) ?_
 rintro v L' ⟨p, rfl, rfl⟩
 refine go ?_
 refine Sx.apn rfl rfl (Rd.any (a := a) hxl hk2) (ones_ints _) (by simp [maxLen]; omega) (by omega) fun r2 c2 h4 => ?_
 refine go ?_
 refine Sx.bx rfl rfl fun q => ?_
 refine Sx.re [.pointer (some ⟨p, 0, none⟩), .slice r2 l.length c2, .bool (decide ((l.length : Int) = 0))] rfl ?_
 refine go ?_
 refine Kr.one (.inr rfl) rfl ?_ ⟨q, rfl, rfl⟩
 refine Ent.trans (M := pt (some ⟨q, 0, none⟩) (Blk 189 [.pointer (some ⟨p, 0, none⟩), .slice r2 l.length c2, .bool (decide ((l.length : Int) = 0))]) :: pt (some ⟨p, 0, none⟩) (RPushO rp (PushS.init l)) :: pt r2 (Row 3 1 l.length c2 (ints l)) :: _) (Ent.trans (Ent.cons (Ent.take (a := some ⟨p, 0, none⟩))) (Ent.cons (Ent.cons (Ent.take (a := r2))))) ?_
 refine Ent.trans (RGiveO.close (PushS.init l) rfl rfl ?_ rfl) (Ent.cons ?_)
 ·show decide _ = decide (l = [])
  exact decide_eq_decide.2 ⟨fun h => List.eq_nil_of_length_eq_zero (by omega), fun h => by rw [h]; rfl⟩
 ·exact ent
theorem refSpill {s w rm rp rs re : Nat} {x : Cn} {S : SupS} {F1 F2 : St} (hb : S.xs.length ≤ 1000000) (hm0 : 0 ≤ S.most) (hm2 : S.most ≤ 64) [t2 : Take L (some ⟨s, 0, none⟩) (RSupO w S) F1] [t3 : Take F1 (some ⟨w, 0, none⟩) (RWO x rm rp rs re) F2] [t4 : Take F2 (some ⟨rp, 0, none⟩) (RSkO rm x.pool) G] :
  Fx Tryz.prog 128 [.pointer (some ⟨s, 0, none⟩)] L (fun v L' => ∃ q, v = .pointer (some ⟨q, 0, none⟩) ∧ L' = pt (some ⟨q, 0, none⟩) (RGiveO rp (PushS.init (S.xs.take (overK S.most S.xs)))) :: pt (some ⟨s, 0, none⟩) (RSupO w { S with xs := S.xs.drop (overK S.most S.xs) }) :: F1) := by
 have hov : overK S.most S.xs ≤ S.xs.length := by unfold overK; omega
 have hback : Ent (pt (some ⟨w, 0, none⟩) (RWO x rm rp rs re) :: pt (some ⟨rp, 0, none⟩) (RSkO rm x.pool) :: G) F1 := Ent.trans (Ent.cons (Ent.of t4.back)) (Ent.of t3.back)
 refine Fx.mk Tryz.func128 k128 nb_ ?_
 dsimp only [c128, envOf, Nat.reduceAdd]
 refine Cx.ent (Ent.trans (Ent.of t2.out) (Ent.cons (Ent.trans (Ent.of t3.out) (Ent.cons (Ent.of t4.out))))) ?_
 refine Cx.openp (a := some ⟨s, 0, none⟩) rfl ?_
 rintro ⟨st, lm⟩
 simp only [rsupL, List.cons_append, List.nil_append]
 refine go ?_
 refine Sx.ca rfl (refOver (b := st) (most := S.most) (xs := S.xs) (by omega) hm0 hm2) ?_
 rintro v L' ⟨a, c, rfl, rfl⟩
 refine go ?_
 refine Sx.ca rfl (refGiveNew (s := s) (w := w) (st := st) (lm := lm) (rm := rm) (rp := rp) (rs := rs) (re := re) (x := x) (l := S.xs.take (overK S.most S.xs)) (a := a) (by rw [List.length_take]; omega) (by omega)) ?_
 rintro v L' ⟨q, rfl, rfl⟩
 refine go ?_
 refine Kr.one (.inr rfl) rfl (Ent.cons ?_) ⟨q, rfl, rfl⟩
 refine Ent.trans (M := pt (some ⟨s, 0, none⟩) (Blk 183 [.pointer (some ⟨w, 0, none⟩), .pointer (some ⟨st, 0, none⟩), .pointer (some ⟨lm, 0, none⟩)]) :: pt (some ⟨st, 0, none⟩) (RefO S.most (S.xs.drop (overK S.most S.xs))) :: pt (some ⟨lm, 0, none⟩) (RLimboO S.lm) :: pt (some ⟨w, 0, none⟩) (RWO x rm rp rs re) :: pt (some ⟨rp, 0, none⟩) (RSkO rm x.pool) :: G) (by exact ent) ?_
 exact Ent.trans (RSupO.close (a := some ⟨s, 0, none⟩) (st := st) (lm := lm) (w := w) { S with xs := S.xs.drop (overK S.most S.xs) } rfl rfl rfl) (Ent.cons hback)
def ralGL (T : TypeId) (sa rp slot : Nat) (gen : Int) (n : Nat) (s : AlS) (a : Option Addr) (y : Value × Nat × Bool) : St :=
 [pt a (Blk T (ralV sa slot gen n 6 (s.v.cnt : Nat) s.v y.1 (.pointer (some ⟨y.2.1, 0, none⟩)) y.2.2 s.done)), pt (some ⟨y.2.1, 0, none⟩) (RGiveO rp s.g)]
def RAgT (T : TypeId) (sa rp slot : Nat) (gen : Int) (n : Nat) (s : AlS) (a : Option Addr) : As := bif Nat.beq s.at_ 6 then exs (ralGL T sa rp slot gen n s a) else RAlT T sa rp slot gen n s a
abbrev RAgO := RAgT 87
theorem RAgO.g_ {T : TypeId} {sa rp slot : Nat} {gen : Int} {n : Nat} {s : AlS} {a : Option Addr} (h : s.at_ = 6) : RAgT T sa rp slot gen n s a = exs (ralGL T sa rp slot gen n s a) := by unfold RAgT; rw [h]; rfl
theorem RAgO.r_ {T : TypeId} {sa rp slot : Nat} {gen : Int} {n : Nat} {s : AlS} {a : Option Addr} (h : s.at_ ≠ 6) : RAgT T sa rp slot gen n s a = RAlT T sa rp slot gen n s a := by
 unfold RAgT
 cases hb : Nat.beq s.at_ 6 with
 | true => exact absurd (Nat.eq_of_beq_eq_true hb) h
 | false => rfl
theorem RAgO.closeG {b sa rp slot at_ q : Nat} {gen : Int} {n : Nat} {cnt : Int} {v : AlV} {tp : Value} {dry d : Bool} {g : PushS} (s : AlS) (h : s.at_ = 6) (hd : d = s.done) (ha : at_ = 6) (hc : cnt = (s.v.cnt : Nat)) (hv : { v with cnt := s.v.cnt, ends := s.v.ends, asked := s.v.asked } = s.v) (hg : g = s.g) :
  Ent (ralB b sa slot gen n at_ cnt v tp (.pointer (some ⟨q, 0, none⟩)) dry d :: pt (some ⟨q, 0, none⟩) (RGiveO rp g) :: G) (pt (some ⟨b, 0, none⟩) (RAgO sa rp slot gen n s) :: G) := by
 subst hd ha hc hg
 obtain ⟨a1, v0, t0, g0, d0⟩ := s
 obtain ⟨c1, c2, c3, c4, c5, c6, c7, c8, c9, c10⟩ := v0
 obtain ⟨e1, e2, e3, e4, e5, e6, e7, e8, e9, e10⟩ := v
 dsimp only at hv
 cases hv
 exact Ent.close (f := ralGL 87 sa rp slot gen n _ (some ⟨b, 0, none⟩)) (RAgO.g_ h) (tp, q, dry)
theorem alClose_eq {x : Cn} {s : SupS} {v : AlV} {t : TakeS} {code : Nat} {o : Hd} (hnd : (s.xs ++ (if 0 ≤ v.hand then [v.hand] else [])).Nodup) (hr : ∀ y ∈ s.xs ++ (if 0 ≤ v.hand then [v.hand] else []), 0 ≤ y ∧ y < (x.c : Int)) {l : List Int} (hl : s.xs ++ (if 0 ≤ v.hand then [v.hand] else []) = l) :
  alClose x.pool s v t code o = ({ s with xs := l.drop (overK s.most l) }, ⟨6, { v with code := code, obj := o, point := v.cnt, ends := true, hand := -1 }, t, PushS.init (l.take (overK s.most l)), (PushS.init (l.take (overK s.most l))).done⟩) := by
 have e1 : (if 0 ≤ v.hand then s.give [v.hand] else s) = { s with xs := l } := by
  rw [← hl]; unfold SupS.give
  by_cases h : 0 ≤ v.hand
  ·rw [if_pos h, if_pos h]
  ·rw [if_neg h, if_neg h, List.append_nil]
 rw [hl] at hnd hr
 have htd := List.take_append_drop (overK s.most l) l
 have hgi : giveInit x.pool (l.take (overK s.most l)) = PushS.init (l.take (overK s.most l)) := giveInit_yes ⟨by rw [← htd] at hnd; exact (List.nodup_append.1 hnd).1, fun y hy => hr y (List.mem_of_mem_take hy)⟩
 unfold alClose
 rw [e1]
 simp only [hgi]
end
end Go.Proofs.YtflalhdofhobmaaGreat


namespace Go.Proofs.YtflalhdofhobmaaGreat
open Go
attribute [local irreducible] Sx Cx Rx Fx Krg Ksq Kbl Klp Kr
section
variable {L F G : St}
set_option maxHeartbeats 2000000 in
theorem refAgCloses {b sa w rm rp rs re slot at_ : Nat} {gen : Int} {n : Nat} {x : Cn} {S : SupS} {v : AlV} {tp gp : Value} {dry : Bool} {cnt : Int} {l : List Int} (t : TakeS) (hcnt : cnt = (v.cnt : Nat)) (hh : -1 ≤ v.hand) (hb : S.xs.length ≤ 99999) (hm0 : 0 ≤ S.most) (hm2 : S.most ≤ 64) (hl : S.xs ++ (if 0 ≤ v.hand then [v.hand] else []) = l) :
  Fx Tryz.prog 177 [.pointer (some ⟨b, 0, none⟩)] (ralB b sa slot gen n at_ cnt v tp gp dry false :: pt (some ⟨sa, 0, none⟩) (RSupO w S) :: pt (some ⟨w, 0, none⟩) (RWO x rm rp rs re) :: pt (some ⟨rp, 0, none⟩) (RSkO rm x.pool) :: G)
   (fun _ L' => L' = pt (some ⟨b, 0, none⟩) (RAgO sa rp slot gen n ⟨6, { v with ends := true, hand := -1 }, t, PushS.init (l.take (overK S.most l)), (PushS.init (l.take (overK S.most l))).done⟩) :: pt (some ⟨sa, 0, none⟩) (RSupO w { S with xs := l.drop (overK S.most l) }) :: pt (some ⟨w, 0, none⟩) (RWO x rm rp rs re) :: pt (some ⟨rp, 0, none⟩) (RSkO rm x.pool) :: G) := by
 subst hcnt
 obtain ⟨c1, hd, c3, c4, c5, c6, c7, c8, c9, c10⟩ := v
 dsimp only at hh hl
 refine Fx.mk Tryz.func177 k177 nb_ ?_
 dsimp only [c177, envOf, Nat.reduceAdd]
 refine go ?_
 by_cases h0 : 0 ≤ hd
 ·rw [if_pos h0] at hl
  have hll : l.length ≤ 100000 := by rw [← hl]; simp; omega
  refine Cx.cyes rfl (decide_eq_true h0) ?_
  refine Cx.ent (Ent.take (a := some ⟨sa, 0, none⟩)) ?_
  refine Cx.openp (a := some ⟨sa, 0, none⟩) rfl ?_
  rintro ⟨st, lm⟩
  simp only [rsupL, List.cons_append, List.nil_append]
  refine go ?_
  refine Cx.ordc rfl kr_ ?_
  refine ge ?_
  refine Ev.bsH (sz := 1) (cs := [.int .i64 hd]) kr_ rfl rfl rfl (.dep rfl (.keep (fun v L' ⟨_, _, e⟩ => by subst e; exact Has.cell rfl) (.keep (fun v L' ⟨_, _, e⟩ => by subst e; exact Has.cell rfl) .nil))) fun q => ?_
  refine ge ?_
  refine Ev.caH kr_ rfl rfl (refGive (b := st) (ys := [hd]) (Rd.row (b := q) (E := 3) (cap := 1) rfl) (by omega)) (Pres.deps kr_) ?_
  rintro v L' ⟨rfl, rfl⟩
  refine ge ?_
  refine go ?_
  rw [hl]
  refine Sx.ent (RSupO.close (a := some ⟨sa, 0, none⟩) (st := st) (lm := lm) (w := w) { S with xs := l } rfl rfl rfl) ?_
  refine Sx.ca rfl (refSpill (s := sa) (w := w) (rm := rm) (rp := rp) (rs := rs) (re := re) (x := x) (S := { S with xs := l }) (by show l.length ≤ _; omega) hm0 hm2) ?_
  rintro v' L' ⟨q2, rfl, rfl⟩
  refine go ?_
  refine Sx.ent (Ent.take (a := some ⟨q2, 0, none⟩)) ?_
  refine Sx.openp (a := some ⟨q2, 0, none⟩) rfl ?_
  rintro ⟨pp, ra, ca⟩
  simp only [rgiveL, List.cons_append, List.nil_append]
  refine go ?_
  refine Kr.none (.inl rfl) ?_ rfl
  refine Ent.trans (M := ralB b sa slot gen n 6 (c1 : Nat) ⟨c1, -1, c3, c4, c5, c6, c7, c8, c9, c10⟩ tp (.pointer (some ⟨q2, 0, none⟩)) dry (PushS.init (l.take (overK S.most l))).done :: pt (some ⟨q2, 0, none⟩) (RGiveO rp (PushS.init (l.take (overK S.most l)))) :: pt (some ⟨sa, 0, none⟩) (RSupO w { S with xs := l.drop (overK S.most l) }) :: pt (some ⟨w, 0, none⟩) (RWO x rm rp rs re) :: pt (some ⟨rp, 0, none⟩) (RSkO rm x.pool) :: G) ?_
   (RAgO.closeG (sa := sa) (v := ⟨c1, -1, c3, c4, c5, c6, c7, c8, c9, c10⟩) ⟨6, ⟨c1, -1, c3, c4, true, c6, c7, c8, c9, c10⟩, t, PushS.init (l.take (overK S.most l)), (PushS.init (l.take (overK S.most l))).done⟩ rfl rfl rfl rfl rfl rfl)
  refine Ent.trans (Ent.trans (Ent.take (a := some ⟨q2, 0, none⟩)) (Ent.cons (Ent.trans (Ent.take (a := some ⟨pp, 0, none⟩)) (Ent.cons (Ent.take (a := ra)))))) ?_
  refine Ent.trans (RGiveO.close (PushS.init (l.take (overK S.most l))) rfl rfl rfl rfl) ?_
  exact ent
 ·rw [if_neg h0, List.append_nil] at hl
  have hll : l.length ≤ 100000 := by rw [← hl]; omega
  have hS : S = { S with xs := l } := by rw [← hl]
  obtain rfl : hd = -1 := by omega
  refine Cx.cno rfl (decide_eq_false h0) ?_
  refine go ?_
  refine Sx.ca rfl (refSpill (s := sa) (w := w) (rm := rm) (rp := rp) (rs := rs) (re := re) (x := x) (S := S) (by omega) hm0 hm2) ?_
  rw [hl]
  rintro v' L' ⟨q2, rfl, rfl⟩
  refine go ?_
  refine Sx.ent (Ent.take (a := some ⟨q2, 0, none⟩)) ?_
  refine Sx.openp (a := some ⟨q2, 0, none⟩) rfl ?_
  rintro ⟨pp, ra, ca⟩
  simp only [rgiveL, List.cons_append, List.nil_append]
  refine go ?_
  refine Kr.none (.inl rfl) ?_ rfl
  refine Ent.trans (M := ralB b sa slot gen n 6 (c1 : Nat) ⟨c1, -1, c3, c4, c5, c6, c7, c8, c9, c10⟩ tp (.pointer (some ⟨q2, 0, none⟩)) dry (PushS.init (l.take (overK S.most l))).done :: pt (some ⟨q2, 0, none⟩) (RGiveO rp (PushS.init (l.take (overK S.most l)))) :: pt (some ⟨sa, 0, none⟩) (RSupO w { S with xs := l.drop (overK S.most l) }) :: pt (some ⟨w, 0, none⟩) (RWO x rm rp rs re) :: pt (some ⟨rp, 0, none⟩) (RSkO rm x.pool) :: G) ?_
   (RAgO.closeG (sa := sa) (v := ⟨c1, -1, c3, c4, c5, c6, c7, c8, c9, c10⟩) ⟨6, ⟨c1, -1, c3, c4, true, c6, c7, c8, c9, c10⟩, t, PushS.init (l.take (overK S.most l)), (PushS.init (l.take (overK S.most l))).done⟩ rfl rfl rfl rfl rfl rfl)
  refine Ent.trans (Ent.trans (Ent.take (a := some ⟨q2, 0, none⟩)) (Ent.cons (Ent.trans (Ent.take (a := some ⟨pp, 0, none⟩)) (Ent.cons (Ent.take (a := ra)))))) ?_
  refine Ent.trans (RGiveO.close (PushS.init (l.take (overK S.most l))) rfl rfl rfl rfl) ?_
  exact ent
theorem refAgFine {b sa w rm rp rs re slot at_ : Nat} {gen : Int} {n : Nat} {x : Cn} {S : SupS} {v : AlV} {tp gp : Value} {dry : Bool} {cnt : Int} (t : TakeS) (ch off : Int) (hcnt : cnt = (v.cnt : Nat)) (hh : -1 ≤ v.hand) (hco : v.code = 0) (hb : S.xs.length ≤ 99999) (hm0 : 0 ≤ S.most) (hm2 : S.most ≤ 64)
  (hnd : (S.xs ++ (if 0 ≤ v.hand then [v.hand] else [])).Nodup) (hr : ∀ y ∈ S.xs ++ (if 0 ≤ v.hand then [v.hand] else []), 0 ≤ y ∧ y < (x.c : Int)) :
  Fx Tryz.prog 107 [.pointer (some ⟨b, 0, none⟩), .int .i64 ch, .int .i64 off] (ralB b sa slot gen n at_ cnt v tp gp dry false :: pt (some ⟨sa, 0, none⟩) (RSupO w S) :: pt (some ⟨w, 0, none⟩) (RWO x rm rp rs re) :: pt (some ⟨rp, 0, none⟩) (RSkO rm x.pool) :: G)
   (fun _ L' => L' = pt (some ⟨b, 0, none⟩) (RAgO sa rp slot gen n (alClose x.pool S v t 0 ⟨slot, gen, ch, off, n⟩).2) :: pt (some ⟨sa, 0, none⟩) (RSupO w (alClose x.pool S v t 0 ⟨slot, gen, ch, off, n⟩).1) :: pt (some ⟨w, 0, none⟩) (RWO x rm rp rs re) :: pt (some ⟨rp, 0, none⟩) (RSkO rm x.pool) :: G) := by
 rw [alClose_eq hnd hr rfl]
 subst hcnt
 obtain ⟨c1, hd, c3, c4, c5, c6, c7, c8, c9, c10⟩ := v
 dsimp only at hh hco
 subst hco
 refine Fx.mk Tryz.func107 k107 nb_ ?_
 dsimp only [c107, envOf, Nat.reduceAdd]
 refine Cx.sq ?_
 refine Cx.ordc rfl kr_ ?_
 refine ge ?_
 refine Ev.stnH (b := b) (ralV sa slot gen n at_ (c1 : Nat) ⟨c1, hd, c3, c4, c5, c6, c7, c8, 0, ⟨slot, gen, ch, off, n⟩⟩ tp gp dry false) kr_ rfl rfl rfl rfl rfl rfl rfl rfl (Pres.deps kr_) ?_
 refine ge ?_
 refine Ev.stbH (b := b) kr_ rfl rfl rfl rfl rfl (by rfl) rfl (Pres.deps kr_) ?_
 refine ge ?_
 refine go ?_
 refine Sx.ca rfl (refAgCloses (b := b) (sa := sa) (w := w) (rm := rm) (rp := rp) (rs := rs) (re := re) (slot := slot) (at_ := at_) (gen := gen) (n := n) (x := x) (S := S) (v := ⟨c1, hd, c3, c4, c5, c6, c1, c8, 0, ⟨slot, gen, ch, off, n⟩⟩) (tp := tp) (gp := gp) (dry := dry) t (by rfl) hh hb hm0 hm2 rfl) ?_
 rintro v' L' rfl
 refine go ?_
 exact Kr.none (.inl rfl) (Ent.refl _) rfl
theorem RAgO.fun_ {T : TypeId} {sa rp slot : Nat} {gen : Int} {n : Nat} {s : AlS} (h : s.at_ ≠ 6) : RAgT T sa rp slot gen n s = RAlT T sa rp slot gen n s := funext fun _ => RAgO.r_ h
theorem refAgTaken {b sa rp slot at_ q : Nat} {gen : Int} {n : Nat} {v : AlV} {gp : Value} {t : TakeS} {cnt : Int} (hcnt : cnt = (v.cnt : Nat)) (hd : t.done = true) (hask : v.asked = true) (hz : v.zat = 0) (hh : v.hand = -1) (hch : t.is_ = true → 0 ≤ t.chunk) :
  Fx Tryz.prog 109 [.pointer (some ⟨b, 0, none⟩)] (ralB b sa slot gen n at_ cnt v (.pointer (some ⟨q, 0, none⟩)) gp false false :: pt (some ⟨q, 0, none⟩) (RTakeO sa rp t) :: G)
   (fun _ L' => L' = pt (some ⟨b, 0, none⟩) (RAgO sa rp slot gen n (alTaken v t)) :: G) := by
 have h6 : (alTaken v t).at_ ≠ 6 := by
  unfold alTaken
  split
  ·intro h; cases h
  ·intro h; cases h
 rw [show RAgO sa rp slot gen n (alTaken v t) = RAlO sa rp slot gen n (alTaken v t) from RAgO.fun_ h6]
 exact refAlTaken hcnt hd hask hz hh hch
end
end Go.Proofs.YtflalhdofhobmaaGreat


namespace Go.Proofs.YtflalhdofhobmaaGreat
open Go
attribute [local irreducible] Sx Cx Rx Fx Krg Ksq Kbl Klp Kr
section
variable {L F G : St}
theorem takeInit_kept {ba : Int} {s : SupS} (h : (takeInit ba s).2.done = true) : (takeInit ba s).2.chunk ∈ s.xs := by
 unfold takeInit keepT at h ⊢
 by_cases hx : s.xs = []
 ·rw [if_pos hx] at h
  simp only at h
  split at h <;> cases h
 ·rw [if_neg hx]
  exact lastI_mem hx
set_option maxHeartbeats 2000000 in
theorem refAgSeen {b sa w rm rp rs re slot : Nat} {gen : Int} {n : Nat} {x : Cn} {S : SupS} {v : AlV} {tp gp : Value} {dry : Bool} {cnt : Int} (t : TakeS) (hcnt : cnt = (v.cnt : Nat)) (hx : x.ok) (hn : 1 ≤ n) (hn2 : n ≤ x.wd) (hw8 : x.wd % 8 = 0) (hok : (rtOf v.was).ok) (hh : -1 ≤ v.hand) (hz : v.hand < 0 → v.zat = 0) (hdry : v.hand < 0 → dry = v.asked) (hco : v.code = 0) (hob : v.obj = Hd.zero) (hb : S.xs.length + S.lm.size ≤ 99999) (hm0 : 0 ≤ S.most) (hm2 : S.most ≤ 64)
  (hnd : (S.xs ++ (if 0 ≤ v.hand then [v.hand] else [])).Nodup) (hr : ∀ y ∈ S.xs ++ (if 0 ≤ v.hand then [v.hand] else []), 0 ≤ y ∧ y < (x.c : Int)) :
  Fx Tryz.prog 106 [.pointer (some ⟨b, 0, none⟩)] (ralB b sa slot gen n 0 cnt v tp gp dry false :: pt (some ⟨sa, 0, none⟩) (RSupO w S) :: pt (some ⟨w, 0, none⟩) (RWO x rm rp rs re) :: pt (some ⟨rp, 0, none⟩) (RSkO rm x.pool) :: G)
   (fun _ L' => L' = pt (some ⟨b, 0, none⟩) (RAgO sa rp slot gen n (alSeen (x.al slot gen n) S v t).2) :: pt (some ⟨sa, 0, none⟩) (RSupO w (alSeen (x.al slot gen n) S v t).1) :: pt (some ⟨w, 0, none⟩) (RWO x rm rp rs re) :: pt (some ⟨rp, 0, none⟩) (RSkO rm x.pool) :: G) := by
 subst hcnt
 obtain ⟨b1, b2, b3, b4, b5, b6, b7⟩ := hx.b
 have hwl := rt_was_lt hok
 refine Fx.mk Tryz.func106 k106 nb_ ?_
 dsimp only [c106, envOf, Nat.reduceAdd]
 refine go ?_
 refine Sx.ca rfl (refGetRoot v.was hwl) ?_
 rintro v' L' ⟨rfl, rfl⟩
 refine Sx.al fun o => ?_
 refine Sx.st (b := o) rfl rfl rfl rfl rfl rfl ?_
 refine Sx.re (rtL (rtOf v.was)) rfl ?_
 refine go ?_
 refine Cx.ordc rfl kr_ ?_
 refine ge ?_
 refine Ev.cakH kr_ rfl rfl (refLive (rtOf v.was) gen) ?_
 refine ge ?_
 by_cases hlive : (rtOf v.was).live gen
 case neg =>
  have e : alSeen (x.al slot gen n) S v t = alClose x.pool S v t 3 Hd.zero := by unfold alSeen; rw [if_neg hlive]
  rw [e, alClose_eq hnd hr rfl, decide_eq_false hlive]
  refine go ?_
  refine Sx.ent (Ent.take (a := some ⟨b, 0, none⟩)) ?_
  refine Sx.ent (M := ralB b sa slot gen n 0 (v.cnt : Nat) { v with code := 3, point := v.cnt } tp gp dry false :: pt (some ⟨sa, 0, none⟩) (RSupO w S) :: pt (some ⟨w, 0, none⟩) (RWO x rm rp rs re) :: pt (some ⟨rp, 0, none⟩) (RSkO rm x.pool) :: G) (Ent.cons (by exact ent)) ?_
  refine Sx.ca rfl (refAgCloses (b := b) (sa := sa) (w := w) (rm := rm) (rp := rp) (rs := rs) (re := re) (slot := slot) (at_ := 0) (gen := gen) (n := n) (x := x) (S := S) (v := { v with code := 3, point := v.cnt }) (tp := tp) (gp := gp) (dry := dry) t rfl hh (by omega) hm0 hm2 rfl) ?_
  rintro v' L' rfl
  refine go ?_
  refine Kr.none (.inr rfl) ?_ rfl
  rw [← hob]
  exact Ent.refl _
 case pos =>
  rw [decide_eq_true hlive]
  refine go ?_
  refine Cx.ordc rfl kr_ ?_
  refine ge ?_
  have hrl := roundS_le hok.c hn2 hw8
  have hrg := roundS_ge (n := n) hok.c
  refine Ev.cakH kr_ rfl rfl (refRound (rtOf v.was).cl n hok.c hn (by omega)) ?_
  obtain ⟨need, hneed⟩ : ∃ need, roundS (rtOf v.was).cl n = need := ⟨_, rfl⟩
  rw [hneed] at hrl hrg ⊢
  refine ge ?_
  refine Ev.stbH (b := b) kr_ rfl rfl rfl rfl rfl (by rfl) rfl (Pres.deps kr_) ?_
  refine ge ?_
  refine go ?_
  have hmk := rtOf_mrk v.was
  have hofs := rtOf_off v.was
  have e0 : alSeen (x.al slot gen n) S v t = (if 2 ≤ (rtOf v.was).mrk ∧ fitsS x.wd (rtOf v.was).off need then (S, ⟨1, { v with need := need }, t, gNone, false⟩)
    else if 0 ≤ v.hand then (S, ⟨4, { v with need := need }, t, gNone, false⟩)
    else if v.asked then alClose x.pool S { v with need := need } t 6 Hd.zero
    else if (takeInit x.ba S).2.done then ((takeInit x.ba S).1, alTaken { v with need := need, asked := true } (takeInit x.ba S).2)
    else ((takeInit x.ba S).1, ⟨2, { v with need := need, asked := true }, (takeInit x.ba S).2, gNone, false⟩)) := by
   unfold alSeen; rw [if_pos hlive]; dsimp only; rw [hneed]
  refine Cx.ent (Ent.take (a := some ⟨sa, 0, none⟩)) ?_
  refine Cx.openp (a := some ⟨sa, 0, none⟩) rfl ?_
  rintro ⟨st, lm⟩
  simp only [rsupL, List.cons_append, List.nil_append]
  refine Cx.ordc rfl kr_ ?_
  refine ge ?_
  by_cases hm2' : 2 ≤ (rtOf v.was).mrk
  ·refine Ev.yes 61 rfl (decide_eq_true (by omega)) ?_
   refine ge ?_
   refine Ev.cakH kr_ rfl rfl (refFits2 x.wd (rtOf v.was).off need (by omega) (by omega) (by omega) hrl (by omega)) ?_
   refine ge ?_
   by_cases hf : fitsS x.wd (rtOf v.was).off need
   ·rw [e0, if_pos ⟨hm2', hf⟩, decide_eq_true hf]
    refine go ?_
    refine Kr.none (.inl rfl) ?_ rfl
    refine Ent.trans (RSupO.close (a := some ⟨sa, 0, none⟩) (st := st) (lm := lm) (w := w) S rfl rfl rfl) ?_
    refine Ent.trans (Ent.take (a := some ⟨b, 0, none⟩)) ?_
    dsimp only
    rw [show RAgO sa rp slot gen n ⟨1, { v with need := need }, t, gNone, false⟩ = RAlO sa rp slot gen n ⟨1, { v with need := need }, t, gNone, false⟩ from RAgO.fun_ (by show 1 ≠ 6; omega)]
    refine Ent.trans (RAlO.closeS (rp := rp) (v := { v with need := need }) ⟨1, { v with need := need }, t, gNone, false⟩ (.inr (by show 1 ≠ 2; omega)) rfl rfl rfl rfl (fun _ hneg => hdry hneg)) (Ent.cons ?_)
    exact ent
   rw [if_neg (fun h => hf h.2)] at e0
   rw [decide_eq_false hf]
   refine go ?_
   by_cases h0 : 0 ≤ v.hand
   ·rw [e0, if_pos h0]
    refine Cx.cyes rfl (decide_eq_true h0) ?_
    refine go ?_
    refine Kr.none (.inl rfl) ?_ rfl
    refine Ent.trans (RSupO.close (a := some ⟨sa, 0, none⟩) (st := st) (lm := lm) (w := w) S rfl rfl rfl) ?_
    refine Ent.trans (Ent.take (a := some ⟨b, 0, none⟩)) ?_
    dsimp only
    rw [show RAgO sa rp slot gen n ⟨4, { v with need := need }, t, gNone, false⟩ = RAlO sa rp slot gen n ⟨4, { v with need := need }, t, gNone, false⟩ from RAgO.fun_ (by show 4 ≠ 6; omega)]
    refine Ent.trans (RAlO.closeS (rp := rp) (v := { v with need := need }) ⟨4, { v with need := need }, t, gNone, false⟩ (.inr (by show 4 ≠ 2; omega)) rfl rfl rfl rfl (fun h => absurd (show 4 ≤ 1 from h) (by omega))) (Ent.cons ?_)
    exact ent
   rw [if_neg h0] at e0
   have hhm : v.hand = -1 := by omega
   obtain rfl := hdry (by omega)
   refine Cx.cno rfl (decide_eq_false h0) ?_
   refine go ?_
   cases hask : v.asked with
   | true =>
     rw [hask] at e0
     simp only [if_true] at e0
     rw [alClose_eq (v := { v with need := need, asked := true }) hnd hr rfl] at e0
     rw [e0]
     refine go ?_
     refine Sx.ent (RSupO.close (a := some ⟨sa, 0, none⟩) (st := st) (lm := lm) (w := w) S rfl rfl rfl) ?_
     refine Sx.ent (Ent.take (a := some ⟨b, 0, none⟩)) ?_
     refine Sx.ent (M := ralB b sa slot gen n 0 (v.cnt : Nat) { v with need := need, asked := true, code := 6, point := v.cnt } tp gp true false :: pt (some ⟨sa, 0, none⟩) (RSupO w S) :: pt (some ⟨w, 0, none⟩) (RWO x rm rp rs re) :: pt (some ⟨rp, 0, none⟩) (RSkO rm x.pool) :: G) (Ent.cons (by exact ent)) ?_
     refine Sx.ca rfl (refAgCloses (b := b) (sa := sa) (w := w) (rm := rm) (rp := rp) (rs := rs) (re := re) (slot := slot) (at_ := 0) (gen := gen) (n := n) (x := x) (S := S) (v := { v with need := need, asked := true, code := 6, point := v.cnt }) (tp := tp) (gp := gp) (dry := true) t rfl hh (by omega) hm0 hm2 rfl) ?_
     rintro v' L' rfl
     refine go ?_
     refine Kr.none (.inl rfl) ?_ rfl
     rw [← hob]
     exact Ent.refl _
   | false =>
     rw [hask] at e0
     simp only [Bool.false_eq_true, if_false] at e0
     have hkept := takeInit_kept (ba := x.ba) (s := S)
     obtain ⟨⟨S1, T1⟩, hT1⟩ : ∃ R, takeInit x.ba S = R := ⟨_, rfl⟩
     rw [hT1] at e0 hkept
     dsimp only at e0 hkept
     refine go ?_
     refine Sx.ent (RSupO.close (a := some ⟨sa, 0, none⟩) (st := st) (lm := lm) (w := w) S rfl rfl rfl) ?_
     refine Sx.ca rfl (refTakeNew (s := sa) (w := w) (rm := rm) (rp := rp) (rs := rs) (re := re) (x := x) (S := S) hx (by omega)) ?_
     rw [hT1]
     dsimp only
     rintro v' L' ⟨q, rfl, rfl⟩
     cases hd1 : T1.done with
     | true =>
       rw [hd1] at e0
       simp only [if_true] at e0
       rw [e0]
       refine go ?_
       refine Sx.ent (Ent.take (a := some ⟨q, 0, none⟩)) ?_
       refine Sx.openp (a := some ⟨q, 0, none⟩) (RTakeO.d hd1) ?_
       rintro ⟨nn, pp⟩
       simp only [rtakeDL, List.cons_append, List.nil_append]
       refine go ?_
       refine Sx.ent (Ent.trans (Ent.take (a := some ⟨q, 0, none⟩)) (RTakeO.closeD (b := q) (s := sa) (rp := rp) T1 hd1 rfl rfl)) ?_
       refine Sx.ent (Ent.take (a := some ⟨b, 0, none⟩)) ?_
       refine Sx.ca rfl (refAgTaken (b := b) (sa := sa) (rp := rp) (slot := slot) (at_ := 2) (q := q) (gen := gen) (n := n) (v := { v with need := need, asked := true }) (gp := gp) (t := T1) rfl hd1 rfl (hz (by omega)) hhm (fun _ => (hr _ (List.mem_append_left _ (hkept hd1))).1)) ?_
       rintro v' L' rfl
       refine go ?_
       refine Kr.none (.inl rfl) (Ent.cons ?_) rfl
       exact ent
     | false =>
       rw [hd1] at e0
       simp only [Bool.false_eq_true, if_false] at e0
       rw [e0]
       have e6 : RAgO sa rp slot gen n ⟨2, { v with need := need, asked := true }, T1, gNone, false⟩ = RAlO sa rp slot gen n ⟨2, { v with need := need, asked := true }, T1, gNone, false⟩ := RAgO.fun_ (by show 2 ≠ 6; omega)
       dsimp only
       rw [e6]
       refine go ?_
       refine Sx.ent (Ent.take (a := some ⟨q, 0, none⟩)) ?_
       by_cases ha0 : T1.at_ = 0
       ·refine Sx.openp (a := some ⟨q, 0, none⟩) (RTakeO.l hd1 ha0) ?_
        intro p
        simp only [rtakeLL, List.cons_append, List.nil_append]
        refine go ?_
        refine Kr.none (.inl rfl) ?_ rfl
        refine Ent.trans (Ent.take (a := some ⟨q, 0, none⟩)) ?_
        refine Ent.trans (RTakeO.closeL (b := q) (s := sa) (rp := rp) T1 hd1 ha0 rfl) ?_
        refine Ent.trans (Ent.cons (Ent.take (a := some ⟨b, 0, none⟩))) ?_
        refine Ent.trans Ent.swap ?_
        refine Ent.trans (RAlO.closeT (rp := rp) (q := q) (v := { v with need := need }) ⟨2, { v with need := need, asked := true }, T1, gNone, false⟩ rfl rfl rfl rfl rfl) (Ent.cons ?_)
        exact ent
       ·refine Sx.openp (a := some ⟨q, 0, none⟩) (RTakeO.p hd1 ha0) ?_
        intro p
        simp only [rtakePL, List.cons_append, List.nil_append]
        refine go ?_
        refine Kr.none (.inl rfl) ?_ rfl
        refine Ent.trans (Ent.take (a := some ⟨q, 0, none⟩)) ?_
        refine Ent.trans (Ent.cons (Ent.take (a := some ⟨p, 0, none⟩))) ?_
        refine Ent.trans (RTakeO.closeP (b := q) (s := sa) (rp := rp) (p := p) T1 hd1 ha0 rfl rfl) ?_
        refine Ent.trans (Ent.cons (Ent.take (a := some ⟨b, 0, none⟩))) ?_
        refine Ent.trans Ent.swap ?_
        refine Ent.trans (RAlO.closeT (rp := rp) (q := q) (v := { v with need := need }) ⟨2, { v with need := need, asked := true }, T1, gNone, false⟩ rfl rfl rfl rfl rfl) (Ent.cons ?_)
        exact ent
  ·refine Ev.no 61 rfl (decide_eq_false (by omega)) ?_
   refine ge ?_
   rw [if_neg (fun h => hm2' h.1)] at e0
   refine go ?_
   by_cases h0 : 0 ≤ v.hand
   ·rw [e0, if_pos h0]
    refine Cx.cyes rfl (decide_eq_true h0) ?_
    refine go ?_
    refine Kr.none (.inl rfl) ?_ rfl
    refine Ent.trans (RSupO.close (a := some ⟨sa, 0, none⟩) (st := st) (lm := lm) (w := w) S rfl rfl rfl) ?_
    refine Ent.trans (Ent.take (a := some ⟨b, 0, none⟩)) ?_
    dsimp only
    rw [show RAgO sa rp slot gen n ⟨4, { v with need := need }, t, gNone, false⟩ = RAlO sa rp slot gen n ⟨4, { v with need := need }, t, gNone, false⟩ from RAgO.fun_ (by show 4 ≠ 6; omega)]
    refine Ent.trans (RAlO.closeS (rp := rp) (v := { v with need := need }) ⟨4, { v with need := need }, t, gNone, false⟩ (.inr (by show 4 ≠ 2; omega)) rfl rfl rfl rfl (fun h => absurd (show 4 ≤ 1 from h) (by omega))) (Ent.cons ?_)
    exact ent
   rw [if_neg h0] at e0
   have hhm : v.hand = -1 := by omega
   obtain rfl := hdry (by omega)
   refine Cx.cno rfl (decide_eq_false h0) ?_
   refine go ?_
   cases hask : v.asked with
   | true =>
     rw [hask] at e0
     simp only [if_true] at e0
     rw [alClose_eq (v := { v with need := need, asked := true }) hnd hr rfl] at e0
     rw [e0]
     refine go ?_
     refine Sx.ent (RSupO.close (a := some ⟨sa, 0, none⟩) (st := st) (lm := lm) (w := w) S rfl rfl rfl) ?_
     refine Sx.ent (Ent.take (a := some ⟨b, 0, none⟩)) ?_
     refine Sx.ent (M := ralB b sa slot gen n 0 (v.cnt : Nat) { v with need := need, asked := true, code := 6, point := v.cnt } tp gp true false :: pt (some ⟨sa, 0, none⟩) (RSupO w S) :: pt (some ⟨w, 0, none⟩) (RWO x rm rp rs re) :: pt (some ⟨rp, 0, none⟩) (RSkO rm x.pool) :: G) (Ent.cons (by exact ent)) ?_
     refine Sx.ca rfl (refAgCloses (b := b) (sa := sa) (w := w) (rm := rm) (rp := rp) (rs := rs) (re := re) (slot := slot) (at_ := 0) (gen := gen) (n := n) (x := x) (S := S) (v := { v with need := need, asked := true, code := 6, point := v.cnt }) (tp := tp) (gp := gp) (dry := true) t rfl hh (by omega) hm0 hm2 rfl) ?_
     rintro v' L' rfl
     refine go ?_
     refine Kr.none (.inl rfl) ?_ rfl
     rw [← hob]
     exact Ent.refl _
   | false =>
     rw [hask] at e0
     simp only [Bool.false_eq_true, if_false] at e0
     have hkept := takeInit_kept (ba := x.ba) (s := S)
     obtain ⟨⟨S1, T1⟩, hT1⟩ : ∃ R, takeInit x.ba S = R := ⟨_, rfl⟩
     rw [hT1] at e0 hkept
     dsimp only at e0 hkept
     refine go ?_
     refine Sx.ent (RSupO.close (a := some ⟨sa, 0, none⟩) (st := st) (lm := lm) (w := w) S rfl rfl rfl) ?_
     refine Sx.ca rfl (refTakeNew (s := sa) (w := w) (rm := rm) (rp := rp) (rs := rs) (re := re) (x := x) (S := S) hx (by omega)) ?_
     rw [hT1]
     dsimp only
     rintro v' L' ⟨q, rfl, rfl⟩
     cases hd1 : T1.done with
     | true =>
       rw [hd1] at e0
       simp only [if_true] at e0
       rw [e0]
       refine go ?_
       refine Sx.ent (Ent.take (a := some ⟨q, 0, none⟩)) ?_
       refine Sx.openp (a := some ⟨q, 0, none⟩) (RTakeO.d hd1) ?_
       rintro ⟨nn, pp⟩
       simp only [rtakeDL, List.cons_append, List.nil_append]
       refine go ?_
       refine Sx.ent (Ent.trans (Ent.take (a := some ⟨q, 0, none⟩)) (RTakeO.closeD (b := q) (s := sa) (rp := rp) T1 hd1 rfl rfl)) ?_
       refine Sx.ent (Ent.take (a := some ⟨b, 0, none⟩)) ?_
       refine Sx.ca rfl (refAgTaken (b := b) (sa := sa) (rp := rp) (slot := slot) (at_ := 2) (q := q) (gen := gen) (n := n) (v := { v with need := need, asked := true }) (gp := gp) (t := T1) rfl hd1 rfl (hz (by omega)) hhm (fun _ => (hr _ (List.mem_append_left _ (hkept hd1))).1)) ?_
       rintro v' L' rfl
       refine go ?_
       refine Kr.none (.inl rfl) (Ent.cons ?_) rfl
       exact ent
     | false =>
       rw [hd1] at e0
       simp only [Bool.false_eq_true, if_false] at e0
       rw [e0]
       have e6 : RAgO sa rp slot gen n ⟨2, { v with need := need, asked := true }, T1, gNone, false⟩ = RAlO sa rp slot gen n ⟨2, { v with need := need, asked := true }, T1, gNone, false⟩ := RAgO.fun_ (by show 2 ≠ 6; omega)
       dsimp only
       rw [e6]
       refine go ?_
       refine Sx.ent (Ent.take (a := some ⟨q, 0, none⟩)) ?_
       by_cases ha0 : T1.at_ = 0
       ·refine Sx.openp (a := some ⟨q, 0, none⟩) (RTakeO.l hd1 ha0) ?_
        intro p
        simp only [rtakeLL, List.cons_append, List.nil_append]
        refine go ?_
        refine Kr.none (.inl rfl) ?_ rfl
        refine Ent.trans (Ent.take (a := some ⟨q, 0, none⟩)) ?_
        refine Ent.trans (RTakeO.closeL (b := q) (s := sa) (rp := rp) T1 hd1 ha0 rfl) ?_
        refine Ent.trans (Ent.cons (Ent.take (a := some ⟨b, 0, none⟩))) ?_
        refine Ent.trans Ent.swap ?_
        refine Ent.trans (RAlO.closeT (rp := rp) (q := q) (v := { v with need := need }) ⟨2, { v with need := need, asked := true }, T1, gNone, false⟩ rfl rfl rfl rfl rfl) (Ent.cons ?_)
        exact ent
       ·refine Sx.openp (a := some ⟨q, 0, none⟩) (RTakeO.p hd1 ha0) ?_
        intro p
        simp only [rtakePL, List.cons_append, List.nil_append]
        refine go ?_
        refine Kr.none (.inl rfl) ?_ rfl
        refine Ent.trans (Ent.take (a := some ⟨q, 0, none⟩)) ?_
        refine Ent.trans (Ent.cons (Ent.take (a := some ⟨p, 0, none⟩))) ?_
        refine Ent.trans (RTakeO.closeP (b := q) (s := sa) (rp := rp) (p := p) T1 hd1 ha0 rfl rfl) ?_
        refine Ent.trans (Ent.cons (Ent.take (a := some ⟨b, 0, none⟩))) ?_
        refine Ent.trans Ent.swap ?_
        refine Ent.trans (RAlO.closeT (rp := rp) (q := q) (v := { v with need := need }) ⟨2, { v with need := need, asked := true }, T1, gNone, false⟩ rfl rfl rfl rfl rfl) (Ent.cons ?_)
        exact ent
end
end Go.Proofs.YtflalhdofhobmaaGreat


namespace Go.Proofs.YtflalhdofhobmaaGreat
open Go
attribute [local irreducible] Sx Cx Rx Fx Krg Ksq Kbl Klp Kr
structure RefA (x : Cn) (S : SupS) (a : AlS) : Prop where
 code : a.at_ ≠ 6 → a.v.code = 0
 obj : a.at_ ≠ 6 → a.v.obj = Hd.zero
 z : a.at_ ≠ 6 → a.v.hand < 0 → a.v.zat = 0
 tk : a.at_ = 2 → a.v.asked = true ∧ a.v.hand = -1 ∧ a.t.q.ok x.pool ∧ a.t.at_ = 1 ∧ a.t.done = false ∧ a.t.is_ = false
 gv : a.at_ = 6 → a.g.ok x.pool ∧ a.g.l.length ≤ 1000000
 nd : a.at_ ≠ 6 → (S.xs ++ (if 0 ≤ a.v.hand then [a.v.hand] else [])).Nodup
 rg : a.at_ ≠ 6 → ∀ y ∈ S.xs ++ (if 0 ≤ a.v.hand then [a.v.hand] else []), 0 ≤ y ∧ y < (x.c : Int)
section
variable {L F G : St}
theorem RAgO.closeS {b sa rp slot at_ : Nat} {gen : Int} {n : Nat} {cnt : Int} {v : AlV} {tp gp : Value} {dry d : Bool} (s : AlS) (h : s.done = true ∨ s.at_ ≠ 2) (hd : d = s.done) (ha : at_ = s.at_) (hc : cnt = (s.v.cnt : Nat)) (hv : { v with cnt := s.v.cnt, ends := s.v.ends, asked := s.v.asked } = s.v) (hdr : dryOk s dry) (h6 : s.at_ ≠ 6 := by intro h; cases h) :
  Ent (ralB b sa slot gen n at_ cnt v tp gp dry d :: G) (pt (some ⟨b, 0, none⟩) (RAgO sa rp slot gen n s) :: G) := by
 rw [show RAgO sa rp slot gen n s = RAlO sa rp slot gen n s from RAgO.fun_ h6]
 exact RAlO.closeS s h hd ha hc hv hdr
theorem RAgO.closeT {b sa rp slot q : Nat} {gen : Int} {n : Nat} {cnt : Int} {v : AlV} {gp : Value} {t : TakeS} (s : AlS) (h : s.done = false) (ha : s.at_ = 2) (hc : cnt = (s.v.cnt : Nat)) (hv : { v with cnt := s.v.cnt, ends := s.v.ends, asked := s.v.asked } = s.v) (ht : t = s.t) :
  Ent (ralB b sa slot gen n 2 cnt v (.pointer (some ⟨q, 0, none⟩)) gp false false :: pt (some ⟨q, 0, none⟩) (RTakeO sa rp t) :: G) (pt (some ⟨b, 0, none⟩) (RAgO sa rp slot gen n s) :: G) := by
 rw [show RAgO sa rp slot gen n s = RAlO sa rp slot gen n s from RAgO.fun_ (by omega)]
 exact RAlO.closeT s h ha hc hv ht
set_option maxRecDepth 100000 in
set_option maxHeartbeats 8000000 in
theorem refAgStep {b sa w rm rp rs re slot : Nat} {gen : Int} {n : Nat} {x : Cn} {S : SupS} {m : Mm} {a : AlS} {F1 F2 F3 F4 : St} (hx : x.ok) (hl : x.len ≤ m.ws.length) (hs : slot < x.sl) (hn : 1 ≤ n) (hn2 : n ≤ x.wd) (hw8 : x.wd % 8 = 0) (hok : (rtOf (m.at_ (x.root + slot))).ok) (hb : S.xs.length + S.lm.size ≤ 99999) (hm0 : 0 ≤ S.most) (hm2 : S.most ≤ 64)
  (ha : a.done = false → AlOk x a) (hr : a.done = false → RefA x S a) (hd6 : a.done = true → a.at_ = 6)
  [t1 : Take L (some ⟨b, 0, none⟩) (RAgO sa rp slot gen n a) F1] [t2 : Take F1 (some ⟨sa, 0, none⟩) (RSupO w S) F2] [t3 : Take F2 (some ⟨rm, 0, none⟩) (RMemO m) F3] [t4 : Take F3 (some ⟨w, 0, none⟩) (RWO x rm rp rs re) F4] [t5 : Take F4 (some ⟨rp, 0, none⟩) (RSkO rm x.pool) G] :
  Fx Tryz.prog 38 [.pointer (some ⟨b, 0, none⟩)] L
   (fun v L' => v = .bool (!a.done) ∧ L' = pt (some ⟨b, 0, none⟩) (RAgO sa rp slot gen n (alStep (x.al slot gen n) m S a).2.2) :: pt (some ⟨sa, 0, none⟩) (RSupO w (alStep (x.al slot gen n) m S a).2.1) :: pt (some ⟨rm, 0, none⟩) (RMemO (alStep (x.al slot gen n) m S a).1) :: F3) := by
 obtain ⟨b1, b2, b3, b4, b5, b6, b7⟩ := hx.b
 have hsz : x.root + x.sl ≤ x.len := by unfold Cn.root Cn.len; omega
 have hlz : x.link + x.c ≤ x.len := by unfold Cn.link Cn.len; omega
 have hback : Ent (pt (some ⟨w, 0, none⟩) (RWO x rm rp rs re) :: pt (some ⟨rp, 0, none⟩) (RSkO rm x.pool) :: G) F3 := Ent.trans (Ent.cons (Ent.of t5.back)) (Ent.of t4.back)
 refine Fx.mk Tryz.func38 k38 nb_ ?_
 dsimp only [c38, envOf, Nat.reduceAdd]
 refine Cx.ent (Ent.trans (Ent.of t1.out) (Ent.cons (Ent.trans (Ent.of t2.out) (Ent.cons (Ent.trans (Ent.of t3.out) (Ent.cons (Ent.trans (Ent.of t4.out) (Ent.cons (Ent.of t5.out))))))))) ?_
 refine Cx.pure (rmemKey (rm := rm) (m := m)) fun hm => ?_
 cases hd : a.done with
 | true =>
   have e1 : alStep (x.al slot gen n) m S a = (m, S, a) := by unfold alStep; rw [hd]; rfl
   rw [e1]
   refine Cx.openp (a := some ⟨b, 0, none⟩) (RAgO.g_ (hd6 hd)) ?_
   rintro ⟨tp, gq, dry⟩
   simp only [ralGL, List.cons_append, List.nil_append]
   rw [hd]
   refine go ?_
   exact Kr.one (.inr rfl) rfl (Ent.trans (RAgO.closeG (rp := rp) (v := a.v) a (hd6 hd) hd.symm rfl rfl rfl rfl) (Ent.cons (Ent.cons (Ent.cons hback)))) ⟨rfl, rfl⟩
 | false =>
   obtain ⟨k0, k1, k2, k3, k4, k5, k6, k7, k8, k9⟩ := ha hd
   have hA := hr hd
   have hwl := rt_was_lt k4
   by_cases h6 : a.at_ = 6
   ·obtain ⟨u1, u2⟩ := hA.gv h6
    have hk := hx.pool (n := m.ws.length) hl hm.2
    refine Cx.openp (a := some ⟨b, 0, none⟩) (RAgO.g_ h6) ?_
    rintro ⟨tp, gq, dry⟩
    simp only [ralGL, List.cons_append, List.nil_append]
    rw [hd]
    refine Cx.ent (Ent.take (a := some ⟨sa, 0, none⟩)) ?_
    refine Cx.openp (a := some ⟨sa, 0, none⟩) rfl ?_
    rintro ⟨st, lm⟩
    simp only [rsupL, List.cons_append, List.nil_append]
    refine go ?_
    rw [cntW k1]
    refine Cx.ent (RSupO.close (a := some ⟨sa, 0, none⟩) (st := st) (lm := lm) (w := w) S rfl rfl rfl) ?_
    refine Cx.ordc rfl kr_ ?_
    refine ge ?_
    refine Ev.cakH kr_ rfl rfl (refRootAt hx slot hs) ?_
    refine ge ?_
    refine go ?_
    refine Sx.ca rfl (refGetRoot a.v.was hwl) ?_
    rintro v' L' ⟨rfl, rfl⟩
    refine Sx.al fun o => ?_
    refine Sx.st (b := o) rfl rfl rfl rfl rfl rfl ?_
    refine Sx.re (rtL (rtOf a.v.was)) rfl ?_
    refine go ?_
    have e1 : alStep (x.al slot gen n) m S a = ((pushStep x.pool m a.g).2, S, ⟨6, { a.v with cnt := a.v.cnt + 1 }, a.t, (pushStep x.pool m a.g).1, (pushStep x.pool m a.g).1.done⟩) := by unfold alStep; rw [hd, h6]; rfl
    rw [e1]
    obtain ⟨Q, hQ⟩ : ∃ Q, pushStep x.pool m a.g = Q := ⟨_, rfl⟩
    refine Sx.ca rfl (refGiveStep (b := gq) (rp := rp) (rm := rm) (k := x.pool) (m := m) (p := a.g) hk u1 u2) ?_
    rw [hQ]
    rintro v' L' ⟨rfl, rfl⟩
    refine go ?_
    refine Sx.openp (a := some ⟨gq, 0, none⟩) rfl ?_
    rintro ⟨pp, ra, ca⟩
    simp only [rgiveL, List.cons_append, List.nil_append]
    refine go ?_
    refine Kr.one (.inr rfl) rfl ?_ ⟨rfl, rfl⟩
    refine Ent.trans (M := ralB b sa slot gen n 6 ((a.v.cnt + 1 : Nat) : Int) a.v tp (.pointer (some ⟨gq, 0, none⟩)) dry Q.1.done :: pt (some ⟨gq, 0, none⟩) (RGiveO rp Q.1) :: pt (some ⟨sa, 0, none⟩) (RSupO w S) :: pt (some ⟨rm, 0, none⟩) (RMemO Q.2) :: pt (some ⟨w, 0, none⟩) (RWO x rm rp rs re) :: pt (some ⟨rp, 0, none⟩) (RSkO rm x.pool) :: G) ?_
     (Ent.trans (RAgO.closeG (rp := rp) (v := a.v) ⟨6, { a.v with cnt := a.v.cnt + 1 }, a.t, Q.1, Q.1.done⟩ rfl rfl rfl rfl rfl rfl) (Ent.cons (Ent.cons (Ent.cons hback))))
    refine Ent.trans (Ent.trans (Ent.take (a := some ⟨gq, 0, none⟩)) (Ent.cons (Ent.trans (Ent.take (a := some ⟨pp, 0, none⟩)) (Ent.cons (Ent.take (a := ra)))))) ?_
    refine Ent.trans (RGiveO.close Q.1 rfl rfl rfl rfl) ?_
    exact entm
   have t1' : Take L (some ⟨b, 0, none⟩) (RAlO sa rp slot gen n a) F1 := by
    rw [← show RAgO sa rp slot gen n a = RAlO sa rp slot gen n a from RAgO.fun_ h6]; exact t1
   rw [show RAgO sa rp slot gen n a = RAlO sa rp slot gen n a from RAgO.fun_ h6]
   have r1 := hA.code h6
   have r2 := hA.obj h6
   have r3 := k2
   have r4 := hA.z h6
   have hndA := hA.nd h6
   have hrgA := hA.rg h6
   by_cases h2 : a.at_ = 2
   ·have hk := hx.pool (n := m.ws.length) hl hm.2
    refine Cx.openp (a := some ⟨b, 0, none⟩) (RAlO.t_ hd h2) ?_
    rintro ⟨q, gp⟩
    simp only [ralTL, List.cons_append, List.nil_append]
    refine Cx.ent (Ent.take (a := some ⟨sa, 0, none⟩)) ?_
    refine Cx.openp (a := some ⟨sa, 0, none⟩) rfl ?_
    rintro ⟨st, lm⟩
    simp only [rsupL, List.cons_append, List.nil_append]
    refine go ?_
    rw [cntW k1]
    refine Cx.ent (RSupO.close (a := some ⟨sa, 0, none⟩) (st := st) (lm := lm) (w := w) S rfl rfl rfl) ?_
    refine Cx.ordc rfl kr_ ?_
    refine ge ?_
    refine Ev.cakH kr_ rfl rfl (refRootAt hx slot hs) ?_
    refine ge ?_
    refine go ?_
    refine Sx.ca rfl (refGetRoot a.v.was hwl) ?_
    rintro v' L' ⟨rfl, rfl⟩
    refine Sx.al fun o => ?_
    refine Sx.st (b := o) rfl rfl rfl rfl rfl rfl ?_
    refine Sx.re (rtL (rtOf a.v.was)) rfl ?_
    refine go ?_
    obtain ⟨T, hT⟩ : ∃ T, takeStep x.pool x.ba m S a.t = T := ⟨_, rfl⟩
    have htp := takeStep_pop (ba := x.ba) (m := m) (s := S) hk hm.1 (hA.tk h2).2.2.1 (hA.tk h2).2.2.2.1 (hA.tk h2).2.2.2.2.1
    refine Sx.ca rfl (refTakeStep (b := q) (s := sa) (w := w) (rm := rm) (rp := rp) (rs := rs) (re := re) (x := x) (S := S) (m := m) (t := a.t) hx hl (k9 h2) (fun _ _ => (hA.tk h2).2.2.1) (by omega)) ?_
    rw [hT] at htp ⊢
    rintro v' L' ⟨rfl, rfl⟩
    cases hq : T.2.2.done with
    | true =>
      have e1 : alStep (x.al slot gen n) m S a = (T.1, T.2.1, alTaken { a.v with cnt := a.v.cnt + 1 } T.2.2) := by unfold alStep; rw [hd, h2]; simp only [Bool.false_eq_true, if_false, hT, hq, if_true]
      rw [e1]
      refine Sx.nil ?_
      refine Krg.i ?_
      refine Ksq.nm ?_
      refine Cx.sq ?_
      refine Cx.openp (a := some ⟨q, 0, none⟩) (RTakeO.d hq) ?_
      rintro ⟨nn, pp⟩
      simp only [rtakeDL, List.cons_append, List.nil_append]
      refine go ?_
      refine Sx.ent (Ent.trans (Ent.take (a := some ⟨q, 0, none⟩)) (RTakeO.closeD (b := q) (s := sa) (rp := rp) T.2.2 hq rfl rfl)) ?_
      refine Sx.ent (Ent.take (a := some ⟨b, 0, none⟩)) ?_
      refine Sx.ca rfl (refAgTaken (b := b) (sa := sa) (rp := rp) (slot := slot) (at_ := 2) (q := q) (gen := gen) (n := n) (v := { a.v with cnt := a.v.cnt + 1 }) (gp := gp) (t := T.2.2) rfl hq (hA.tk h2).1 (r4 (by have := (hA.tk h2).2.1; omega)) (hA.tk h2).2.1 (fun h => htp.2 h hq (hA.tk h2).2.2.2.2.2)) ?_
      rintro v' L' rfl
      refine go ?_
      refine Kr.one (.inr rfl) rfl (Ent.cons ?_) ⟨rfl, rfl⟩
      refine Ent.trans (M := pt (some ⟨sa, 0, none⟩) (RSupO w T.2.1) :: pt (some ⟨rm, 0, none⟩) (RMemO T.1) :: _) (by exact ent) (Ent.cons (Ent.cons hback))
    | false =>
      have e1 : alStep (x.al slot gen n) m S a = (T.1, T.2.1, ⟨2, { a.v with cnt := a.v.cnt + 1 }, T.2.2, gNone, false⟩) := by unfold alStep; rw [hd, h2]; simp only [Bool.false_eq_true, if_false, hT, hq]
      rw [e1]
      refine Sx.nil ?_
      refine Krg.i ?_
      refine Ksq.nm ?_
      refine Cx.sq ?_
      refine Cx.openp (a := some ⟨q, 0, none⟩) (RTakeO.p hq (by rw [htp.1 hq]; decide)) ?_
      intro p
      simp only [rtakePL, List.cons_append, List.nil_append]
      refine go ?_
      refine Kr.one (.inr rfl) rfl ?_ ⟨rfl, rfl⟩
      refine Ent.trans (Ent.trans (Ent.take (a := some ⟨q, 0, none⟩)) (Ent.cons (Ent.take (a := some ⟨p, 0, none⟩)))) ?_
      refine Ent.trans (RTakeO.closeP (b := q) (s := sa) (rp := rp) (p := p) T.2.2 hq (by rw [htp.1 hq]; decide) rfl rfl) ?_
      refine Ent.trans (Ent.cons (Ent.take (a := some ⟨b, 0, none⟩))) ?_
      refine Ent.trans Ent.swap ?_
      refine Ent.trans (RAgO.closeT (rp := rp) (q := q) (v := a.v) ⟨2, { a.v with cnt := a.v.cnt + 1 }, T.2.2, gNone, false⟩ rfl rfl rfl rfl rfl) (Ent.cons ?_)
      refine Ent.trans (M := pt (some ⟨sa, 0, none⟩) (RSupO w T.2.1) :: pt (some ⟨rm, 0, none⟩) (RMemO T.1) :: _) (by exact ent) (Ent.cons (Ent.cons hback))
   ·refine Cx.openp (a := some ⟨b, 0, none⟩) (RAlO.s_ (.inr h2)) ?_
    rintro ⟨tp, gp, dry⟩
    simp only [ralSL, List.cons_append, List.nil_append]
    refine Cx.liftp fun hdr => ?_
    rw [hd]
    refine Cx.ent (Ent.take (a := some ⟨sa, 0, none⟩)) ?_
    refine Cx.openp (a := some ⟨sa, 0, none⟩) rfl ?_
    rintro ⟨st, lm⟩
    simp only [rsupL, List.cons_append, List.nil_append]
    refine go ?_
    rw [cntW k1]
    refine Cx.ent (RSupO.close (a := some ⟨sa, 0, none⟩) (st := st) (lm := lm) (w := w) S rfl rfl rfl) ?_
    refine Cx.ordc rfl kr_ ?_
    refine ge ?_
    refine Ev.cakH kr_ rfl rfl (refRootAt hx slot hs) ?_
    refine ge ?_
    refine go ?_
    refine Sx.ca rfl (refGetRoot a.v.was hwl) ?_
    rintro v' L' ⟨rfl, rfl⟩
    refine Sx.al fun o => ?_
    refine Sx.st (b := o) rfl rfl rfl rfl rfl rfl ?_
    refine Sx.re (rtL (rtOf a.v.was)) rfl ?_
    refine go ?_
    rcases (show a.at_ = 0 ∨ a.at_ = 1 ∨ a.at_ = 3 ∨ a.at_ = 4 ∨ a.at_ = 5 by omega) with h0 | h0 | h0 | h0 | h0
    ·rw [h0]
     refine go ?_
     have e1 : alStep (x.al slot gen n) m S a = (m.tick, alSeen (x.al slot gen n) S { a.v with cnt := a.v.cnt + 1, was := m.at_ (x.root + slot) } a.t) := by unfold alStep; rw [hd, h0]; rfl
     rw [e1]
     refine Sx.ca rfl (refLoad (rm := rm) (m := m) (x.root + slot) (by omega)) ?_
     rintro v' L' ⟨rfl, rfl⟩
     refine go ?_
     refine Sx.ent (Ent.take (a := some ⟨b, 0, none⟩)) ?_
     refine Sx.ent (M := ralB b sa slot gen n 0 ((a.v.cnt + 1 : Nat) : Int) { a.v with cnt := a.v.cnt + 1, was := m.at_ (x.root + slot) } tp gp dry false :: pt (some ⟨sa, 0, none⟩) (RSupO w S) :: pt (some ⟨w, 0, none⟩) (RWO x rm rp rs re) :: pt (some ⟨rp, 0, none⟩) (RSkO rm x.pool) :: pt (some ⟨rm, 0, none⟩) (RMemO m.tick) :: G) (Ent.cons (by exact entm)) ?_
     refine Sx.ca rfl (refAgSeen (b := b) (sa := sa) (w := w) (rm := rm) (rp := rp) (rs := rs) (re := re) (slot := slot) (gen := gen) (n := n) (x := x) (S := S) (v := { a.v with cnt := a.v.cnt + 1, was := m.at_ (x.root + slot) }) (tp := tp) (gp := gp) (dry := dry) a.t rfl hx hn hn2 hw8 hok r3 r4 (fun h => hdr (by omega) h) r1 r2 hb hm0 hm2 hndA hrgA) ?_
     rintro v' L' rfl
     refine go ?_
     refine Kr.one (.inr rfl) rfl (Ent.cons (Ent.cons ?_)) ⟨rfl, rfl⟩
     refine Ent.trans (M := pt (some ⟨rm, 0, none⟩) (RMemO m.tick) :: pt (some ⟨w, 0, none⟩) (RWO x rm rp rs re) :: pt (some ⟨rp, 0, none⟩) (RSkO rm x.pool) :: G) (by exact entm) (Ent.cons hback)
    ·have k5' := k5 h0
     have hR : Rt.ok ⟨(rtOf a.v.was).gen, (rtOf a.v.was).mrk, (rtOf a.v.was).cl, (rtOf a.v.was).off + a.v.need⟩ := ⟨k4.g, k4.m, k4.c, by show (rtOf a.v.was).off + a.v.need ≤ 1024; omega⟩
     rw [h0]
     refine go ?_
     refine Sx.al fun o2 => ?_
     refine Sx.st (b := o2) rfl rfl rfl rfl rfl rfl ?_
     refine Sx.re (rtL (rtOf a.v.was)) rfl ?_
     refine go ?_
     refine Cx.ordc rfl kr_ ?_
     refine ge ?_
     rw [w64 (n := ((rtOf a.v.was).off : Int) + (a.v.need : Nat)) (by omega) (by omega), show ((rtOf a.v.was).off : Int) + (a.v.need : Nat) = (((rtOf a.v.was).off + a.v.need : Nat) : Int) by push_cast; rfl]
     refine Ev.stbH (b := o2) kr_ rfl rfl rfl rfl rfl (by rfl) rfl (Pres.deps kr_) ?_
     refine ge ?_
     refine go ?_
     refine Sx.ca (vs := [rtV ⟨(rtOf a.v.was).gen, (rtOf a.v.was).mrk, (rtOf a.v.was).cl, (rtOf a.v.was).off + a.v.need⟩]) rfl (refPutRoot ⟨(rtOf a.v.was).gen, (rtOf a.v.was).mrk, (rtOf a.v.was).cl, (rtOf a.v.was).off + a.v.need⟩ hR) ?_
     rintro v' L' ⟨rfl, rfl⟩
     refine go ?_
     obtain ⟨wN, hwN⟩ : ∃ wN, Rt.w ⟨(rtOf a.v.was).gen, (rtOf a.v.was).mrk, (rtOf a.v.was).cl, (rtOf a.v.was).off + a.v.need⟩ = wN := ⟨_, rfl⟩
     have hwl2 := Rt.w_lt hR
     rw [hwN] at hwl2 ⊢
     refine Cx.ordc rfl kr_ ?_
     refine ge ?_
     refine Ev.caH kr_ rfl rfl (refCas (rm := rm) (m := m) (x.root + slot) a.v.was wN (by omega) hwl hwl2) (Pres.deps kr_) ?_
     rintro v' L' ⟨rfl, rfl⟩
     refine ge ?_
     by_cases hc : m.at_ (x.root + slot) = a.v.was
     ·have ecas : m.cas (x.root + slot) a.v.was wN = m.put (x.root + slot) wN := by unfold Mm.cas; rw [if_pos hc]
      have e1 : alStep (x.al slot gen n) m S a = (m.put (x.root + slot) wN, alClose x.pool S { a.v with cnt := a.v.cnt + 1 } a.t 0 ⟨slot, gen, (rtOf a.v.was).chunk, (rtOf a.v.was).off, n⟩) := by
       unfold alStep; rw [hd, h0]; simp only [Bool.false_eq_true, if_false]; rw [if_pos hc, hwN]
      rw [e1, ecas, decide_eq_true hc]
      refine go ?_
      refine Cx.orde rfl kr_ ?_
      refine ge ?_
      refine Ev.cakH (vs := [rtV (rtOf a.v.was)]) kr_ rfl rfl (refChunk (rtOf a.v.was) (rtOf_mrk _)) ?_
      refine ge ?_
      refine Ev.caH kr_ rfl rfl (Fx.ent (M := ralB b sa slot gen n 0 ((a.v.cnt + 1 : Nat) : Int) { a.v with cnt := a.v.cnt + 1 } tp gp dry false :: pt (some ⟨sa, 0, none⟩) (RSupO w S) :: pt (some ⟨w, 0, none⟩) (RWO x rm rp rs re) :: pt (some ⟨rp, 0, none⟩) (RSkO rm x.pool) :: pt (some ⟨rm, 0, none⟩) (RMemO (m.put (x.root + slot) wN)) :: G) (by exact entm)
       (refAgFine (b := b) (sa := sa) (w := w) (rm := rm) (rp := rp) (rs := rs) (re := re) (slot := slot) (at_ := 0) (gen := gen) (n := n) (x := x) (S := S) (v := { a.v with cnt := a.v.cnt + 1 }) (tp := tp) (gp := gp) (dry := dry) a.t (rtOf a.v.was).chunk (rtOf a.v.was).off rfl r3 r1 (by omega) hm0 hm2 hndA hrgA)) (Pres.deps kr_) ?_
      rintro v' L' rfl
      refine ge ?_
      refine go ?_
      refine Kr.one (.inr rfl) rfl (Ent.cons (Ent.cons ?_)) ⟨rfl, rfl⟩
      refine Ent.trans (M := pt (some ⟨rm, 0, none⟩) (RMemO (m.put (x.root + slot) wN)) :: pt (some ⟨w, 0, none⟩) (RWO x rm rp rs re) :: pt (some ⟨rp, 0, none⟩) (RSkO rm x.pool) :: G) (by exact entm) (Ent.cons hback)
     ·have ecas : m.cas (x.root + slot) a.v.was wN = m.tick := by unfold Mm.cas; rw [if_neg hc]
      have e1 : alStep (x.al slot gen n) m S a = (m.tick, S, ⟨0, { a.v with cnt := a.v.cnt + 1 }, a.t, gNone, false⟩) := by
       unfold alStep; rw [hd, h0]; simp only [Bool.false_eq_true, if_false]; rw [if_neg hc]
      rw [e1, ecas, decide_eq_false hc]
      refine go ?_
      refine Kr.one (.inr rfl) rfl ?_ ⟨rfl, rfl⟩
      refine Ent.trans (Ent.take (a := some ⟨b, 0, none⟩)) ?_
      refine Ent.trans (RAgO.closeS (rp := rp) (v := a.v) ⟨0, { a.v with cnt := a.v.cnt + 1 }, a.t, gNone, false⟩ (.inr (by show 0 ≠ 2; omega)) rfl rfl rfl rfl (fun _ h => hdr (by omega) h)) (Ent.cons ?_)
      refine Ent.trans (M := pt (some ⟨sa, 0, none⟩) (RSupO w S) :: pt (some ⟨rm, 0, none⟩) (RMemO _) :: _) (by exact ent) (Ent.cons (Ent.cons hback))
    ·obtain ⟨k, hkk⟩ : ∃ k : Nat, a.v.hand = k := ⟨a.v.hand.toNat, by have := k7 (.inl h0); omega⟩
     have k8' := k8 h0
     rw [h0]
     refine go ?_
     have hwd := word_lt (x := x) (k := k) (j := a.v.zat) (by omega) k8'
     have e1 : alStep (x.al slot gen n) m S a = (m.put (x.word + k * x.wd + a.v.zat) 0, S, ⟨if a.v.zat + 1 < x.wd then 3 else 4, { a.v with cnt := a.v.cnt + 1, zat := a.v.zat + 1 }, a.t, gNone, false⟩) := by unfold alStep; rw [hd, h0]; simp only [Bool.false_eq_true, if_false, hkk, Int.toNat_natCast]
     rw [e1]
     refine Cx.ordc rfl kr_ ?_
     refine ge ?_
     rw [hkk]
     refine Ev.cakH kr_ rfl rfl (refWord hx k a.v.zat (by omega) k8') ?_
     refine ge ?_
     refine Ev.caH kr_ rfl rfl (refStore (rm := rm) (m := m) (x.word + k * x.wd + a.v.zat) 0 (by omega) (by omega)) (Pres.deps kr_) ?_
     rintro v' L' ⟨rfl, rfl⟩
     refine ge ?_
     refine go ?_
     rw [w64 (n := (a.v.zat : Int) + 1) (by omega) (by omega)]
     refine Cx.ordc rfl kr_ ?_
     refine ge ?_
     refine Cx.ifp rfl (fun hz => ?_) (fun hz => ?_)
     ·rw [if_neg (by omega)]
      refine go ?_
      refine Kr.one (.inr rfl) rfl ?_ ⟨rfl, rfl⟩
      refine Ent.trans (Ent.take (a := some ⟨b, 0, none⟩)) ?_
      refine Ent.trans (RAgO.closeS (rp := rp) (v := { a.v with zat := a.v.zat + 1 }) ⟨4, { a.v with cnt := a.v.cnt + 1, zat := a.v.zat + 1 }, a.t, gNone, false⟩ (.inr (by show 4 ≠ 2; omega)) rfl rfl rfl rfl (fun h => absurd (show 4 ≤ 1 from h) (by omega))) (Ent.cons ?_)
      refine Ent.trans (M := pt (some ⟨sa, 0, none⟩) (RSupO w S) :: pt (some ⟨rm, 0, none⟩) (RMemO _) :: _) (by exact ent) (Ent.cons (Ent.cons hback))
     ·rw [if_pos (by omega)]
      refine go ?_
      refine Kr.one (.inr rfl) rfl ?_ ⟨rfl, rfl⟩
      refine Ent.trans (Ent.take (a := some ⟨b, 0, none⟩)) ?_
      refine Ent.trans (RAgO.closeS (rp := rp) (v := { a.v with zat := a.v.zat + 1 }) ⟨3, { a.v with cnt := a.v.cnt + 1, zat := a.v.zat + 1 }, a.t, gNone, false⟩ (.inr (by show 3 ≠ 2; omega)) rfl rfl rfl rfl (fun h => absurd (show 3 ≤ 1 from h) (by omega))) (Ent.cons ?_)
      refine Ent.trans (M := pt (some ⟨sa, 0, none⟩) (RSupO w S) :: pt (some ⟨rm, 0, none⟩) (RMemO _) :: _) (by exact ent) (Ent.cons (Ent.cons hback))
    ·obtain ⟨k, hkk⟩ : ∃ k : Nat, a.v.hand = k := ⟨a.v.hand.toNat, by have := k7 (.inr (.inl h0)); omega⟩
     have hc1 := (rtOf a.v.was).chunk_ge
     have hc2 := Rt.chunk_lt (rtOf_mrk a.v.was)
     rw [h0]
     refine go ?_
     have e1 : alStep (x.al slot gen n) m S a = (m.put (x.link + k) ((rtOf a.v.was).chunk + 1).toNat, S, ⟨5, { a.v with cnt := a.v.cnt + 1 }, a.t, gNone, false⟩) := by unfold alStep; rw [hd, h0]; simp only [Bool.false_eq_true, if_false, hkk, Int.toNat_natCast]; rfl
     rw [e1]
     refine Cx.ordc rfl kr_ ?_
     refine ge ?_
     rw [hkk]
     refine Ev.cakH kr_ rfl rfl (refLink hx k (by omega)) ?_
     refine ge ?_
     refine Ev.cakH kr_ rfl rfl (refChunk (rtOf a.v.was) (rtOf_mrk _)) ?_
     refine ge ?_
     rw [wrapS (x := (rtOf a.v.was).chunk + 1) (by omega) (by omega)]
     refine Ev.caH kr_ rfl rfl (refStore (rm := rm) (m := m) (x.link + k) ((rtOf a.v.was).chunk + 1).toNat (by omega) (by omega)) (Pres.deps kr_) ?_
     rintro v' L' ⟨rfl, rfl⟩
     refine ge ?_
     refine go ?_
     refine Kr.one (.inr rfl) rfl ?_ ⟨rfl, rfl⟩
     refine Ent.trans (Ent.take (a := some ⟨b, 0, none⟩)) ?_
     refine Ent.trans (RAgO.closeS (rp := rp) (v := a.v) ⟨5, { a.v with cnt := a.v.cnt + 1 }, a.t, gNone, false⟩ (.inr (by show 5 ≠ 2; omega)) rfl rfl rfl rfl (fun h => absurd (show 5 ≤ 1 from h) (by omega))) (Ent.cons ?_)
     refine Ent.trans (M := pt (some ⟨sa, 0, none⟩) (RSupO w S) :: pt (some ⟨rm, 0, none⟩) (RMemO _) :: _) (by exact ent) (Ent.cons (Ent.cons hback))
    ·obtain ⟨k, hkk⟩ : ∃ k : Nat, a.v.hand = k := ⟨a.v.hand.toNat, by have := k7 (.inr (.inr h0)); omega⟩
     obtain ⟨n1, n2⟩ := k6 h0
     have haf := afterS_le n2
     have hR : Rt.ok ⟨(rtOf a.v.was).gen, k + 2, (rtOf a.v.was).cl, afterS x.wd a.v.need⟩ := ⟨k4.g, by show k + 2 ≤ 4097; omega, k4.c, by show afterS x.wd a.v.need ≤ 1024; omega⟩
     rw [h0]
     refine go ?_
     refine Sx.al fun o2 => ?_
     refine Sx.st (b := o2) rfl rfl rfl rfl rfl rfl ?_
     refine Sx.re (rtL (rtOf a.v.was)) rfl ?_
     refine go ?_
     refine Cx.ordc rfl kr_ ?_
     refine ge ?_
     rw [hkk, w64 (n := (k : Int) + 2) (by omega) (by omega)]
     refine Ev.cakH kr_ rfl rfl (refAfter x.wd a.v.need (by omega) (by omega) n1 n2) ?_
     refine ge ?_
     refine Ev.stbH (b := o2) kr_ rfl rfl rfl rfl rfl (by rfl) rfl (Pres.deps kr_) ?_
     refine ge ?_
     refine Ev.stbH (b := o2) kr_ rfl rfl rfl rfl rfl (by rfl) rfl (Pres.deps kr_) ?_
     refine ge ?_
     refine go ?_
     refine Sx.ca (vs := [rtV ⟨(rtOf a.v.was).gen, k + 2, (rtOf a.v.was).cl, afterS x.wd a.v.need⟩]) rfl (refPutRoot ⟨(rtOf a.v.was).gen, k + 2, (rtOf a.v.was).cl, afterS x.wd a.v.need⟩ hR) ?_
     rintro v' L' ⟨rfl, rfl⟩
     refine go ?_
     obtain ⟨wN, hwN⟩ : ∃ wN, Rt.w ⟨(rtOf a.v.was).gen, k + 2, (rtOf a.v.was).cl, afterS x.wd a.v.need⟩ = wN := ⟨_, rfl⟩
     have hwl2 := Rt.w_lt hR
     rw [hwN] at hwl2 ⊢
     refine Cx.ordc rfl kr_ ?_
     refine ge ?_
     refine Ev.caH kr_ rfl rfl (refCas (rm := rm) (m := m) (x.root + slot) a.v.was wN (by omega) hwl hwl2) (Pres.deps kr_) ?_
     rintro v' L' ⟨rfl, rfl⟩
     refine ge ?_
     by_cases hc : m.at_ (x.root + slot) = a.v.was
     ·have ecas : m.cas (x.root + slot) a.v.was wN = m.put (x.root + slot) wN := by unfold Mm.cas; rw [if_pos hc]
      have e1 : alStep (x.al slot gen n) m S a = (m.put (x.root + slot) wN, alClose x.pool S { a.v with cnt := a.v.cnt + 1, hand := -1 } a.t 0 ⟨slot, gen, a.v.hand, 0, n⟩) := by
       unfold alStep; rw [hd, h0]; simp only [Bool.false_eq_true, if_false]; rw [if_pos hc, hkk, Int.toNat_natCast, Nat.add_comm 2 k, hwN]
      rw [e1, ecas, decide_eq_true hc]
      refine go ?_
      refine Sx.ent (Ent.take (a := some ⟨b, 0, none⟩)) ?_
      refine Sx.ent (M := ralB b sa slot gen n 0 ((a.v.cnt + 1 : Nat) : Int) { a.v with cnt := a.v.cnt + 1, hand := -1 } tp gp dry false :: pt (some ⟨sa, 0, none⟩) (RSupO w S) :: pt (some ⟨w, 0, none⟩) (RWO x rm rp rs re) :: pt (some ⟨rp, 0, none⟩) (RSkO rm x.pool) :: pt (some ⟨rm, 0, none⟩) (RMemO (m.put (x.root + slot) wN)) :: G) (Ent.cons (by exact entm)) ?_
      refine Sx.ca rfl (refAgFine (b := b) (sa := sa) (w := w) (rm := rm) (rp := rp) (rs := rs) (re := re) (slot := slot) (at_ := 0) (gen := gen) (n := n) (x := x) (S := S) (v := { a.v with cnt := a.v.cnt + 1, hand := -1 }) (tp := tp) (gp := gp) (dry := dry) a.t a.v.hand 0 rfl (by show (-1 : Int) ≤ -1; omega) r1 (by omega) hm0 hm2 (by show (S.xs ++ (if (0 : Int) ≤ -1 then [(-1 : Int)] else [])).Nodup; rw [if_neg (by omega), List.append_nil]; exact (List.nodup_append.1 hndA).1) (by show ∀ y ∈ S.xs ++ (if (0 : Int) ≤ -1 then [(-1 : Int)] else []), _; rw [if_neg (by omega), List.append_nil]; exact fun y hy => hrgA y (List.mem_append_left _ hy))) ?_
      rintro v' L' rfl
      refine go ?_
      refine Kr.one (.inr rfl) rfl (Ent.cons (Ent.cons ?_)) ⟨rfl, rfl⟩
      refine Ent.trans (M := pt (some ⟨rm, 0, none⟩) (RMemO (m.put (x.root + slot) wN)) :: pt (some ⟨w, 0, none⟩) (RWO x rm rp rs re) :: pt (some ⟨rp, 0, none⟩) (RSkO rm x.pool) :: G) (by exact entm) (Ent.cons hback)
     ·have ecas : m.cas (x.root + slot) a.v.was wN = m.tick := by unfold Mm.cas; rw [if_neg hc]
      have e1 : alStep (x.al slot gen n) m S a = (m.tick, S, ⟨0, { a.v with cnt := a.v.cnt + 1 }, a.t, gNone, false⟩) := by
       unfold alStep; rw [hd, h0]; simp only [Bool.false_eq_true, if_false]; rw [if_neg hc]
      rw [e1, ecas, decide_eq_false hc]
      refine go ?_
      refine Kr.one (.inr rfl) rfl ?_ ⟨rfl, rfl⟩
      refine Ent.trans (Ent.take (a := some ⟨b, 0, none⟩)) ?_
      refine Ent.trans (RAgO.closeS (rp := rp) (v := a.v) ⟨0, { a.v with cnt := a.v.cnt + 1 }, a.t, gNone, false⟩ (.inr (by show 0 ≠ 2; omega)) rfl rfl rfl rfl (fun _ h => absurd (show a.v.hand < 0 from h) (by omega))) (Ent.cons ?_)
      refine Ent.trans (M := pt (some ⟨sa, 0, none⟩) (RSupO w S) :: pt (some ⟨rm, 0, none⟩) (RMemO _) :: _) (by exact ent) (Ent.cons (Ent.cons hback))
end
end Go.Proofs.YtflalhdofhobmaaGreat


namespace Go.Proofs.YtflalhdofhobmaaGreat
structure RunG (x : Cn) (m : Mm) (P : List Int) (w : Wk) : Prop where
 h0 : -1 ≤ w.a.v.hand
 wok : (rtOf w.a.v.was).ok
 need : w.a.at_ ≠ 0 → w.a.at_ ≠ 6 → 1 ≤ w.a.v.need ∧ w.a.v.need ≤ x.wd
 fit : w.a.at_ = 1 → (rtOf w.a.v.was).off + w.a.v.need ≤ x.wd
 hand : w.a.at_ = 3 ∨ w.a.at_ = 4 ∨ w.a.at_ = 5 → 0 ≤ w.a.v.hand
 zlt : w.a.at_ = 3 → w.a.v.zat < x.wd
 z0 : w.a.at_ ≠ 6 → w.a.v.hand < 0 → w.a.v.zat = 0
 noh : w.a.at_ = 2 → w.a.v.hand = -1 ∧ w.a.v.asked = true
 tk : w.a.at_ = 2 → w.a.t.at_ = 1 ∧ w.a.t.done = false ∧ w.a.t.chunk = 0 ∧ w.a.t.is_ = false ∧ w.a.t.q.ok x.pool ∧ w.a.t.q.done = false ∧ PopH x.pool m P w.a.t.q
 ps : w.a.at_ = 6 → w.a.g.ok x.pool ∧ w.a.g.done = false ∧ PushH x.pool m w.a.g
 co : w.a.at_ ≠ 6 → w.a.v.code = 0 ∧ w.a.v.obj = Hd.zero
structure WkG (x : Cn) (T : Nat) (m : Mm) (P : List Int) (w : Wk) : Prop where
 n1 : 1 ≤ w.n
 n2 : w.n ≤ x.wd
 lm : w.s.lm.size = 0
 m0 : 0 ≤ w.s.most
 m2 : w.s.most ≤ 64
 a6 : w.a.at_ ≤ 6
 h6 : w.a.done = true ∨ w.a.at_ = 6 → w.a.v.hand = -1
 gd : w.a.done = true ∨ w.a.at_ ≠ 6 → w.a.g.done = true
 cnt : w.a.v.cnt ≤ T
 run : w.a.done = false → RunG x m P w
structure ApG (x : Cn) (m : Mm) (ws : List Wk) (P R : List Int) (T : Nat) : Prop where
 len : m.ws.length = x.len
 ok : m.ok
 root : ∀ s, s < x.sl → (rtOf (m.at_ (x.root + s))).ok
 pool : Pool x.pool m P
 tag : hdT (m.at_ x.pool.head) ≤ T + 10
 one : ∀ y, P.count y + R.count y + (ws.flatMap Wk.own).count y ≤ 1
 rng : ∀ y, 0 < P.count y + R.count y + (ws.flatMap Wk.own).count y → 0 ≤ y ∧ y < (x.c : Int)
 wk : ∀ w ∈ ws, WkG x T m P w
def FrG (x : Cn) (own : List Int) (m m' : Mm) : Prop := ∀ a, a ≠ x.pool.head → (a < x.root ∨ x.root + x.sl ≤ a) → (∀ y ∈ own, a ≠ x.link + y.toNat) → a < x.word → m'.at_ a = m.at_ a
theorem WkG.frame {x : Cn} {T : Nat} {m m' : Mm} {P P' own : List Int} {w : Wk} (h : WkG x T m P w) (hg : HeadGoes x.pool m m' P P') (hf : FrG x own m m') (hr : ∀ y ∈ w.own, 0 ≤ y ∧ y < (x.c : Int)) (hro : ∀ y ∈ own, 0 ≤ y ∧ y < (x.c : Int)) (hd : ∀ y ∈ w.own, y ∉ own) : WkG x (T + 1) m' P' w := by
 have g1 : x.root + x.sl ≤ x.link := by unfold Cn.root Cn.link; omega
 have g2 : x.link + x.c = x.word := by unfold Cn.link Cn.word; omega
 have g3 : 3 ≤ x.root := by unfold Cn.root; omega
 have g0 : x.pool.head = 0 := rfl
 have hlink : ∀ y ∈ w.own, m'.at_ (x.link + y.toNat) = m.at_ (x.link + y.toNat) := fun y hy => by
  have h1 := hr y hy
  refine hf _ (by omega) (by omega) (fun z hz => ?_) (by omega)
  have h2 := hro z hz
  have : y ≠ z := fun e => hd y hy (by rw [e]; exact hz)
  omega
 refine ⟨h.n1, h.n2, h.lm, h.m0, h.m2, h.a6, h.h6, h.gd, Nat.le_succ_of_le h.cnt, fun hdn => ?_⟩
 have r := h.run hdn
 refine ⟨r.h0, r.wok, r.need, r.fit, r.hand, r.zlt, r.z0, r.noh, fun h2 => ?_, fun h6 => ?_, r.co⟩
 ·obtain ⟨t1, t2, t3, t4, t5, t6, t7⟩ := r.tk h2
  exact ⟨t1, t2, t3, t4, t5, t6, t7.frame hg⟩
 ·obtain ⟨t1, t2, t3⟩ := r.ps h6
  refine ⟨t1, t2, t3.frame hg (fun y hy => hlink y ?_) t1.ne⟩
  unfold Wk.own ownG; rw [t2]
  exact List.mem_append_right _ (List.mem_append_right _ hy)
theorem ApG.upd {x : Cn} {T : Nat} {m m' : Mm} {A B : List Wk} {w w' : Wk} {P P' R R' : List Int} (h : ApG x m (A ++ w :: B) P R T)
  (hlen : m'.ws.length = x.len) (hok : m'.ok) (hroot : ∀ s, s < x.sl → (rtOf (m'.at_ (x.root + s))).ok) (hpool : Pool x.pool m' P')
  (hgo : HeadGoes x.pool m m' P P') (htag : hdT (m'.at_ x.pool.head) ≤ hdT (m.at_ x.pool.head) + 1)
  (hcnt : ∀ y, P'.count y + R'.count y + w'.own.count y = P.count y + R.count y + w.own.count y) (hfr : FrG x w.own m m') (hwk : WkG x (T + 1) m' P' w') :
  ApG x m' (A ++ w' :: B) P' R' (T + 1) := by
 have hcall : ∀ y, P'.count y + R'.count y + ((A ++ w' :: B).flatMap Wk.own).count y = P.count y + R.count y + ((A ++ w :: B).flatMap Wk.own).count y := fun y => by
  rw [ApI.cnt_mid, ApI.cnt_mid]; have := hcnt y; omega
 have hown : ∀ y ∈ w.own, 0 ≤ y ∧ y < (x.c : Int) := fun y hy => h.rng y (by rw [ApI.cnt_mid]; have := List.count_pos_iff.2 hy; omega)
 have hoth : ∀ v, v ∈ A ∨ v ∈ B → WkG x (T + 1) m' P' v := fun v hv => by
  have hle : ∀ y ∈ v.own, 0 < (A.flatMap Wk.own).count y + (B.flatMap Wk.own).count y := fun y hy => by
   rcases hv with hv | hv
   ·have := List.count_pos_iff.2 (List.mem_flatMap.2 ⟨v, hv, hy⟩); omega
   ·have := List.count_pos_iff.2 (List.mem_flatMap.2 ⟨v, hv, hy⟩); omega
  refine (h.wk v (by rcases hv with hv | hv <;> simp [hv])).frame hgo hfr (fun y hy => h.rng y (by rw [ApI.cnt_mid]; have := hle y hy; omega)) hown (fun y hy hy2 => ?_)
  have h1 := hle y hy
  have h2 := List.count_pos_iff.2 hy2
  have h3 := h.one y
  rw [ApI.cnt_mid] at h3
  omega
 refine ⟨hlen, hok, hroot, hpool, by have := h.tag; omega, fun y => by rw [hcall]; exact h.one y, fun y hy => h.rng y (by rw [← hcall]; exact hy), fun v hv => ?_⟩
 rcases List.mem_append.1 hv with hv | hv
 ·exact hoth v (.inl hv)
 ·rcases List.mem_cons.1 hv with rfl | hv
  ·exact hwk
  ·exact hoth v (.inr hv)
section
variable {x : Cn} {T : Nat} {m : Mm} {A B : List Wk} {w : Wk} {P R : List Int}
theorem ApG.mid (h : ApG x m (A ++ w :: B) P R T) : WkG x T m P w := h.wk w (by simp)
theorem ApG.own_rng (h : ApG x m (A ++ w :: B) P R T) : ∀ y ∈ w.own, 0 ≤ y ∧ y < (x.c : Int) := fun y hy => h.rng y (by rw [ApI.cnt_mid]; have := List.count_pos_iff.2 hy; omega)
theorem ApG.own_one (h : ApG x m (A ++ w :: B) P R T) (y : Int) : P.count y + R.count y + w.own.count y ≤ 1 := by
 have := h.one y; rw [ApI.cnt_mid] at this; omega
theorem ApG.own_nd (h : ApG x m (A ++ w :: B) P R T) : w.own.Nodup := List.nodup_iff_count.2 fun y => by have := h.own_one y; omega
theorem ApG.own_P (h : ApG x m (A ++ w :: B) P R T) {y : Int} (hy : y ∈ w.own) : y ∉ P := fun h2 => by
 have h1 := h.own_one y
 have := List.count_pos_iff.2 hy; have := List.count_pos_iff.2 h2; omega
theorem ApG.xs_le (h : ApG x m (A ++ w :: B) P R T) : w.s.xs.length ≤ x.c := by
 refine length_nodup x.c w.s.xs ?_ fun y hy => ?_
 ·have := h.own_nd; unfold Wk.own at this; exact (List.nodup_append.1 this).1
 ·exact h.own_rng y (by unfold Wk.own; exact List.mem_append_left _ hy)
theorem ApG.still {w' : Wk} (h : ApG x m (A ++ w :: B) P R T) (hcnt : ∀ y, w'.own.count y = w.own.count y) (hwk : WkG x (T + 1) m.tick P w') : ApG x m.tick (A ++ w' :: B) P R (T + 1) :=
 h.upd h.len (Mm.ok_tick h.ok) h.root h.pool.tick (.inl ⟨rfl, rfl⟩) (Nat.le_succ _) (fun y => by rw [hcnt]) (fun _ _ _ _ _ => rfl) hwk
theorem alClose_wkG {s : SupS} {v : AlV} {t : TakeS} {code : Nat} {o : Hd} {n : Nat} (h1 : 1 ≤ n) (h2 : n ≤ x.wd) (lm : s.lm.size = 0) (m0 : 0 ≤ s.most) (m2 : s.most ≤ 64) (hc : v.cnt ≤ T) (hwok : (rtOf v.was).ok)
  (hnd : (s.xs ++ (if 0 ≤ v.hand then [v.hand] else [])).Nodup) (hr : ∀ y ∈ s.xs ++ (if 0 ≤ v.hand then [v.hand] else []), 0 ≤ y ∧ y < (x.c : Int)) :
  WkG x T m P ⟨(alClose x.pool s v t code o).1, (alClose x.pool s v t code o).2, n⟩ ∧ (∀ y, (Wk.own ⟨(alClose x.pool s v t code o).1, (alClose x.pool s v t code o).2, n⟩).count y = s.xs.count y + (if 0 ≤ v.hand then [v.hand] else []).count y) := by
 obtain ⟨l, hl⟩ : ∃ l, s.xs ++ (if 0 ≤ v.hand then [v.hand] else []) = l := ⟨_, rfl⟩
 have hcl : ∀ y, s.xs.count y + (if 0 ≤ v.hand then [v.hand] else []).count y = l.count y := fun y => by rw [← List.count_append, hl]
 rw [alClose_eq hnd hr hl]
 rw [hl] at hnd hr
 obtain ⟨q, hq⟩ : ∃ q, overK s.most l = q := ⟨_, rfl⟩
 rw [hq]
 have htd := List.take_append_drop q l
 have hpd : (PushS.init (l.take q)).done = decide (l.take q = []) := rfl
 refine ⟨⟨h1, h2, lm, m0, m2, Nat.le_refl _, fun _ => rfl, fun h => h.elim id (fun h => absurd rfl h), hc, fun hd => ?_⟩, fun y => ?_⟩
 ·have hnil : (l.take q).length ≤ 0 → False := fun h => by
   have : l.take q = [] := List.eq_nil_of_length_eq_zero (by omega)
   rw [show (PushS.init (l.take q)).done = true by rw [hpd, this]; rfl] at hd
   cases hd
  exact ⟨Int.le_refl _, hwok, fun _ h => absurd rfl h, fun h => (by cases h), fun h => (by simp at h), fun h => (by cases h), fun h => absurd rfl h, fun h => (by cases h), fun h => (by cases h), fun _ => ⟨PushS.ok_init fun y hy => hr y (List.mem_of_mem_take hy), hd, fun _ => ⟨fun i _ h => by simp [PushS.init] at h, fun h => by simp [PushS.init] at h, fun h => (hnil h).elim, fun h => (hnil h).elim⟩⟩, fun h => absurd rfl h⟩
 ·rw [hcl]
  show (l.drop q ++ (ownH _ ++ ownG _)).count y = _
  have e3 : ownG ⟨6, { v with code := code, obj := o, point := v.cnt, ends := true, hand := -1 }, t, PushS.init (l.take q), (PushS.init (l.take q)).done⟩ = l.take q := by
   unfold ownG
   dsimp only
   rw [hpd]
   by_cases h : l.take q = []
   ·rw [h]; rfl
   ·rw [decide_eq_false h]; rfl
  rw [e3]
  show (l.drop q ++ ([] ++ l.take q)).count y = _
  rw [List.nil_append, List.count_append, Nat.add_comm, ← List.count_append, htd]
end
end Go.Proofs.YtflalhdofhobmaaGreat
