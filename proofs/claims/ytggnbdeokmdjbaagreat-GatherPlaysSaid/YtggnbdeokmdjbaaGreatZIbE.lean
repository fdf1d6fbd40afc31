/-
  Parts of the proof, merged: what the statement leans on.
-/
import Derived.Deep.Slices
import Derived.Deep.Fields
import Derived.Test.YtggnbdeokmdjbaaGreatZIbD
set_option linter.unusedVariables false
set_option linter.unusedSimpArgs false

namespace Go.Proofs.YtggnbdeokmdjbaaGreat
open Go
attribute [local irreducible] Sx Cx Rx Fx Krg Ksq Kbl Klp Kr
section
variable {L F G : St}
abbrev advF (b e mp : Nat) (x : Cn) (m : Mm) (s : AdvS) (cnt : Int) (G : St) : St :=
 pt (some ⟨b, 0, none⟩) (Blk 270 [.nilFunc, .nilFunc, .nilFunc, .nilFunc, .int .i64 cnt, .pointer (some ⟨e, 0, none⟩), wd s.was, .int .i64 (s.worker : Nat), .bool s.won]) :: pt (some ⟨mp, 0, none⟩) (MemO m) :: pt (some ⟨e, 0, none⟩) (EpO mp x) :: G
abbrev advR (b e mp : Nat) (x : Cn) (m : Mm) (s : AdvS) (G : St) (v : Value) (L' : St) : Prop :=
 L' = pt (some ⟨b, 0, none⟩) (AdvO e x (advStep x.w m s).1) :: pt (some ⟨mp, 0, none⟩) (MemO (advStep x.w m s).2) :: pt (some ⟨e, 0, none⟩) (EpO mp x) :: G
theorem adv_load_ {b e mp : Nat} {x : Cn} {m : Mm} {s : AdvS} {cnt : Int} (hx : x.ok) (hm : m.ok) (hl : x.len ≤ m.ws.length) (hs : s.ok x.w) (ha : s.at_ = 0) (hd : s.done = false) :
  Fx Tryz.prog 185 [.pointer (some ⟨b, 0, none⟩)] (advF b e mp x m s cnt G) (advR b e mp x m s G) := by
 have hlen : 3 + x.w ≤ x.len := by unfold Cn.len; omega
 have hb1 := hx.1
 have hok := advStep_ok (by omega) hm hs
 have e1 : advStep x.w m s = ({ s with was := m.at_ 2, at_ := 1 }, m.tick) := by unfold advStep; rw [hd, ha]; rfl
 rw [e1] at hok
 refine Fx.mk Tryz.func185 k185 nb_ ?_
 dsimp only [c185, kG, kS, kH, kM, kN, kF, kL, envOf, Nat.reduceAdd]
 unfold advF
 refine go ?_
 refine Cx.ordc rfl kr_ ?_
 refine ge ?_
 refine Ev.caH kr_ rfl rfl (cellsLoad (b := mp) (m := m) 2 (by omega)) (Pres.deps kr_) ?_
 rintro v L' ⟨rfl, rfl⟩
 refine ge ?_
 refine Ev.stbH (b := b) kr_ rfl rfl rfl rfl rfl (by rfl) rfl (Pres.deps kr_) ?_
 refine ge ?_
 refine go ?_
 refine Sx.ca rfl (machGo (b := b)) ?_
 rintro v L' ⟨rfl, rfl⟩
 refine go ?_
 refine Kr.none (.inl rfl) ?_ rfl
 rw [e1]
 refine Ent.trans (AdvO.close (a := some ⟨b, 0, none⟩) (e := e) (x := x) _ hok ?_ rfl rfl rfl) ?_
 ·simp [advNx, advFn, hd]
 ·exact ent
theorem adv_cas_ {b e mp : Nat} {x : Cn} {m : Mm} {s : AdvS} {cnt : Int} (hx : x.ok) (hm : m.ok) (hl : x.len ≤ m.ws.length) (hs : s.ok x.w) (ha : s.at_ = 2) (hd : s.done = false) :
  Fx Tryz.prog 274 [.pointer (some ⟨b, 0, none⟩)] (advF b e mp x m s cnt G) (advR b e mp x m s G) := by
 have hlen : 3 + x.w ≤ x.len := by unfold Cn.len; omega
 have hb1 := hx.1
 have hok := advStep_ok (by omega) hm hs
 have hw := hs.w
 have e1 : advStep x.w m s = ({ s with won := decide (m.at_ 2 = s.was), done := true }, m.cas 2 s.was ((s.was + 1) % 18446744073709551616)) := by unfold advStep; rw [hd, ha]; rfl
 rw [e1] at hok
 refine Fx.mk Tryz.func274 k274 nb_ ?_
 dsimp only [c274, kG, kS, kH, kM, kN, kF, kL, envOf, Nat.reduceAdd]
 unfold advF
 refine go ?_
 refine Cx.orde rfl kr_ ?_
 refine ge ?_
 rw [show IntKind.u64.wrap ((s.was : Int) + 1) = (((s.was + 1) % 18446744073709551616 : Nat) : Int) by
  by_cases h : s.was = 18446744073709551615
  ·rw [h]; rfl
  ·rw [wu64 (by omega) (by omega)]; omega]
 refine Ev.caH kr_ rfl rfl (cellsCas (b := mp) (m := m) 2 s.was ((s.was + 1) % 18446744073709551616) (by omega) (by omega)) (Pres.deps kr_) ?_
 rintro v L' ⟨rfl, rfl⟩
 refine ge ?_
 refine Ev.stbH (b := b) kr_ rfl rfl rfl rfl rfl (by rfl) rfl (Pres.deps kr_) ?_
 refine ge ?_
 refine go ?_
 refine Kr.none (.inl rfl) ?_ rfl
 rw [e1]
 refine Ent.trans (AdvO.close (a := some ⟨b, 0, none⟩) (e := e) (x := x) _ hok ?_ rfl rfl rfl) ?_
 ·simp [advNx]
 ·exact ent
theorem adv_look_ {b e mp : Nat} {x : Cn} {m : Mm} {s : AdvS} {cnt : Int} (hx : x.ok) (hm : m.ok) (hl : x.len ≤ m.ws.length) (hs : s.ok x.w) (ha : s.at_ = 1) (hd : s.done = false) :
  Fx Tryz.prog 237 [.pointer (some ⟨b, 0, none⟩)] (advF b e mp x m s cnt G) (advR b e mp x m s G) := by
 have hlen : 3 + x.w ≤ x.len := by unfold Cn.len; omega
 have hb1 := hx.1
 have hok := advStep_ok (by omega) hm hs
 have hw := hs.w
 have hwk := hs.l hd ha
 have hlt := Mm.at_lt hm (3 + s.worker)
 have e1 : advStep x.w m s = if behind s.was (m.at_ (3 + s.worker)) then ({ s with done := true }, m.tick) else ({ s with worker := s.worker + 1, at_ := if s.worker + 1 < x.w then 1 else 2 }, m.tick) := by unfold advStep; rw [hd, ha]; rfl
 refine Fx.mk Tryz.func237 k237 nb_ ?_
 dsimp only [c237, kG, kS, kH, kM, kN, kF, kL, envOf, Nat.reduceAdd]
 unfold advF
 refine go ?_
 refine Cx.ordc rfl kr_ ?_
 refine ge ?_
 rw [w64 (n := (3 : Int) + s.worker) (by omega) (by omega), show (3 : Int) + s.worker = ((3 + s.worker : Nat) : Int) by omega]
 refine Ev.caH kr_ rfl rfl (cellsLoad (b := mp) (m := m) (3 + s.worker) (by omega)) (Pres.deps kr_) ?_
 rintro v L' ⟨rfl, rfl⟩
 refine ge ?_
 refine Cx.sq ?_
 refine Cx.jn (β := {u : Unit // ¬ behind s.was (m.at_ (3 + s.worker))}) (fun _ => [(0, .pointer (some ⟨b, 0, none⟩))]) (fun _ => pt (some ⟨b, 0, none⟩) (Blk 270 [.nilFunc, .nilFunc, .nilFunc, .nilFunc, .int .i64 cnt, .pointer (some ⟨e, 0, none⟩), wd s.was, .int .i64 (s.worker : Nat), .bool s.won]) :: pt (some ⟨mp, 0, none⟩) (MemO m.tick) :: pt (some ⟨e, 0, none⟩) (EpO mp x) :: G) ?_ ?_
 ·refine go ?_
  refine Sx.ca rfl (getPin _ hlt) ?_
  rintro v L' ⟨rfl, rfl⟩
  by_cases hp : m.at_ (3 + s.worker) % 2 = 1
  ·rw [if_pos hp, decide_eq_true hp]
   refine go ?_
   refine Sx.ca rfl (epochCut s.was hw) ?_
   rintro v L' ⟨rfl, rfl⟩
   refine go ?_
   refine Cx.ifn rfl (fun h => ?_) (fun h => ?_)
   ·have e2 : advStep x.w m s = ({ s with done := true }, m.tick) := by rw [e1, if_pos ⟨hp, h⟩]
    rw [e2] at hok
    refine go ?_
    refine Kr.none (.inr rfl) ?_ rfl
    rw [e2]
    refine Ent.trans (Ent.take (a := some ⟨b, 0, none⟩)) ?_
    refine Ent.trans (AdvO.close (a := some ⟨b, 0, none⟩) (e := e) (x := x) _ hok ?_ rfl rfl rfl) ?_
    ·simp [advNx]
    ·exact ent
   ·refine go ?_
    refine Kjn.nm ⟨(), fun h2 => h2.2 h⟩ (sub.cons rfl sub.nil) ?_
    exact ent
  ·rw [if_neg hp, decide_eq_false hp]
   refine go ?_
   refine Kjn.nm ⟨(), fun h2 => hp h2.1⟩ (sub.cons rfl sub.nil) ?_
   exact ent
 ·rintro ⟨_, hno⟩
  rw [if_neg hno] at e1
  rw [e1] at hok
  refine go ?_
  rw [w64 (n := (s.worker : Int) + 1) (by omega) (by omega)]
  refine Cx.ordc rfl kr_ ?_
  refine ge ?_
  refine Cx.ifp rfl (fun h => ?_) (fun h => ?_)
  ·refine go ?_
   refine Sx.ca rfl (machGo (b := b)) ?_
   rintro v L' ⟨rfl, rfl⟩
   refine go ?_
   refine Kr.none (.inl rfl) ?_ rfl
   rw [e1]
   refine Ent.trans (AdvO.close (a := some ⟨b, 0, none⟩) (e := e) (x := x) _ hok ?_ rfl rfl rfl) ?_
   ·simp [advNx, advFn, hd, show s.worker + 1 < x.w by omega]
   ·exact ent
  ·refine go ?_
   refine Sx.ca rfl (machGo (b := b)) ?_
   rintro v L' ⟨rfl, rfl⟩
   refine go ?_
   refine Kr.none (.inl rfl) ?_ rfl
   rw [e1]
   refine Ent.trans (AdvO.close (a := some ⟨b, 0, none⟩) (e := e) (x := x) _ hok ?_ rfl rfl rfl) ?_
   ·simp [advNx, advFn, hd, show ¬ s.worker + 1 < x.w by omega]
   ·exact ent
end
end Go.Proofs.YtggnbdeokmdjbaaGreat


namespace Go.Proofs.YtggnbdeokmdjbaaGreat
open Go
attribute [local irreducible] Sx Cx Rx Fx Krg Ksq Kbl Klp Kr
section
variable {L F G : St}
theorem advStepC {b e mp : Nat} {x : Cn} {m : Mm} {s : AdvS} {F1 F2 : St} (hx : x.ok) (hl : x.len ≤ m.ws.length) [t1 : Take L (some ⟨b, 0, none⟩) (AdvO e x s) F1] [t2 : Take F1 (some ⟨mp, 0, none⟩) (MemO m) F2] [t3 : Take F2 (some ⟨e, 0, none⟩) (EpO mp x) G] :
  Fx Tryz.prog 102 [.pointer (some ⟨b, 0, none⟩)] L (fun v L' => v = .bool (!s.done) ∧ L' = pt (some ⟨b, 0, none⟩) (AdvO e x (advStep x.w m s).1) :: pt (some ⟨mp, 0, none⟩) (MemO (advStep x.w m s).2) :: F2) := by
 refine Fx.mk Tryz.func102 k102 nb_ ?_
 dsimp only [c102, kG, kS, kH, kM, kN, kF, kL, envOf, Nat.reduceAdd]
 refine Cx.ent (Ent.trans (Ent.of t1.out) (Ent.cons (Ent.trans (Ent.of t2.out) (Ent.cons (Ent.of t3.out))))) ?_
 refine Cx.pure (memKey (b := mp) (m := m)) fun hm => ?_
 refine Cx.openp (a := some ⟨b, 0, none⟩) rfl ?_
 rintro cnt
 simp only [advL, List.cons_append, List.nil_append]
 refine Cx.liftp fun hs => ?_
 cases hd : s.done with
 | true =>
   have e1 : advStep x.w m s = (s, m) := by unfold advStep; rw [hd]; rfl
   rw [e1, show advNx (some ⟨b, 0, none⟩) s = .nilFunc by simp [advNx, hd]]
   refine go ?_
   refine Sx.ca rfl (machStepDone (b := b)) ?_
   rintro v L' ⟨rfl, rfl⟩
   refine go ?_
   refine Kr.one (.inr rfl) rfl ?_ ⟨rfl, rfl⟩
   refine Ent.trans (AdvO.close (a := some ⟨b, 0, none⟩) (e := e) (x := x) s hs ?_ rfl rfl rfl) (Ent.cons (Ent.cons (Ent.of t3.back)))
   simp [advNx, hd]
 | false =>
   have hcase := hs.a
   rcases (show s.at_ = 0 ∨ s.at_ = 1 ∨ s.at_ = 2 by omega) with ha | ha | ha
   ·rw [show advNx (some ⟨b, 0, none⟩) s = .func (.func 185) #[.pointer (some ⟨b, 0, none⟩)] #[] by simp [advNx, advFn, hd, ha]]
    refine go ?_
    refine Sx.ca rfl (machStep (b := b) kr_ (adv_load_ (G := G) hx hm.1 hl hs ha hd)) ?_
    rintro v L' ⟨rfl, w, rfl⟩
    refine go ?_
    exact Kr.one (.inr rfl) rfl (Ent.cons (Ent.cons (Ent.of t3.back))) ⟨rfl, rfl⟩
   ·rw [show advNx (some ⟨b, 0, none⟩) s = .func (.func 237) #[.pointer (some ⟨b, 0, none⟩)] #[] by simp [advNx, advFn, hd, ha]]
    refine go ?_
    refine Sx.ca rfl (machStep (b := b) kr_ (adv_look_ (G := G) hx hm.1 hl hs ha hd)) ?_
    rintro v L' ⟨rfl, w, rfl⟩
    refine go ?_
    exact Kr.one (.inr rfl) rfl (Ent.cons (Ent.cons (Ent.of t3.back))) ⟨rfl, rfl⟩
   ·rw [show advNx (some ⟨b, 0, none⟩) s = .func (.func 274) #[.pointer (some ⟨b, 0, none⟩)] #[] by simp [advNx, advFn, hd, ha]]
    refine go ?_
    refine Sx.ca rfl (machStep (b := b) kr_ (adv_cas_ (G := G) hx hm.1 hl hs ha hd)) ?_
    rintro v L' ⟨rfl, w, rfl⟩
    refine go ?_
    exact Kr.one (.inr rfl) rfl (Ent.cons (Ent.cons (Ent.of t3.back))) ⟨rfl, rfl⟩
theorem advDoneC {b e : Nat} {x : Cn} {s : AdvS} {F1 : St} [tp : Take L (some ⟨b, 0, none⟩) (AdvO e x s) F1] : Fx Tryz.prog 103 [.pointer (some ⟨b, 0, none⟩)] L (fun v L' => v = .bool s.done ∧ L = L') := by
 refine Fx.kept (t := tp) ?_
 refine Fx.mk Tryz.func103 k103 nb_ ?_
 dsimp only [c103, kG, kS, kH, kM, kN, kF, kL, envOf, Nat.reduceAdd]
 refine Cx.openp (t := tp) rfl ?_
 rintro cnt
 simp only [advL, List.cons_append, List.nil_append]
 refine Cx.liftp fun hs => ?_
 cases hd : s.done with
 | true =>
   have e1 : advNx (some ⟨b, 0, none⟩) s = .nilFunc := by simp [advNx, hd]
   rw [e1]
   refine go ?_
   refine Sx.ca rfl (machDoneYes (b := b)) ?_
   rintro v L' ⟨rfl, rfl⟩
   refine go ?_
   exact Kr.one (.inr rfl) rfl (AdvO.close (a := some ⟨b, 0, none⟩) (e := e) (x := x) s hs e1.symm rfl rfl rfl) ⟨rfl, rfl⟩
 | false =>
   have e1 : advNx (some ⟨b, 0, none⟩) s = .func (.func (advFn s)) #[.pointer (some ⟨b, 0, none⟩)] #[] := by simp [advNx, hd]
   rw [e1]
   refine go ?_
   refine Sx.ca rfl (machDoneNo (b := b)) ?_
   rintro v L' ⟨rfl, rfl⟩
   refine go ?_
   exact Kr.one (.inr rfl) rfl (AdvO.close (a := some ⟨b, 0, none⟩) (e := e) (x := x) s hs e1.symm rfl rfl rfl) ⟨rfl, rfl⟩
theorem advWonC {b e : Nat} {x : Cn} {s : AdvS} {F1 : St} [tp : Take L (some ⟨b, 0, none⟩) (AdvO e x s) F1] : Fx Tryz.prog 97 [.pointer (some ⟨b, 0, none⟩)] L (fun v L' => v = .bool s.won ∧ L = L') := by
 refine Fx.kept (t := tp) ?_
 refine Fx.mk Tryz.func97 k97 nb_ ?_
 dsimp only [c97, kG, kS, kH, kM, kN, kF, kL, envOf, Nat.reduceAdd]
 refine Cx.openp (t := tp) rfl ?_
 rintro cnt
 simp only [advL, List.cons_append, List.nil_append]
 refine Cx.liftp fun hs => ?_
 refine go ?_
 exact Kr.one (.inr rfl) rfl (AdvO.close (a := some ⟨b, 0, none⟩) (e := e) (x := x) s hs rfl rfl rfl rfl) ⟨rfl, rfl⟩
theorem epochNow {e mp : Nat} {x : Cn} {m : Mm} (hl : 2 < m.ws.length) {F1 F2 : St} [t1 : Take L (some ⟨e, 0, none⟩) (EpO mp x) F1] [t2 : Take L (some ⟨mp, 0, none⟩) (MemO m) F2] :
  Fx Tryz.prog 89 [.pointer (some ⟨e, 0, none⟩)] L (fun v L' => v = .int .i64 (cutE (m.at_ 2)) ∧ L = L') := by
 refine Fx.mk Tryz.func89 k89 nb_ ?_
 dsimp only [c89, kG, kS, kH, kM, kN, kF, kL, envOf, Nat.reduceAdd]
 refine Cx.pure (memKey (b := mp) (m := m)) fun hm => ?_
 refine go ?_
 refine Cx.ordc rfl kr_ ?_
 refine ge ?_
 refine Ev.cakH kr_ rfl rfl (cellsPeek (b := mp) (m := m) 2 hl) ?_
 refine ge ?_
 refine Ev.cakH kr_ rfl rfl (epochCut (m.at_ 2) (Mm.at_lt hm.1 2)) ?_
 refine ge ?_
 refine go ?_
 exact Kr.one (.inr rfl) rfl (Ent.refl _) ⟨rfl, rfl⟩
end
end Go.Proofs.YtggnbdeokmdjbaaGreat


namespace Go.Proofs.YtggnbdeokmdjbaaGreat
open Go
attribute [local irreducible] Sx Cx Rx Fx Krg Ksq Kbl Klp Kr
section
variable {L F G : St}
theorem epochAdvance {e : Nat} {x : Cn} : Fx Tryz.prog 100 [.pointer (some ⟨e, 0, none⟩)] L (fun v L' => ∃ b, v = .pointer (some ⟨b, 0, none⟩) ∧ L' = pt (some ⟨b, 0, none⟩) (AdvO e x AdvS.init) :: L) := by
 refine Fx.mk Tryz.func100 k100 nb_ ?_
 dsimp only [c100, kG, kS, kH, kM, kN, kF, kL, envOf, Nat.reduceAdd]
 refine go ?_
 refine Sx.bx rfl rfl fun b => ?_
 refine go ?_
 refine Sx.ca rfl (machGo (b := b)) ?_
 rintro v L' ⟨rfl, rfl⟩
 refine go ?_
 exact Kr.one (.inr rfl) rfl (AdvO.close (a := some ⟨b, 0, none⟩) (e := e) (x := x) AdvS.init AdvS.ok_init rfl rfl rfl rfl) ⟨b, rfl, rfl⟩
end
end Go.Proofs.YtggnbdeokmdjbaaGreat


namespace Go.Proofs.YtggnbdeokmdjbaaGreat
open Go
attribute [local irreducible] Sx Cx Rx Fx Krg Ksq Kbl Klp Kr
section
variable {L F G : St}
abbrev coB (b g u : Nat) (nx n1 n2 n3 : Value) (cnt : Int) (ap gp : Value) : As := pt (some ⟨b, 0, none⟩) (Blk 158 [nx, n1, n2, n3, .int .i64 cnt, .pointer (some ⟨g, 0, none⟩), .pointer (some ⟨u, 0, none⟩), ap, gp])
def colAL (T : TypeId) (g u e : Nat) (x : Cn) (c : ColS) (a : Option Addr) (y : Nat × Int) : St :=
 [pt a (Blk T [.func (.func 238) #[.pointer a] #[], mth 102 y.1, mth 103 y.1, .func (.func 104) #[.pointer a] #[], .int .i64 y.2, .pointer (some ⟨g, 0, none⟩), .pointer (some ⟨u, 0, none⟩), .pointer (some ⟨y.1, 0, none⟩), .pointer none]),
  pt (some ⟨y.1, 0, none⟩) (AdvO e x c.a)]
def colBL (T : TypeId) (g u e : Nat) (x : Cn) (c : ColS) (a : Option Addr) (y : Nat × Value × Value × Value × Int) : St :=
 [pt a (Blk T [.func (.func 187) #[.pointer a] #[], y.2.1, y.2.2.1, y.2.2.2.1, .int .i64 y.2.2.2.2, .pointer (some ⟨g, 0, none⟩), .pointer (some ⟨u, 0, none⟩), .pointer (some ⟨y.1, 0, none⟩), .pointer none]),
  pt (some ⟨y.1, 0, none⟩) (AdvO e x c.a)]
def colCL (T : TypeId) (g u e pb : Nat) (x : Cn) (c : ColS) (a : Option Addr) (y : Nat × Nat × Int) : St :=
 [pt a (Blk T [.func (.func 238) #[.pointer a] #[], mth 71 y.2.1, mth 166 y.2.1, .func (.func 239) #[.pointer a] #[], .int .i64 y.2.2, .pointer (some ⟨g, 0, none⟩), .pointer (some ⟨u, 0, none⟩), .pointer (some ⟨y.1, 0, none⟩), .pointer (some ⟨y.2.1, 0, none⟩)]),
  pt (some ⟨y.1, 0, none⟩) (AdvO e x c.a), pt (some ⟨y.2.1, 0, none⟩) (GiveO pb x.pool c.g)]
def colDL (T : TypeId) (g u e pb : Nat) (x : Cn) (c : ColS) (a : Option Addr) (y : Nat × Nat × Value × Value × Value × Int) : St :=
 [pt a (Blk T [.nilFunc, y.2.2.1, y.2.2.2.1, y.2.2.2.2.1, .int .i64 y.2.2.2.2.2, .pointer (some ⟨g, 0, none⟩), .pointer (some ⟨u, 0, none⟩), .pointer (some ⟨y.1, 0, none⟩), .pointer (some ⟨y.2.1, 0, none⟩)]),
  pt (some ⟨y.1, 0, none⟩) (AdvO e x c.a), pt (some ⟨y.2.1, 0, none⟩) (GiveO pb x.pool c.g)]
def ColT (T : TypeId) (g u e pb : Nat) (x : Cn) (c : ColS) (a : Option Addr) : As := bif c.done then exs (colDL T g u e pb x c a) else match c.at_ with
 | 0 => exs (colAL T g u e x c a) | 1 => exs (colBL T g u e x c a) | _ => exs (colCL T g u e pb x c a)
abbrev ColO := ColT 158
theorem ColO.a {T : TypeId} {g u e pb : Nat} {x : Cn} {c : ColS} {a : Option Addr} (h : c.done = false) (h0 : c.at_ = 0) : ColT T g u e pb x c a = exs (colAL T g u e x c a) := by unfold ColT; rw [h, h0]; rfl
theorem ColO.b {T : TypeId} {g u e pb : Nat} {x : Cn} {c : ColS} {a : Option Addr} (h : c.done = false) (h0 : c.at_ = 1) : ColT T g u e pb x c a = exs (colBL T g u e x c a) := by unfold ColT; rw [h, h0]; rfl
theorem ColO.c {T : TypeId} {g u e pb : Nat} {x : Cn} {c : ColS} {a : Option Addr} (h : c.done = false) (h0 : c.at_ = 2) : ColT T g u e pb x c a = exs (colCL T g u e pb x c a) := by unfold ColT; rw [h, h0]; rfl
theorem ColO.d {T : TypeId} {g u e pb : Nat} {x : Cn} {c : ColS} {a : Option Addr} (h : c.done = true) : ColT T g u e pb x c a = exs (colDL T g u e pb x c a) := by unfold ColT; rw [h]; rfl
theorem ColO.closeA {b g u e pb q : Nat} {x : Cn} {cnt : Int} {s : AdvS} (c : ColS) (h : c.done = false) (h0 : c.at_ = 0) (hs : s = c.a) :
  Ent (coB b g u (mth 238 b) (mth 102 q) (mth 103 q) (mth 104 b) cnt (.pointer (some ⟨q, 0, none⟩)) (.pointer none) :: pt (some ⟨q, 0, none⟩) (AdvO e x s) :: G) (pt (some ⟨b, 0, none⟩) (ColO g u e pb x c) :: G) := by
 subst hs
 exact Ent.close (f := colAL 158 g u e x c (some ⟨b, 0, none⟩)) (ColO.a h h0) (q, cnt)
theorem gatherCollect {g u e mp pb : Nat} {x : Cn} {F1 : St} [t1 : Take L (some ⟨g, 0, none⟩) (GaO mp e) F1] :
  Fx Tryz.prog 23 [.pointer (some ⟨g, 0, none⟩), .pointer (some ⟨u, 0, none⟩)] L (fun v L' => ∃ b, v = .pointer (some ⟨b, 0, none⟩) ∧ L' = pt (some ⟨b, 0, none⟩) (ColO g u e pb x ColS.init) :: L) := by
 refine Fx.mk Tryz.func23 k23 nb_ ?_
 dsimp only [c23, kG, kS, kH, kM, kN, kF, kL, envOf, Nat.reduceAdd]
 refine go ?_
 refine Sx.ca rfl (epochAdvance (e := e) (x := x)) ?_
 rintro v L' ⟨q, rfl, rfl⟩
 refine go ?_
 refine Sx.bx rfl rfl fun b => ?_
 refine go ?_
 refine Cx.ordc rfl kr_ ?_
 refine ge ?_
 refine Ev.caH kr_ rfl rfl (machThrough (b := b) (machOnNo (b := b) kr_ (advDoneC (b := q) (e := e) (x := x) (s := AdvS.init)))) (Pres.deps kr_) ?_
 rintro v L' ⟨rfl, w, rfl, rfl⟩
 refine ge ?_
 refine go ?_
 exact Kr.one (.inr rfl) rfl (ColO.closeA ColS.init rfl rfl rfl) ⟨b, rfl, rfl⟩
end
end Go.Proofs.YtggnbdeokmdjbaaGreat


namespace Go.Proofs.YtggnbdeokmdjbaaGreat
open Go
attribute [local irreducible] Sx Cx Rx Fx Krg Ksq Kbl Klp Kr
section
variable {L F G : St}
theorem ColO.closeB {b g u e pb q : Nat} {x : Cn} {n1 n2 n3 : Value} {cnt : Int} {s : AdvS} (c : ColS) (h : c.done = false) (h0 : c.at_ = 1) (hs : s = c.a) :
  Ent (coB b g u (mth 187 b) n1 n2 n3 cnt (.pointer (some ⟨q, 0, none⟩)) (.pointer none) :: pt (some ⟨q, 0, none⟩) (AdvO e x s) :: G) (pt (some ⟨b, 0, none⟩) (ColO g u e pb x c) :: G) := by
 subst hs
 exact Ent.close (f := colBL 158 g u e x c (some ⟨b, 0, none⟩)) (ColO.b h h0) (q, n1, n2, n3, cnt)
theorem ColO.closeC {b g u e pb q r : Nat} {x : Cn} {cnt : Int} {s : AdvS} {p : PushS} (c : ColS) (h : c.done = false) (h0 : c.at_ = 2) (hs : s = c.a) (hp : p = c.g) :
  Ent (coB b g u (mth 238 b) (mth 71 r) (mth 166 r) (mth 239 b) cnt (.pointer (some ⟨q, 0, none⟩)) (.pointer (some ⟨r, 0, none⟩)) :: pt (some ⟨q, 0, none⟩) (AdvO e x s) :: pt (some ⟨r, 0, none⟩) (GiveO pb x.pool p) :: G) (pt (some ⟨b, 0, none⟩) (ColO g u e pb x c) :: G) := by
 subst hs; subst hp
 exact Ent.close (f := colCL 158 g u e pb x c (some ⟨b, 0, none⟩)) (ColO.c h h0) (q, r, cnt)
theorem ColO.closeD {b g u e pb q r : Nat} {x : Cn} {n1 n2 n3 : Value} {cnt : Int} {s : AdvS} {p : PushS} (c : ColS) (h : c.done = true) (hs : s = c.a) (hp : p = c.g) :
  Ent (coB b g u .nilFunc n1 n2 n3 cnt (.pointer (some ⟨q, 0, none⟩)) (.pointer (some ⟨r, 0, none⟩)) :: pt (some ⟨q, 0, none⟩) (AdvO e x s) :: pt (some ⟨r, 0, none⟩) (GiveO pb x.pool p) :: G) (pt (some ⟨b, 0, none⟩) (ColO g u e pb x c) :: G) := by
 subst hs; subst hp
 exact Ent.close (f := colDL 158 g u e pb x c (some ⟨b, 0, none⟩)) (ColO.d h) (q, r, n1, n2, n3, cnt)
theorem colAdvanced {b : Nat} {T : TypeId} {nx : Value} {rest : List Value} {F : St} [t : Take L (some ⟨b, 0, none⟩) (Blk T (nx :: rest)) F] :
  Fx Tryz.prog 104 [.pointer (some ⟨b, 0, none⟩)] L (fun v L' => v = .tuple #[] ∧ L' = pt (some ⟨b, 0, none⟩) (Blk T (mth 187 b :: rest)) :: F) := by
 refine Fx.mk Tryz.func104 k104 nb_ ?_
 dsimp only [c104, kG, kS, kH, kM, kN, kF, kL, envOf, Nat.reduceAdd]
 refine go ?_
 refine Sx.ca rfl (machGo (b := b)) ?_
 rintro v L' ⟨rfl, rfl⟩
 refine go ?_
 exact Kr.none (.inl rfl) (Ent.refl _) ⟨rfl, rfl⟩
theorem colOver {v : Value} : Fx Tryz.prog 239 [v] L (fun v L' => v = .tuple #[] ∧ L = L') := by
 refine Fx.mk Tryz.func239 k239 nb_ ?_
 dsimp only [c239, kG, kS, kH, kM, kN, kF, kL, envOf, Nat.reduceAdd]
 refine Cx.sk ?_
 exact Kr.none (.inl rfl) (Ent.refl _) ⟨rfl, rfl⟩
set_option maxHeartbeats 2000000 in
theorem colLook {b g u e mp pb q : Nat} {x : Cn} {s : SupS} {m : Mm} {c : ColS} {n1 n2 n3 : Value} {cnt : Int} (hx : x.ok) (hm : m.ok) (hl : x.len ≤ m.ws.length) (hb : s.xs.length + s.lm.size ≤ 1000000) (hd : c.done = false) (h0 : c.at_ = 1) :
  Fx Tryz.prog 187 [.pointer (some ⟨b, 0, none⟩)] (coB b g u .nilFunc n1 n2 n3 cnt (.pointer (some ⟨q, 0, none⟩)) (.pointer none) :: pt (some ⟨q, 0, none⟩) (AdvO e x c.a) :: pt (some ⟨u, 0, none⟩) (SupO mp pb x s) :: pt (some ⟨mp, 0, none⟩) (MemO m) :: pt (some ⟨pb, 0, none⟩) (SkO mp x.pool) :: pt (some ⟨g, 0, none⟩) (GaO mp e) :: G)
   (fun v L' => L' = pt (some ⟨b, 0, none⟩) (ColO g u e pb x (colStep x.pool x.w m s c).2.2) :: pt (some ⟨u, 0, none⟩) (SupO mp pb x (colStep x.pool x.w m s c).2.1) :: pt (some ⟨mp, 0, none⟩) (MemO (colStep x.pool x.w m s c).1) :: pt (some ⟨pb, 0, none⟩) (SkO mp x.pool) :: pt (some ⟨g, 0, none⟩) (GaO mp e) :: G) := by
 have hl3 : 3 ≤ x.len := by unfold Cn.len; omega
 have hlt := Mm.at_lt hm 2
 have hz := size_ready (cutE (m.at_ 2)) s.lm
 have hrl : (s.ready (cutE (m.at_ 2))).xs.length ≤ 1000000 := by show (s.xs ++ (readyAll (cutE (m.at_ 2)) s.lm).1).length ≤ _; rw [List.length_append]; omega
 have e1 : colStep x.pool x.w m s c = (m.tick, { s.ready (cutE (m.at_ 2)) with xs := [] }, { c with at_ := 2, g := giveInit x.pool (s.ready (cutE (m.at_ 2))).xs, done := (giveInit x.pool (s.ready (cutE (m.at_ 2))).xs).done }) := by unfold colStep; rw [hd, h0]; rfl
 rw [e1]
 refine Fx.mk Tryz.func187 k187 nb_ ?_
 dsimp only [c187, kG, kS, kH, kM, kN, kF, kL, envOf, Nat.reduceAdd]
 refine go ?_
 refine Sx.ca rfl (cellsLoad (b := mp) (m := m) 2 (by omega)) ?_
 rintro v L' ⟨rfl, rfl⟩
 refine go ?_
 refine Cx.ordc rfl kr_ ?_
 refine ge ?_
 refine Ev.cakH kr_ rfl rfl (epochCut (m.at_ 2) hlt) ?_
 refine ge ?_
 refine Ev.caH kr_ rfl rfl (supReady (u := u) (mp := mp) (pb := pb) (x := x) (s := s) (now := cutE (m.at_ 2)) (by omega) (by omega) (by unfold cutE; omega)) (Pres.deps kr_) ?_
 rintro v L' ⟨rfl, rfl⟩
 refine ge ?_
 refine go ?_
 refine Sx.ca rfl (supAll (u := u) (mp := mp) (pb := pb) (x := x) (s := s.ready (cutE (m.at_ 2))) (by omega)) ?_
 rintro v L' ⟨r, rfl, rfl⟩
 refine go ?_
 refine Cx.orde rfl kr_ ?_
 refine ge ?_
 cases hg : (giveInit x.pool (s.ready (cutE (m.at_ 2))).xs).done with
 | true =>
   refine Ev.caH kr_ rfl rfl (machThrough (b := b) (machOnYes (b := b) kr_ ((giveDone (b := r) (pb := pb) (k := x.pool) (p := giveInit x.pool (s.ready (cutE (m.at_ 2))).xs)).mono (by rintro v L' ⟨rfl, rfl⟩; exact ⟨by rw [hg], rfl⟩)) kr_ colOver)) (Pres.deps kr_) ?_
   rintro v L' ⟨rfl, w, rfl, w2, rfl, rfl⟩
   refine ge ?_
   refine go ?_
   refine Kr.none (.inl rfl) ?_ rfl
   refine Ent.trans (Ent.cons (Ent.take (a := some ⟨q, 0, none⟩))) ?_
   refine Ent.trans (Ent.cons (Ent.cons (Ent.take (a := some ⟨r, 0, none⟩)))) ?_
   refine Ent.trans (ColO.closeD { c with at_ := 2, g := giveInit x.pool (s.ready (cutE (m.at_ 2))).xs, done := true } rfl rfl rfl) (Ent.cons ?_)
   exact ent
 | false =>
   refine Ev.caH kr_ rfl rfl (machThrough (b := b) (machOnNo (b := b) kr_ ((giveDone (b := r) (pb := pb) (k := x.pool) (p := giveInit x.pool (s.ready (cutE (m.at_ 2))).xs)).mono (by rintro v L' ⟨rfl, rfl⟩; exact ⟨by rw [hg], rfl⟩)))) (Pres.deps kr_) ?_
   rintro v L' ⟨rfl, w, rfl, rfl⟩
   refine ge ?_
   refine go ?_
   refine Kr.none (.inl rfl) ?_ rfl
   refine Ent.trans (Ent.cons (Ent.take (a := some ⟨q, 0, none⟩))) ?_
   refine Ent.trans (Ent.cons (Ent.cons (Ent.take (a := some ⟨r, 0, none⟩)))) ?_
   refine Ent.trans (ColO.closeC { c with at_ := 2, g := giveInit x.pool (s.ready (cutE (m.at_ 2))).xs, done := false } rfl rfl rfl rfl) (Ent.cons ?_)
   exact ent
theorem giveHandDone {b pb : Nat} {k : Sk} {p : PushS} {F1 : St} (hd : p.done = true) [t1 : Take L (some ⟨b, 0, none⟩) (GiveO pb k p) F1] : Fx Tryz.prog 98 [.pointer (some ⟨b, 0, none⟩)] L (fun v L' => v = .slice none 0 0 ∧ L = L') := by
 refine Fx.mk Tryz.func98 k98 nb_ ?_
 dsimp only [c98, kG, kS, kH, kM, kN, kF, kL, envOf, Nat.reduceAdd]
 refine go ?_
 refine Sx.ca rfl (giveDone (b := b) (pb := pb) (k := k) (p := p)) ?_
 rintro v L' ⟨rfl, rfl⟩
 rw [hd]
 refine go ?_
 exact Kr.one (.inr rfl) rfl (Ent.refl _) ⟨rfl, rfl⟩
theorem colStepC {b g u e mp pb : Nat} {x : Cn} {s : SupS} {m : Mm} {c : ColS} {F1 F2 F3 F4 F5 : St} (hx : x.ok) (hl : x.len ≤ m.ws.length) (hc : c.at_ ≤ 2) (hb : s.xs.length + s.lm.size ≤ 1000000)
  [t1 : Take L (some ⟨b, 0, none⟩) (ColO g u e pb x c) F1] [t2 : Take F1 (some ⟨u, 0, none⟩) (SupO mp pb x s) F2] [t3 : Take F2 (some ⟨mp, 0, none⟩) (MemO m) F3] [t4 : Take F3 (some ⟨pb, 0, none⟩) (SkO mp x.pool) F4] [t5 : Take F4 (some ⟨g, 0, none⟩) (GaO mp e) F5] [t6 : Take F5 (some ⟨e, 0, none⟩) (EpO mp x) G] :
  Fx Tryz.prog 17 [.pointer (some ⟨b, 0, none⟩)] L
   (fun v L' => v = .bool (!c.done) ∧ L' = pt (some ⟨b, 0, none⟩) (ColO g u e pb x (colStep x.pool x.w m s c).2.2) :: pt (some ⟨u, 0, none⟩) (SupO mp pb x (colStep x.pool x.w m s c).2.1) :: pt (some ⟨mp, 0, none⟩) (MemO (colStep x.pool x.w m s c).1) :: F3) := by
 have hback : Ent (pt (some ⟨pb, 0, none⟩) (SkO mp x.pool) :: pt (some ⟨g, 0, none⟩) (GaO mp e) :: pt (some ⟨e, 0, none⟩) (EpO mp x) :: G) F3 := Ent.trans (Ent.cons (Ent.trans (Ent.cons (Ent.of t6.back)) (Ent.of t5.back))) (Ent.of t4.back)
 refine Fx.mk Tryz.func17 k17 nb_ ?_
 dsimp only [c17, kG, kS, kH, kM, kN, kF, kL, envOf, Nat.reduceAdd]
 refine Cx.ent (Ent.trans (Ent.of t1.out) (Ent.cons (Ent.trans (Ent.of t2.out) (Ent.cons (Ent.trans (Ent.of t3.out) (Ent.cons (Ent.trans (Ent.of t4.out) (Ent.cons (Ent.trans (Ent.of t5.out) (Ent.cons (Ent.of t6.out))))))))))) ?_
 refine Cx.pure (memKey (b := mp) (m := m)) fun hm => ?_
 cases hd : c.done with
 | true =>
   have e1 : colStep x.pool x.w m s c = (m, s, c) := by unfold colStep; rw [hd]; rfl
   rw [e1]
   refine Cx.openp (a := some ⟨b, 0, none⟩) (ColO.d hd) ?_
   rintro ⟨q, r, n1, n2, n3, cnt⟩
   simp only [colDL, List.cons_append, List.nil_append]
   refine go ?_
   refine Sx.ca rfl (machStepDone (b := b)) ?_
   rintro v L' ⟨rfl, rfl⟩
   refine go ?_
   exact Kr.one (.inr rfl) rfl (Ent.trans (ColO.closeD c hd rfl rfl) (Ent.cons (Ent.cons (Ent.cons hback)))) ⟨rfl, rfl⟩
 | false =>
   rcases (show c.at_ = 0 ∨ c.at_ = 1 ∨ c.at_ = 2 by omega) with h0 | h0 | h0
   ·refine Cx.openp (a := some ⟨b, 0, none⟩) (ColO.a hd h0) ?_
    rintro ⟨q, cnt⟩
    simp only [colAL, List.cons_append, List.nil_append]
    cases hq : (advStep x.w m c.a).1.done with
    | true =>
      have e1 : colStep x.pool x.w m s c = ((advStep x.w m c.a).2, s, { c with a := (advStep x.w m c.a).1, at_ := 1 }) := by unfold colStep; rw [hd, h0]; simp only [Bool.false_eq_true, if_false, hq, if_true]
      rw [e1]
      refine go ?_
      refine Sx.ca rfl (machStep (b := b) kr_ (machGoes (b := b) kr_ (advStepC (b := q) (e := e) (mp := mp) (x := x) (m := m) (s := c.a) hx hl)
       (R2 := fun v L' => v = .tuple #[] ∧ ∃ w : Value, L' = coB b g u (mth 187 b) (mth 102 q) (mth 103 q) (mth 104 b) (IntKind.i64.wrap (cnt + 1)) (.pointer (some ⟨q, 0, none⟩)) (.pointer none) :: pt (some ⟨q, 0, none⟩) (AdvO e x (advStep x.w m c.a).1) :: pt (some ⟨mp, 0, none⟩) (MemO (advStep x.w m c.a).2) :: pt (some ⟨u, 0, none⟩) (SupO mp pb x s) :: pt (some ⟨pb, 0, none⟩) (SkO mp x.pool) :: pt (some ⟨g, 0, none⟩) (GaO mp e) :: pt (some ⟨e, 0, none⟩) (EpO mp x) :: G) ?_)) ?_
      ·rintro v L1 ⟨rfl, rfl⟩
       refine (machOnYes (b := b) kr_ ((advDoneC (b := q) (e := e) (x := x) (s := (advStep x.w m c.a).1)).mono (by rintro v L' ⟨rfl, rfl⟩; exact ⟨by rw [hq], rfl⟩)) kr_ (colAdvanced (b := b))).mono ?_
       rintro v L' ⟨rfl, w, rfl, rfl⟩
       exact ⟨rfl, .tuple #[], rfl⟩
      ·rintro v L' ⟨rfl, w, _, w2, _, w3, rfl⟩
       refine go ?_
       refine Kr.one (.inr rfl) rfl ?_ ⟨rfl, rfl⟩
       refine Ent.trans (ColO.closeB (pb := pb) { c with a := (advStep x.w m c.a).1, at_ := 1 } hd rfl rfl) (Ent.cons ?_)
       refine Ent.trans Ent.swap (Ent.cons (Ent.cons hback))
    | false =>
      have e1 : colStep x.pool x.w m s c = ((advStep x.w m c.a).2, s, { c with a := (advStep x.w m c.a).1, at_ := 0 }) := by unfold colStep; rw [hd, h0]; simp only [Bool.false_eq_true, if_false, hq]
      rw [e1]
      refine go ?_
      refine Sx.ca rfl (machStep (b := b) kr_ (machGoes (b := b) kr_ (advStepC (b := q) (e := e) (mp := mp) (x := x) (m := m) (s := c.a) hx hl)
       (R2 := fun v L' => v = .tuple #[] ∧ L' = coB b g u (mth 238 b) (mth 102 q) (mth 103 q) (mth 104 b) (IntKind.i64.wrap (cnt + 1)) (.pointer (some ⟨q, 0, none⟩)) (.pointer none) :: pt (some ⟨q, 0, none⟩) (AdvO e x (advStep x.w m c.a).1) :: pt (some ⟨mp, 0, none⟩) (MemO (advStep x.w m c.a).2) :: pt (some ⟨u, 0, none⟩) (SupO mp pb x s) :: pt (some ⟨pb, 0, none⟩) (SkO mp x.pool) :: pt (some ⟨g, 0, none⟩) (GaO mp e) :: pt (some ⟨e, 0, none⟩) (EpO mp x) :: G) ?_)) ?_
      ·rintro v L1 ⟨rfl, rfl⟩
       refine (machOnNo (b := b) kr_ ((advDoneC (b := q) (e := e) (x := x) (s := (advStep x.w m c.a).1)).mono (by rintro v L' ⟨rfl, rfl⟩; exact ⟨by rw [hq], rfl⟩))).mono ?_
       rintro v L' ⟨rfl, rfl⟩
       exact ⟨rfl, rfl⟩
      ·rintro v L' ⟨rfl, w, _, w2, _, rfl⟩
       refine go ?_
       refine Kr.one (.inr rfl) rfl ?_ ⟨rfl, rfl⟩
       refine Ent.trans (ColO.closeA (pb := pb) { c with a := (advStep x.w m c.a).1, at_ := 0 } hd rfl rfl) (Ent.cons ?_)
       refine Ent.trans Ent.swap (Ent.cons (Ent.cons hback))
   ·refine Cx.openp (a := some ⟨b, 0, none⟩) (ColO.b hd h0) ?_
    rintro ⟨q, n1, n2, n3, cnt⟩
    simp only [colBL, List.cons_append, List.nil_append]
    refine go ?_
    refine Sx.ca rfl (machStep (b := b) kr_ (colLook (b := b) (g := g) (u := u) (e := e) (mp := mp) (pb := pb) (q := q) (x := x) (s := s) (m := m) (c := c) hx hm.1 hl hb hd h0)) ?_
    rintro v L' ⟨rfl, w, rfl⟩
    refine go ?_
    exact Kr.one (.inr rfl) rfl (Ent.cons (Ent.cons (Ent.cons hback))) ⟨rfl, rfl⟩
   ·refine Cx.openp (a := some ⟨b, 0, none⟩) (ColO.c hd h0) ?_
    rintro ⟨q, r, cnt⟩
    simp only [colCL, List.cons_append, List.nil_append]
    have hk := hx.pool (n := m.ws.length) hl hm.2
    cases hq : (pushStep x.pool m c.g).1.done with
    | true =>
      have e1 : colStep x.pool x.w m s c = ((pushStep x.pool m c.g).2, s, { c with g := (pushStep x.pool m c.g).1, done := true }) := by unfold colStep; rw [hd, h0]; simp only [Bool.false_eq_true, if_false, hq]
      rw [e1]
      refine go ?_
      refine Sx.ca rfl (machStep (b := b) kr_ (machGoes (b := b) kr_ (giveStep (b := r) (mp := mp) (pb := pb) (k := x.pool) (m := m) (p := c.g) hk)
       (R2 := fun v L' => v = .tuple #[] ∧ ∃ w : Value, pt (some ⟨r, 0, none⟩) (GiveO pb x.pool (pushStep x.pool m c.g).1) :: pt (some ⟨mp, 0, none⟩) (MemO (pushStep x.pool m c.g).2) :: coB b g u .nilFunc (mth 71 r) (mth 166 r) (mth 239 b) (IntKind.i64.wrap (cnt + 1)) (.pointer (some ⟨q, 0, none⟩)) (.pointer (some ⟨r, 0, none⟩)) :: pt (some ⟨q, 0, none⟩) (AdvO e x c.a) :: pt (some ⟨u, 0, none⟩) (SupO mp pb x s) :: pt (some ⟨pb, 0, none⟩) (SkO mp x.pool) :: pt (some ⟨g, 0, none⟩) (GaO mp e) :: pt (some ⟨e, 0, none⟩) (EpO mp x) :: G = L') ?_)) ?_
      ·rintro v L1 ⟨rfl, rfl⟩
       refine (machOnYes (b := b) kr_ ((giveDone (b := r) (pb := pb) (k := x.pool) (p := (pushStep x.pool m c.g).1)).mono (by rintro v L' ⟨rfl, rfl⟩; exact ⟨by rw [hq], rfl⟩)) kr_ colOver).mono ?_
       rintro v L' ⟨rfl, w, _, rfl⟩
       exact ⟨rfl, .tuple #[], rfl⟩
      ·rintro v L' ⟨rfl, w, _, w2, _, w3, rfl⟩
       refine go ?_
       refine Kr.one (.inr rfl) rfl ?_ ⟨rfl, rfl⟩
       refine Ent.trans (Ent.take (a := some ⟨b, 0, none⟩)) ?_
       refine Ent.trans (Ent.cons (Ent.take (a := some ⟨q, 0, none⟩))) ?_
       refine Ent.trans (ColO.closeD { c with g := (pushStep x.pool m c.g).1, done := true } rfl rfl rfl) (Ent.cons ?_)
       refine Ent.trans Ent.swap (Ent.cons (Ent.cons hback))
    | false =>
      have e1 : colStep x.pool x.w m s c = ((pushStep x.pool m c.g).2, s, { c with g := (pushStep x.pool m c.g).1, done := false }) := by unfold colStep; rw [hd, h0]; simp only [Bool.false_eq_true, if_false, hq]
      rw [e1]
      refine go ?_
      refine Sx.ca rfl (machStep (b := b) kr_ (machGoes (b := b) kr_ (giveStep (b := r) (mp := mp) (pb := pb) (k := x.pool) (m := m) (p := c.g) hk)
       (R2 := fun v L' => v = .tuple #[] ∧ L' = coB b g u (mth 238 b) (mth 71 r) (mth 166 r) (mth 239 b) (IntKind.i64.wrap (cnt + 1)) (.pointer (some ⟨q, 0, none⟩)) (.pointer (some ⟨r, 0, none⟩)) :: pt (some ⟨r, 0, none⟩) (GiveO pb x.pool (pushStep x.pool m c.g).1) :: pt (some ⟨mp, 0, none⟩) (MemO (pushStep x.pool m c.g).2) :: pt (some ⟨q, 0, none⟩) (AdvO e x c.a) :: pt (some ⟨u, 0, none⟩) (SupO mp pb x s) :: pt (some ⟨pb, 0, none⟩) (SkO mp x.pool) :: pt (some ⟨g, 0, none⟩) (GaO mp e) :: pt (some ⟨e, 0, none⟩) (EpO mp x) :: G) ?_)) ?_
      ·rintro v L1 ⟨rfl, rfl⟩
       refine (machOnNo (b := b) kr_ ((giveDone (b := r) (pb := pb) (k := x.pool) (p := (pushStep x.pool m c.g).1)).mono (by rintro v L' ⟨rfl, rfl⟩; exact ⟨by rw [hq], rfl⟩))).mono ?_
       rintro v L' ⟨rfl, rfl⟩
       exact ⟨rfl, rfl⟩
      ·rintro v L' ⟨rfl, w, _, w2, _, rfl⟩
       refine go ?_
       refine Kr.one (.inr rfl) rfl ?_ ⟨rfl, rfl⟩
       refine Ent.trans (Ent.cons (Ent.take (a := some ⟨q, 0, none⟩))) ?_
       refine Ent.trans (ColO.closeC { c with g := (pushStep x.pool m c.g).1, done := false } rfl h0 rfl rfl) (Ent.cons ?_)
       refine Ent.trans Ent.swap (Ent.cons (Ent.cons hback))
theorem colDone {b g u e pb : Nat} {x : Cn} {c : ColS} {F1 : St} (hc : c.at_ ≤ 2) [t1 : Take L (some ⟨b, 0, none⟩) (ColO g u e pb x c) F1] : Fx Tryz.prog 19 [.pointer (some ⟨b, 0, none⟩)] L (fun v L' => v = .bool c.done ∧ L = L') := by
 refine Fx.kept (t := t1) ?_
 refine Fx.mk Tryz.func19 k19 nb_ ?_
 dsimp only [c19, kG, kS, kH, kM, kN, kF, kL, envOf, Nat.reduceAdd]
 refine Cx.ent (Ent.of t1.out) ?_
 cases hd : c.done with
 | true =>
   refine Cx.openp (a := some ⟨b, 0, none⟩) (ColO.d hd) ?_
   rintro ⟨q, r, n1, n2, n3, cnt⟩
   simp only [colDL, List.cons_append, List.nil_append]
   refine go ?_
   refine Sx.ca rfl (machDoneYes (b := b)) ?_
   rintro v L' ⟨rfl, rfl⟩
   refine go ?_
   exact Kr.one (.inr rfl) rfl (ColO.closeD c hd rfl rfl) ⟨rfl, rfl⟩
 | false =>
   rcases (show c.at_ = 0 ∨ c.at_ = 1 ∨ c.at_ = 2 by omega) with h0 | h0 | h0
   ·refine Cx.openp (a := some ⟨b, 0, none⟩) (ColO.a hd h0) ?_
    rintro ⟨q, cnt⟩
    simp only [colAL, List.cons_append, List.nil_append]
    refine go ?_
    refine Sx.ca rfl (machDoneNo (b := b)) ?_
    rintro v L' ⟨rfl, rfl⟩
    refine go ?_
    exact Kr.one (.inr rfl) rfl (ColO.closeA c hd h0 rfl) ⟨rfl, rfl⟩
   ·refine Cx.openp (a := some ⟨b, 0, none⟩) (ColO.b hd h0) ?_
    rintro ⟨q, n1, n2, n3, cnt⟩
    simp only [colBL, List.cons_append, List.nil_append]
    refine go ?_
    refine Sx.ca rfl (machDoneNo (b := b)) ?_
    rintro v L' ⟨rfl, rfl⟩
    refine go ?_
    exact Kr.one (.inr rfl) rfl (ColO.closeB c hd h0 rfl) ⟨rfl, rfl⟩
   ·refine Cx.openp (a := some ⟨b, 0, none⟩) (ColO.c hd h0) ?_
    rintro ⟨q, r, cnt⟩
    simp only [colCL, List.cons_append, List.nil_append]
    refine go ?_
    refine Sx.ca rfl (machDoneNo (b := b)) ?_
    rintro v L' ⟨rfl, rfl⟩
    refine go ?_
    exact Kr.one (.inr rfl) rfl (ColO.closeC c hd h0 rfl rfl) ⟨rfl, rfl⟩
theorem colWon {b g u e pb : Nat} {x : Cn} {c : ColS} {F1 : St} (hd : c.done = true) [t1 : Take L (some ⟨b, 0, none⟩) (ColO g u e pb x c) F1] : Fx Tryz.prog 20 [.pointer (some ⟨b, 0, none⟩)] L (fun v L' => v = .bool c.a.won ∧ L = L') := by
 refine Fx.kept (t := t1) ?_
 refine Fx.mk Tryz.func20 k20 nb_ ?_
 dsimp only [c20, kG, kS, kH, kM, kN, kF, kL, envOf, Nat.reduceAdd]
 refine Cx.ent (Ent.of t1.out) ?_
 refine Cx.openp (a := some ⟨b, 0, none⟩) (ColO.d hd) ?_
 rintro ⟨q, r, n1, n2, n3, cnt⟩
 simp only [colDL, List.cons_append, List.nil_append]
 refine go ?_
 refine Sx.ca rfl (advWonC (b := q) (e := e) (x := x) (s := c.a)) ?_
 rintro v L' ⟨rfl, rfl⟩
 refine go ?_
 exact Kr.one (.inr rfl) rfl (ColO.closeD c hd rfl rfl) ⟨rfl, rfl⟩
theorem colHandDone {b g u e pb : Nat} {x : Cn} {c : ColS} {F1 : St} (hd : c.done = true) (hg : c.g.done = true) [t1 : Take L (some ⟨b, 0, none⟩) (ColO g u e pb x c) F1] : Fx Tryz.prog 21 [.pointer (some ⟨b, 0, none⟩)] L (fun v L' => v = .slice none 0 0 ∧ L = L') := by
 refine Fx.kept (t := t1) ?_
 refine Fx.mk Tryz.func21 k21 nb_ ?_
 dsimp only [c21, kG, kS, kH, kM, kN, kF, kL, envOf, Nat.reduceAdd]
 refine Cx.ent (Ent.of t1.out) ?_
 refine Cx.openp (a := some ⟨b, 0, none⟩) (ColO.d hd) ?_
 rintro ⟨q, r, n1, n2, n3, cnt⟩
 simp only [colDL, List.cons_append, List.nil_append]
 refine go ?_
 refine Sx.ca rfl (giveHandDone (b := r) (pb := pb) (k := x.pool) (p := c.g) hg) ?_
 rintro v L' ⟨rfl, rfl⟩
 refine go ?_
 exact Kr.one (.inr rfl) rfl (ColO.closeD c hd rfl rfl) ⟨rfl, rfl⟩
end
end Go.Proofs.YtggnbdeokmdjbaaGreat


namespace Go.Proofs.YtggnbdeokmdjbaaGreat
open Go
attribute [local irreducible] Sx Cx Rx Fx Krg Ksq Kbl Klp Kr
section
variable {L F G : St}
structure Gn where
 a : Nat
 mp : Nat
 te : Nat
 g : Nat
 e : Nat
 pb : Nat
 w : Nat
 rm : Nat
 rp : Nat
 rs : Nat
 re : Nat
abbrev gaV (x : Cn) (n : Gn) (r r2 : Option Addr) (k c c2 : Nat) : List Value :=
 [.int .i64 x.w, .int .i64 x.c, .int .i64 x.wd, .int .i64 x.sl, .int .i64 x.ca, .int .i64 x.ba, .pointer (some ⟨n.mp, 0, none⟩), .pointer (some ⟨n.te, 0, none⟩), .pointer (some ⟨n.g, 0, none⟩), .pointer (some ⟨n.pb, 0, none⟩), .slice r k c, .pointer (some ⟨n.w, 0, none⟩), .slice r2 k c2]
abbrev gaF (x : Cn) (n : Gn) (r r2 : Option Addr) (k c c2 : Nat) (Q : Nat → Who) (S S2 : Nat → SupS) (m m2 : Mm) (G : St) : St :=
 pt (some ⟨n.a, 0, none⟩) (Blk 64 (gaV x n r r2 k c c2)) :: pt r (Row 74 1 k c (ptrs k fun i => (Q i).u)) :: pt r2 (Row 69 1 k c2 (ptrs k fun i => (Q i).s)) ::
 pt (some ⟨n.mp, 0, none⟩) (MemO m) :: pt (some ⟨n.pb, 0, none⟩) (SkO n.mp x.pool) :: pt (some ⟨n.te, 0, none⟩) (EpO n.mp x) :: pt (some ⟨n.g, 0, none⟩) (GaO n.mp n.e) :: pt (some ⟨n.e, 0, none⟩) (EpO n.mp x) ::
 pt (some ⟨n.w, 0, none⟩) (RWO x n.rm n.rp n.rs n.re) :: pt (some ⟨n.rm, 0, none⟩) (RMemO m2) :: pt (some ⟨n.rp, 0, none⟩) (RSkO n.rm x.pool) :: pt (some ⟨n.rs, 0, none⟩) (RSkO n.rm x.spare) :: pt (some ⟨n.re, 0, none⟩) (REpO x n.rm) ::
 (many k (fun i => whoL n.mp n.w x (Q i) (S i) (S2 i)) ++ G)
def updQ (Q : Nat → Who) (i : Nat) (q : Who) : Nat → Who := fun j => if j = i then q else Q j
theorem gaMade {x : Cn} (hx : x.ok) : Fx Tryz.prog 16 [x.v] L (fun v L' => ∃ (n : Gn) (r r2 c c2 : Nat) (Q : Nat → Who), v = .pointer (some ⟨n.a, 0, none⟩) ∧
  L' = gaF x n (some ⟨r, 0, none⟩) (some ⟨r2, 0, none⟩) x.w c c2 Q (fun _ => SupS.nil x.ca) (fun _ => SupS.nil x.ca) (poolM x) (fillM x.spare (poolM x)) L) := by
 obtain ⟨b1, b2, b3, b4, b5, b6, b7⟩ := hx.b
 have hlen := hx.len_le
 have hl1 : 1 ≤ x.len := by unfold Cn.len; omega
 have hpl := poolM_len x
 have hzl := zeroM_len x
 refine Fx.mk Tryz.func16 k16 nb_ ?_
 dsimp only [c16, kG, kS, kH, kM, kN, kF, kL, envOf, Nat.reduceAdd]
 refine Cx.sq ?_
 refine Cx.rg ?_
 refine Sx.bx rfl rfl fun g0 => ?_
 refine go ?_
 refine Sx.ca rfl (layLen (x.w : Int) x.c x.wd x.sl x.ca x.ba hx) ?_
 rintro v L' ⟨rfl, rfl⟩
 rw [x.lenC]
 refine go ?_
 refine Sx.ca rfl (cellsNew x.len hl1 hlen) ?_
 rintro v L' ⟨mp, rfl, rfl⟩
 refine go ?_
 refine Sx.ca rfl (chainNew (mp := mp) (m := zeroM x) hx (by omega)) ?_
 rintro v L' ⟨ch, pb, rfl, rfl⟩
 refine go ?_
 refine Sx.ca rfl (gatherNew (mp := mp) (m := zeroM x) hx (by omega)) ?_
 rintro v L' ⟨g, e, rfl, rfl⟩
 refine go ?_
 refine Cx.ordc rfl kr_ ?_
 refine ge ?_
 refine Ev.cakH kr_ rfl rfl (layPinN hx 0 (by omega)) ?_
 refine ge ?_
 refine Ev.caH kr_ rfl rfl (epochNew (mp := mp) (m := zeroM x) (x := x) hx (by omega)) (Pres.deps kr_) ?_
 rintro v L' ⟨te, rfl, rfl⟩
 refine ge ?_
 refine go ?_
 refine Sx.ca rfl (chainPool (g := ch) (mp := mp) (sb := pb) (x := x)) ?_
 rintro v L' ⟨rfl, rfl⟩
 refine go ?_
 refine Sx.ca rfl (chainFill (g := ch) (mp := mp) (sb := pb) (x := x) (m := zeroM x) (hx.pool (by omega) (by omega))) ?_
 rintro v L' rfl
 refine go ?_
 refine Cx.ordc rfl kr_ ?_
 refine ge ?_
 refine Ev.cakH kr_ rfl rfl (chainPool (g := ch) (mp := mp) (sb := pb) (x := x)) ?_
 refine ge ?_
 refine Ev.caH kr_ rfl rfl (refWNew hx) (.dep rfl (.dep rfl (.keep (fun v L' ⟨_, _, _, _, _, _, e⟩ => by subst e; exact Has.blk) .nil))) ?_
 rintro v L' ⟨w, rm, rp, rs, re, rfl, rfl⟩
 refine ge ?_
 refine Ev.bxH kr_ rfl rfl rfl (Pres.deps kr_) fun a => ?_
 refine ge ?_
 refine go ?_
 refine Cx.lp (α := {p : Nat × (Nat → Who) × (Option Addr × Nat) × (Option Addr × Nat) // p.1 ≤ x.w})
  (fun p => [(1, .pointer (some ⟨g0, 0, none⟩)), (3, .pointer (some ⟨mp, 0, none⟩)), (11, .pointer (some ⟨a, 0, none⟩)), (12, .int .i64 (p.1.1 : Nat))])
  (fun p => pt (some ⟨g0, 0, none⟩) (Blk 25 x.l) :: gaF x ⟨a, mp, te, g, e, pb, w, rm, rp, rs, re⟩ p.1.2.2.1.1 p.1.2.2.2.1 p.1.1 p.1.2.2.1.2 p.1.2.2.2.2 p.1.2.1 (fun _ => SupS.nil x.ca) (fun _ => SupS.nil x.ca) (poolM x) (fillM x.spare (poolM x)) L)
  (fun p => x.w - p.1.1) ⟨(0, fun _ => ⟨0, 0, 0⟩, (none, 0), (none, 0)), Nat.zero_le _⟩ (sub.cons rfl (sub.cons rfl (sub.cons rfl (sub.cons rfl sub.nil)))) ?_ ?_
 ·dsimp only [gaF]
  rw [many_zero]
  refine Ent.trans (Ent.take (a := some ⟨g0, 0, none⟩)) (Ent.cons ?_)
  refine Ent.trans (Ent.take (a := some ⟨a, 0, none⟩)) (Ent.cons ?_)
  refine Ent.trans (Ent.rownil 69 1) (Ent.trans (Ent.rownil 74 1) (Ent.cons (Ent.cons ?_)))
  unfold poolM
  simp only [List.nil_append]
  exact ent
 rintro ⟨⟨j, Q, ⟨r, c⟩, ⟨r2, c2⟩⟩, hj⟩
 dsimp only [gaF] at hj ⊢
 refine go ?_
 refine Cx.ifp rfl (fun h => ?_) (fun h => ?_)
 ·refine go ?_
  refine Sx.ca rfl (supNew (mp := mp) (m := poolM x) hx (by omega)) ?_
  rintro v L' ⟨u, pb2, rfl, rfl⟩
  refine go ?_
  refine Sx.bs (sz := 1) rfl rfl fun q => ?_
  refine Sx.ap (ra := r) rfl rfl (Rd.row (b := q) (E := 74) (cap := 1) rfl) rfl (by simp [maxLen]; omega) (by omega) fun r' c' hc => ?_
  refine go ?_
  refine Cx.orde rfl kr_ ?_
  refine ge ?_
  refine Ev.caH kr_ rfl rfl (refSupply (w := w) (rm := rm) (rp := rp) (rs := rs) (re := re) (x := x)) (.dep rfl (.keep (fun v L' ⟨_, _, _, _, e⟩ => by subst e; exact Has.cell rfl) .nil)) ?_
  rintro v L' ⟨s, st, lm, rfl, rfl⟩
  refine ge ?_
  refine Ev.bsH (sz := 1) kr_ rfl rfl rfl (.dep rfl (.keep (fun v L' ⟨_, _, e⟩ => by subst e; exact Has.cell rfl) .nil)) fun q2 => ?_
  refine ge ?_
  refine Ev.apH (ra := r2) kr_ rfl rfl rfl (Rd.row (b := q2) (E := 69) (cap := 1) rfl) rfl (by simp [maxLen]; omega) (by omega) (Pres.deps kr_) fun r2' c2' hc2 hk2 => ?_
  refine ge ?_
  refine Ev.stbH (b := a) kr_ rfl rfl rfl rfl rfl (by rfl) rfl (Pres.deps kr_) ?_
  refine ge ?_
  refine go ?_
  rw [w64 (n := (j : Int) + 1) (by omega) (by omega)]
  refine Klp.nm ⟨(j + 1, updQ Q j ⟨u, pb2, s⟩, (r', c'), (r2', c2')), by dsimp only; omega⟩ (sub.cons rfl (sub.cons rfl (sub.cons rfl (sub.cons rfl sub.nil)))) ?_ (by dsimp only; omega)
  have eu : ptrs j (fun i => (updQ Q j ⟨u, pb2, s⟩ i).u) = ptrs j fun i => (Q i).u := ptrs_congr fun i hi => by simp [updQ, show i ≠ j by omega]
  have es : ptrs j (fun i => (updQ Q j ⟨u, pb2, s⟩ i).s) = ptrs j fun i => (Q i).s := ptrs_congr fun i hi => by simp [updQ, show i ≠ j by omega]
  have em : many j (fun i => whoL mp w x (updQ Q j ⟨u, pb2, s⟩ i) (SupS.nil x.ca) (SupS.nil x.ca)) = many j fun i => whoL mp w x (Q i) (SupS.nil x.ca) (SupS.nil x.ca) := many_congr fun i hi => by simp [updQ, show i ≠ j by omega]
  dsimp only [gaF]
  rw [ptrs_succ, ptrs_succ, many_succ, eu, es, em]
  simp only [updQ, if_true, List.append_assoc]
  refine Ent.trans (Ent.take (a := some ⟨g0, 0, none⟩)) (Ent.cons ?_)
  refine Ent.trans (RSupO.close (a := some ⟨s, 0, none⟩) (st := st) (lm := lm) (w := w) (SupS.nil x.ca) rfl rfl rfl) ?_
  iterate 13 (refine Ent.take1 ?_)
  refine Ent.trans ?_ (Ent.deep (N := whoL mp w x ⟨u, pb2, s⟩ (SupS.nil x.ca) (SupS.nil x.ca)))
  simp only [whoL, List.cons_append, List.nil_append]
  exact ent
 ·obtain rfl : j = x.w := by omega
  refine Cx.rowkey (a := r) fun _ _ _ hk1 => ?_
  refine Cx.rowkey (a := r2) fun _ _ _ hk2 => ?_
  obtain ⟨ra, rfl⟩ : ∃ g, r = some ⟨g, 0, none⟩ := by
   rcases hk1 with h | h
   ·omega
   ·exact h
  obtain ⟨rb, rfl⟩ : ∃ g, r2 = some ⟨g, 0, none⟩ := by
   rcases hk2 with h | h
   ·omega
   ·exact h
  refine go ?_
  exact Kr.one (.inr rfl) rfl Ent.drop ⟨⟨a, mp, te, g, e, pb, w, rm, rp, rs, re⟩, ra, rb, c, c2, Q, rfl, rfl⟩
end
end Go.Proofs.YtggnbdeokmdjbaaGreat


namespace Go.Proofs.YtggnbdeokmdjbaaGreat
open Go
attribute [local irreducible] Sx Cx Rx Fx Krg Ksq Kbl Klp Kr
section
variable {L F G : St}
end
end Go.Proofs.YtggnbdeokmdjbaaGreat


namespace Go.Proofs.YtggnbdeokmdjbaaGreat
open Go
attribute [local irreducible] Sx Cx Rx Fx Krg Ksq Kbl Klp Kr
theorem ints_getD {xs : List Int} {i : Nat} {x : Int} (h : xs[i]? = some x) : (ints xs)[i]? = some (.int .i64 x) := by simp [ints, h]
section
variable {L F : St}
theorem Rd.atD {a : Option Addr} {n i : Nat} {vs : List Value} {v : Value} (h : Rd L 1 a n vs) (hv : vs[i]? = some v) : ∃ b o, a = some ⟨b, o, none⟩ ∧ Has L b (o + i) [v] := by
 obtain ⟨h1, h0 | ⟨b, o, rfl, h2⟩⟩ := h
 ·have := (List.getElem?_eq_some_iff.1 hv).1; omega
 ·exact ⟨b, o, rfl, h2.at_ hv⟩
theorem seqN {q : Nat} {xs : List Int} {a : Option Addr} {n c i : Nat} {m : Int} {F : St} [t : Take L (some ⟨q, 0, none⟩) (Blk 127 [.slice a n c, .int .i64 i]) F]
  (hr : Rd L 1 a n (ints xs)) (hi : i ≤ 1000000000) (hm : 0 < m) (hm2 : m ≤ 4611686018427387904) :
  Fx Tryz.prog 61 [.pointer (some ⟨q, 0, none⟩), .int .i64 m] L (fun v L' => v = .int .i64 (xs.getD i 0 % m) ∧ L' = pt (some ⟨q, 0, none⟩) (Blk 127 [.slice a n c, .int .i64 ((i + 1 : Nat) : Int)]) :: F) := by
 have hn : n = xs.length := by have := hr.1; simp [ints] at this; omega
 refine Fx.mk Tryz.func61 k61 nb_ ?_
 dsimp only [c61, kG, kS, kH, kM, kN, kF, kL, envOf, Nat.reduceAdd]
 refine go ?_
 refine Cx.calm kr_ ?_
 repeat' (first | (refine Cm.pvs rfl ?_) | (refine Cm.step rfl ?_) | (refine Cm.done ?_) | (refine Cm.ldb rfl rfl (by rfl) ?_) | (refine Cm.ldbs rfl rfl rfl ?_))
 refine Cx.jn (β := Unit) (fun _ => [(0, .pointer (some ⟨q, 0, none⟩)), (1, .int .i64 m), (5, .int .i64 (xs.getD i 0))]) (fun _ => L) ?_ ?_
 ·refine Cx.ifp rfl (fun h => ?_) (fun h => ?_)
  ·have hlt : i < xs.length := by omega
   have hg : (ints xs)[i]? = some (.int .i64 (xs.getD i 0)) := ints_getD (by simp [hlt])
   obtain ⟨b, o, rfl, hh⟩ := hr.atD hg
   refine Cx.calmK Kjn.mono kr_ ?_
   repeat' (first | (refine Cm.pvs rfl ?_) | (refine Cm.step rfl ?_) | (refine Cm.done ?_) | (refine Cm.ldb rfl rfl (by rfl) ?_) | (refine Cm.ldbs rfl rfl rfl ?_))
   refine Cm.pv rfl rfl ⟨by omega, by omega⟩ ?_
   refine Cm.ld rfl rfl (by simpa using hh) rfl ?_
   repeat' (first | (refine Cm.pvs rfl ?_) | (refine Cm.step rfl ?_) | (refine Cm.done ?_) | (refine Cm.ldb rfl rfl (by rfl) ?_) | (refine Cm.ldbs rfl rfl rfl ?_))
   exact Cm.nil (Kjn.nm () (sub.cons rfl (sub.cons rfl (sub.cons rfl sub.nil))) (Ent.refl _))
  ·refine go ?_
   refine Kjn.nm () (sub.cons rfl (sub.cons rfl (sub.cons ?_ sub.nil))) (Ent.refl _)
   rw [show xs.getD i 0 = 0 by rw [List.getD_eq_getElem?_getD, List.getElem?_eq_none (by omega)]; rfl]
   rfl
 ·rintro ⟨⟩
  refine go ?_
  rw [w64 (by omega) (by omega)]
  refine Sx.ca rfl (number _ m hm hm2) ?_
  rintro v L' ⟨rfl, rfl⟩
  refine go ?_
  exact Kr.one (.inr rfl) rfl (Ent.refl _) ⟨rfl, by simp⟩
def SmallC (w c wd sl ca ba : Int) : Prop := (1 ≤ w ∧ w ≤ 4) ∧ (1 ≤ c ∧ c ≤ 8) ∧ (wd = 8 ∨ wd = 16) ∧ (1 ≤ sl ∧ sl ≤ 4) ∧ (0 ≤ ca ∧ ca ≤ 3) ∧ (1 ≤ ba ∧ ba ≤ 3)
theorem config_ (n : Int) : Fx Tryz.prog 7 [.int .i64 n] L (fun v L' => (∃ w c wd sl ca ba, v = cfg w c wd sl ca ba ∧ SmallC w c wd sl ca ba) ∧ L = L') := by
 refine Fx.mk Tryz.func7 k7 nb_ ?_
 dsimp only [c7, kG, kS, kH, kM, kN, kF, kL, envOf, Nat.reduceAdd]
 refine go ?_
 refine Sx.al fun g => ?_
 refine go ?_
 refine Sx.ca rfl (number n 4 (by omega) (by omega)) ?_
 rintro v L' ⟨rfl, rfl⟩
 refine go ?_
 refine Sx.pv rfl (by decide) ?_
 refine Sx.ca rfl (number _ 8 (by omega) (by omega)) ?_
 rintro v L' ⟨rfl, rfl⟩
 refine go ?_
 refine Sx.pv rfl (by decide) ?_
 refine Sx.ca rfl (number _ 2 (by omega) (by omega)) ?_
 rintro v L' ⟨rfl, rfl⟩
 refine go ?_
 refine Sx.pv rfl (by decide) ?_
 refine Sx.ca rfl (number _ 4 (by omega) (by omega)) ?_
 rintro v L' ⟨rfl, rfl⟩
 refine go ?_
 refine Sx.pv rfl (by decide) ?_
 refine Sx.ca rfl (number _ 4 (by omega) (by omega)) ?_
 rintro v L' ⟨rfl, rfl⟩
 refine go ?_
 refine Sx.pv rfl (by decide) ?_
 refine Sx.ca rfl (number _ 3 (by omega) (by omega)) ?_
 rintro v L' ⟨rfl, rfl⟩
 refine go ?_
 generalize n % 4 = x0
 generalize IntKind.i64.wrap (n.tdiv 4) % 8 = x1
 generalize IntKind.i64.wrap (n.tdiv 32) % 2 = x2
 generalize IntKind.i64.wrap (n.tdiv 64) % 4 = x3
 generalize IntKind.i64.wrap (n.tdiv 256) % 4 = x4
 generalize IntKind.i64.wrap (n.tdiv 1024) % 3 = x5
 refine Sx.bs (sz := 1) rfl rfl fun r => ?_
 refine go ?_
 refine Sx.bx rfl rfl fun q => ?_
 refine go ?_
 refine Sx.ca rfl (seqN (q := q) (xs := [x0, x1, x2, x3, x4, x5]) (i := 0) (Rd.row (b := r) (E := 3) (cap := 6) rfl) (by omega) (by omega) (by omega)) ?_
 rintro v L' ⟨rfl, rfl⟩
 refine go ?_
 refine Sx.ca rfl (seqN (q := q) (xs := [x0, x1, x2, x3, x4, x5]) (i := 1) (Rd.row (b := r) (E := 3) (cap := 6) rfl) (by omega) (by omega) (by omega)) ?_
 rintro v L' ⟨rfl, rfl⟩
 refine go ?_
 refine Sx.ca rfl (seqN (q := q) (xs := [x0, x1, x2, x3, x4, x5]) (i := 2) (Rd.row (b := r) (E := 3) (cap := 6) rfl) (by omega) (by omega) (by omega)) ?_
 rintro v L' ⟨rfl, rfl⟩
 refine go ?_
 refine Sx.ca rfl (seqN (q := q) (xs := [x0, x1, x2, x3, x4, x5]) (i := 3) (Rd.row (b := r) (E := 3) (cap := 6) rfl) (by omega) (by omega) (by omega)) ?_
 rintro v L' ⟨rfl, rfl⟩
 refine go ?_
 refine Sx.ca rfl (seqN (q := q) (xs := [x0, x1, x2, x3, x4, x5]) (i := 4) (Rd.row (b := r) (E := 3) (cap := 6) rfl) (by omega) (by omega) (by omega)) ?_
 rintro v L' ⟨rfl, rfl⟩
 refine go ?_
 refine Sx.ca rfl (seqN (q := q) (xs := [x0, x1, x2, x3, x4, x5]) (i := 5) (Rd.row (b := r) (E := 3) (cap := 6) rfl) (by omega) (by omega) (by omega)) ?_
 rintro v L' ⟨rfl, rfl⟩
 refine go ?_
 refine Sx.st (b := g) rfl rfl rfl rfl rfl rfl ?_
 dsimp only [lay]
 refine go ?_
 refine Kr_cell (b := g) (.inr rfl) rfl rfl (L' := L) ?_ ⟨⟨_, _, _, _, _, _, rfl, ?_⟩, rfl⟩
 ·exact ent
 ·have h0 := Int.emod_nonneg x0 (show (4 : Int) ≠ 0 by omega)
  have h0' := Int.emod_lt_of_pos x0 (show (0 : Int) < 4 by omega)
  have h1 := Int.emod_nonneg x1 (show (8 : Int) ≠ 0 by omega)
  have h1' := Int.emod_lt_of_pos x1 (show (0 : Int) < 8 by omega)
  have h2 := Int.emod_nonneg x2 (show (2 : Int) ≠ 0 by omega)
  have h2' := Int.emod_lt_of_pos x2 (show (0 : Int) < 2 by omega)
  have h3 := Int.emod_nonneg x3 (show (4 : Int) ≠ 0 by omega)
  have h3' := Int.emod_lt_of_pos x3 (show (0 : Int) < 4 by omega)
  have h4 := Int.emod_nonneg x4 (show (4 : Int) ≠ 0 by omega)
  have h4' := Int.emod_lt_of_pos x4 (show (0 : Int) < 4 by omega)
  have h5 := Int.emod_nonneg x5 (show (3 : Int) ≠ 0 by omega)
  have h5' := Int.emod_lt_of_pos x5 (show (0 : Int) < 3 by omega)
  simp only [List.getD_cons_zero, List.getD_cons_succ]
  rw [w64 (n := 1 + x0 % 4) (by omega) (by omega), w64 (n := 1 + x1 % 8) (by omega) (by omega), w64 (n := 8 * (x2 % 2)) (by omega) (by omega), w64 (n := 8 + 8 * (x2 % 2)) (by omega) (by omega), w64 (n := 1 + x3 % 4) (by omega) (by omega), w64 (n := 1 + x5 % 3) (by omega) (by omega)]
  unfold SmallC
  omega
end
end Go.Proofs.YtggnbdeokmdjbaaGreat


namespace Go.Proofs.YtggnbdeokmdjbaaGreat
open Go
attribute [local irreducible] Sx Cx Rx Fx Krg Ksq Kbl Klp Kr
theorem small_cfg {w c wd sl ca ba : Int} (h : SmallC w c wd sl ca ba) : ∃ x : Cn, cfg w c wd sl ca ba = x.v ∧ x.ok ∧ x.ca ≤ 3 ∧ x.c ≤ 8 ∧ x.ba ≤ 3 ∧ x.w ≤ 4 := by
 unfold SmallC at h
 refine ⟨⟨w.toNat, c.toNat, wd.toNat, sl.toNat, ca.toNat, ba.toNat⟩, ?_, ?_, ?_⟩
 ·simp only [Cn.v]
  rw [Int.toNat_of_nonneg (by omega), Int.toNat_of_nonneg (by omega), Int.toNat_of_nonneg (by omega), Int.toNat_of_nonneg (by omega), Int.toNat_of_nonneg (by omega), Int.toNat_of_nonneg (by omega)]
 ·unfold Cn.ok MayC
  simp only
  rw [Int.toNat_of_nonneg (by omega), Int.toNat_of_nonneg (by omega), Int.toNat_of_nonneg (by omega), Int.toNat_of_nonneg (by omega), Int.toNat_of_nonneg (by omega), Int.toNat_of_nonneg (by omega)]
  rw [Int.tmod_eq_emod_of_nonneg (by omega)]
  omega
 ·simp only; omega
theorem iotaI_len (n : Nat) : (iotaI n).length = n := by simp [iotaI]
theorem iotaI_mem {n : Nat} {x : Int} (h : x ∈ iotaI n) : 0 ≤ x ∧ x < n := by
 simp only [iotaI, List.mem_map, List.mem_range] at h
 obtain ⟨i, hi, rfl⟩ := h
 omega
section
variable {L F G : St}
end
end Go.Proofs.YtggnbdeokmdjbaaGreat


namespace Go.Proofs.YtggnbdeokmdjbaaGreat
open Go
attribute [local irreducible] Sx Cx Rx Fx Krg Ksq Kbl Klp Kr
section
variable {L F G : St}
set_option maxHeartbeats 2000000 in
set_option maxRecDepth 20000 in
theorem gaCollects {x : Cn} {n : Gn} {r : Nat} {r2 : Option Addr} {k c c2 pb : Nat} {Q : Nat → Who} {s : SupS} {m : Mm} {i : Nat} (N : Nat) (hi : i < k) (hk : k ≤ 64) (hN : N < 400) (hx : x.ok) (hl : x.len ≤ m.ws.length) (hb : s.xs.length + s.lm.size ≤ 1000000)
  (hnd : ∀ j, j < N → (colIt x.pool x.w j (m, s, ColS.init)).2.2.done = false) (hd : (colIt x.pool x.w N (m, s, ColS.init)).2.2.done = true) (hg : (colIt x.pool x.w N (m, s, ColS.init)).2.2.g.done = true) :
  Fx Tryz.prog 88 [.pointer (some ⟨n.a, 0, none⟩), .int .i64 i]
   (pt (some ⟨n.a, 0, none⟩) (Blk 64 (gaV x n (some ⟨r, 0, none⟩) r2 k c c2)) :: pt (some ⟨r, 0, none⟩) (Row 74 1 k c (ptrs k fun i => (Q i).u)) :: pt (some ⟨n.g, 0, none⟩) (GaO n.mp n.e) :: pt (some ⟨n.e, 0, none⟩) (EpO n.mp x) ::
    pt (some ⟨n.mp, 0, none⟩) (MemO m) :: pt (some ⟨(Q i).u, 0, none⟩) (SupO n.mp pb x s) :: pt (some ⟨pb, 0, none⟩) (SkO n.mp x.pool) :: G)
   (fun v L' => v = .tuple #[.bool (colIt x.pool x.w N (m, s, ColS.init)).2.2.a.won, .int .i64 N] ∧ L' =
    pt (some ⟨n.a, 0, none⟩) (Blk 64 (gaV x n (some ⟨r, 0, none⟩) r2 k c c2)) :: pt (some ⟨r, 0, none⟩) (Row 74 1 k c (ptrs k fun i => (Q i).u)) :: pt (some ⟨n.g, 0, none⟩) (GaO n.mp n.e) :: pt (some ⟨n.e, 0, none⟩) (EpO n.mp x) ::
    pt (some ⟨n.mp, 0, none⟩) (MemO (colIt x.pool x.w N (m, s, ColS.init)).1) :: pt (some ⟨(Q i).u, 0, none⟩) (SupO n.mp pb x (colIt x.pool x.w N (m, s, ColS.init)).2.1) :: pt (some ⟨pb, 0, none⟩) (SkO n.mp x.pool) :: G) := by
 refine Fx.mk Tryz.func88 k88 nb_ ?_
 dsimp only [c88, kG, kS, kH, kM, kN, kF, kL, envOf, Nat.reduceAdd]
 refine go ?_
 refine Cx.ordc rfl kr_ ?_
 refine ge ?_
 refine Ev.ldrH (b := r) (v := .pointer (some ⟨(Q i).u, 0, none⟩)) kr_ rfl rfl (by rw [show 0 + (i : Int).toNat * 1 = i by omega]; exact ptrs_get (U := fun i => (Q i).u) hi) ?_
 refine ge ?_
 refine Ev.caH kr_ rfl rfl (gatherCollect (g := n.g) (u := (Q i).u) (e := n.e) (mp := n.mp) (pb := pb) (x := x)) (Pres.deps kr_) ?_
 rintro v L' ⟨b, rfl, rfl⟩
 refine ge ?_
 refine go ?_
 refine Cx.lp (α := {j : Nat // j ≤ N}) (fun j => [(6, .pointer (some ⟨b, 0, none⟩)), (7, .int .i64 j.1), (8, .int .i64 j.1)])
  (fun j => pt (some ⟨b, 0, none⟩) (ColO n.g (Q i).u n.e pb x (colIt x.pool x.w j.1 (m, s, ColS.init)).2.2) :: pt (some ⟨(Q i).u, 0, none⟩) (SupO n.mp pb x (colIt x.pool x.w j.1 (m, s, ColS.init)).2.1) :: pt (some ⟨n.mp, 0, none⟩) (MemO (colIt x.pool x.w j.1 (m, s, ColS.init)).1) ::
   pt (some ⟨n.a, 0, none⟩) (Blk 64 (gaV x n (some ⟨r, 0, none⟩) r2 k c c2)) :: pt (some ⟨r, 0, none⟩) (Row 74 1 k c (ptrs k fun i => (Q i).u)) :: pt (some ⟨n.g, 0, none⟩) (GaO n.mp n.e) :: pt (some ⟨n.e, 0, none⟩) (EpO n.mp x) :: pt (some ⟨pb, 0, none⟩) (SkO n.mp x.pool) :: G)
  (fun j => N - j.1) ⟨0, by omega⟩ (sub.cons rfl (sub.cons rfl (sub.cons rfl sub.nil))) ?_ ?_
 ·dsimp only [colIt]
  exact ent
 rintro ⟨j, hj⟩
 dsimp only
 refine go ?_
 rw [decide_eq_true (show (j : Int) < 400 by omega)]
 refine go ?_
 have hsz := colIt_size (k := x.pool) (n := x.w) (m := m) (s := s) (c := ColS.init) j
 refine Sx.ca rfl (colStepC (b := b) (g := n.g) (u := (Q i).u) (e := n.e) (mp := n.mp) (pb := pb) (x := x) (m := (colIt x.pool x.w j (m, s, ColS.init)).1) (s := (colIt x.pool x.w j (m, s, ColS.init)).2.1) (c := (colIt x.pool x.w j (m, s, ColS.init)).2.2) hx (by rw [colIt_len]; exact hl) (colIt_at j) (by omega)) ?_
 rintro v L' ⟨rfl, rfl⟩
 by_cases hjn : j = N
 ·subst hjn
  have e : colStep x.pool x.w (colIt x.pool x.w j (m, s, ColS.init)).1 (colIt x.pool x.w j (m, s, ColS.init)).2.1 (colIt x.pool x.w j (m, s, ColS.init)).2.2 = colIt x.pool x.w j (m, s, ColS.init) := by
   unfold colStep; rw [if_pos hd]
  rw [hd, e]
  refine go ?_
  refine Sx.ca rfl (colDone (b := b) (g := n.g) (u := (Q i).u) (e := n.e) (pb := pb) (x := x) (c := (colIt x.pool x.w j (m, s, ColS.init)).2.2) (colIt_at j)) ?_
  rintro v L' ⟨rfl, rfl⟩
  rw [hd]
  refine go ?_
  refine Sx.ca rfl (colHandDone (b := b) (g := n.g) (u := (Q i).u) (e := n.e) (pb := pb) (x := x) (c := (colIt x.pool x.w j (m, s, ColS.init)).2.2) hd hg) ?_
  rintro v L' ⟨rfl, rfl⟩
  refine go ?_
  refine Sx.ca rfl (colWon (b := b) (g := n.g) (u := (Q i).u) (e := n.e) (pb := pb) (x := x) (c := (colIt x.pool x.w j (m, s, ColS.init)).2.2) hd) ?_
  rintro v L' ⟨rfl, rfl⟩
  refine go ?_
  refine Kr.two (.inr rfl) rfl rfl (Ent.trans Ent.drop ?_) ⟨rfl, rfl⟩
  exact ent
 ·rw [hnd j (by omega)]
  refine go ?_
  rw [w64 (n := (j : Int) + 1) (by omega) (by omega)]
  refine Klp.nm ⟨j + 1, by omega⟩ (sub.cons rfl (sub.cons rfl (sub.cons rfl sub.nil))) ?_ (by dsimp only; omega)
  dsimp only [colIt]
  exact ent
theorem poolM_at {x : Cn} (hx : x.ok) (a : Nat) (h0 : a ≠ 0) (hl : a < x.link) : (poolM x).at_ a = 0 := by
 have hlen := hx.len_le
 have hk := hx.pool (Nat.le_refl x.len) hlen
 unfold poolM
 rw [← rUp_fill (len := x.len) hk (zeroM_len x), rUp_at hk (zeroM_len x) x.pool.n (Nat.le_refl _), if_neg (by show ¬ 0 = a; omega), if_neg (by show ¬ (x.link ≤ a ∧ a < x.link + x.pool.n); omega)]
 unfold zeroM Mm.at_
 rw [List.getD_eq_getElem?_getD, List.getElem?_replicate]
 split <;> rfl
theorem gaFirst : Fx Tryz.prog 15 [] L (fun v L' => v = .bool true ∧ L = L') := by
 refine Fx.mk Tryz.func15 k15 nb_ ?_
 dsimp only [c15, kG, kS, kH, kM, kN, kF, kL, envOf, Nat.reduceAdd]
 have hx : (⟨2, 2, 8, 1, 0, 1⟩ : Cn).ok := by unfold Cn.ok MayC; decide
 obtain ⟨x, hxe⟩ : ∃ x, x = (⟨2, 2, 8, 1, 0, 1⟩ : Cn) := ⟨_, rfl⟩
 have hw : x.w = 2 := by rw [hxe]
 have hc : x.c = 2 := by rw [hxe]
 have hca : x.ca = 0 := by rw [hxe]
 have hok : (poolM x).ok := fillM_ok (fun w hw => by simp only [zeroM] at hw; rw [List.eq_of_mem_replicate hw]; omega) (by show x.c ≤ 4096; omega)
 rw [← hxe] at hx
 have hlen := hx.len_le
 have hlk : 5 ≤ x.link := by unfold Cn.link; omega
 have hl3 : 3 ≤ x.len := by unfold Cn.len; omega
 have hp0 : Pool x.pool (poolM x) (iotaI x.c) := (fill_pool (hx.pool (Nat.le_refl _) hlen) (by rw [zeroM_len])).1
 have hr0 : SupS.ready (SupS.nil x.ca) (cutE (((poolM x).at_ 2 + 1) % 18446744073709551616)) = SupS.nil x.ca := by
  rw [poolM_at hx 2 (by omega) (by omega), hca]; rfl
 obtain ⟨N, m', c', hN, e, hd, hg, hwon, hcat, hnd, hl', hp', h2', _, _⟩ := col_free (x := x) (m := poolM x) (s := SupS.nil x.ca) (l := iotaI x.c) (xs := []) hx (poolM_len x) hok hp0
  (fun j hj hbh => by have := hbh.1; rw [poolM_at hx (3 + j) (by omega) (by omega)] at this; omega) (by rw [hr0]; rfl) List.nodup_nil (by simp) (by simp)
 have hN5 : N = 5 := by rw [hN, hw]; rfl
 subst hN5
 have gm := gaMade (L := L) hx
 refine go ?_
 refine Sx.ca (vs := [x.v]) (by rw [hxe]; rfl) gm ?_
 rintro v L' ⟨n, r, r2, c, c2, Q, rfl, rfl⟩
 refine go ?_
 have ec : Ent (gaF x n (some ⟨r, 0, none⟩) (some ⟨r2, 0, none⟩) x.w c c2 Q (fun _ => SupS.nil x.ca) (fun _ => SupS.nil x.ca) (poolM x) (fillM x.spare (poolM x)) L)
   (pt (some ⟨n.a, 0, none⟩) (Blk 64 (gaV x n (some ⟨r, 0, none⟩) (some ⟨r2, 0, none⟩) x.w c c2)) :: pt (some ⟨r, 0, none⟩) (Row 74 1 x.w c (ptrs x.w fun i => (Q i).u)) :: pt (some ⟨n.g, 0, none⟩) (GaO n.mp n.e) :: pt (some ⟨n.e, 0, none⟩) (EpO n.mp x) ::
    pt (some ⟨n.mp, 0, none⟩) (MemO (poolM x)) :: pt (some ⟨(Q 0).u, 0, none⟩) (SupO n.mp (Q 0).pb x (SupS.nil x.ca)) :: pt (some ⟨(Q 0).pb, 0, none⟩) (SkO n.mp x.pool) :: pt (some ⟨n.pb, 0, none⟩) (SkO n.mp x.pool) :: pt (some ⟨n.te, 0, none⟩) (EpO n.mp x) :: L) := by
  dsimp only [gaF]
  refine Ent.trans (Ent.ith 0 (by omega)) ?_
  simp only [whoL, List.cons_append, List.nil_append]
  exact entm
 refine Sx.ent ec ?_
 have hcol := gaCollects (x := x) (n := n) (r := r) (r2 := some ⟨r2, 0, none⟩) (k := x.w) (c := c) (c2 := c2) (pb := (Q 0).pb) (Q := Q) (s := SupS.nil x.ca) (m := poolM x) (i := 0) (G := pt (some ⟨n.pb, 0, none⟩) (SkO n.mp x.pool) :: pt (some ⟨n.te, 0, none⟩) (EpO n.mp x) :: L) 5 (by omega) (by omega) (by omega) hx (by rw [poolM_len]; exact Nat.le_refl _) (by rw [hca]; decide) hnd (by rw [e]; exact hd) (by rw [e]; exact hg)
 rw [e] at hcol
 refine Sx.ca rfl hcol ?_
 rintro v L' ⟨rfl, rfl⟩
 dsimp only
 rw [hwon]
 refine go ?_
 refine Sx.ca rfl (epochNow (e := n.te) (mp := n.mp) (x := x) (m := m') (by omega)) ?_
 rintro v L' ⟨rfl, rfl⟩
 rw [h2', poolM_at hx 2 (by omega) (by omega), show cutE ((0 + 1) % 18446744073709551616) = 1 from rfl]
 refine go ?_
 refine Sx.ca rfl (stackList (sb := n.pb) (mp := n.mp) (k := x.pool) (m := m') (hx.pool (by omega) (by omega))) ?_
 rintro v L' ⟨ro, co, rfl, rfl⟩
 rw [list_pool hp', List.nil_append, iotaI_len, hc]
 refine go ?_
 refine Kr.one (.inr rfl) rfl ?_ ⟨rfl, rfl⟩
 exact entm
end
end Go.Proofs.YtggnbdeokmdjbaaGreat


namespace Go.Proofs.YtggnbdeokmdjbaaGreat
open Go
attribute [local irreducible] Sx Cx Rx Fx Krg Ksq Kbl Klp Kr
def NoSlots (x : Cn) (a : Nat) : Prop := a ≠ 1 ∧ (a < x.slot ∨ x.slot + x.sl ≤ a)
theorem noSlots_covers {x : Cn} : Covers (NoSlots x) x.pool := by
 refine ⟨⟨by simp [Cn.pool], .inl ?_⟩, fun i _ => ⟨?_, .inr ?_⟩⟩
 ·show 0 < x.slot; unfold Cn.slot; omega
 ·show x.link + i ≠ 1; unfold Cn.link; omega
 ·show x.slot + x.sl ≤ x.link + i; unfold Cn.slot Cn.link; omega
theorem noSlots_two {x : Cn} : NoSlots x 2 := ⟨by omega, .inl (by unfold Cn.slot; omega)⟩
section
variable {L F G : St}
abbrev gtF (x : Cn) (n : Gn) (r r2 k c c2 : Nat) (Q : Nat → Who) (i : Nat) (S S2 : SupS) (m m2 : Mm) (G : St) : St :=
 pt (some ⟨n.a, 0, none⟩) (Blk 64 (gaV x n (some ⟨r, 0, none⟩) (some ⟨r2, 0, none⟩) k c c2)) :: pt (some ⟨r, 0, none⟩) (Row 74 1 k c (ptrs k fun i => (Q i).u)) :: pt (some ⟨r2, 0, none⟩) (Row 69 1 k c2 (ptrs k fun i => (Q i).s)) ::
 pt (some ⟨n.mp, 0, none⟩) (MemO m) :: pt (some ⟨n.w, 0, none⟩) (RWO x n.rm n.rp n.rs n.re) :: pt (some ⟨n.rm, 0, none⟩) (RMemO m2) :: pt (some ⟨n.rp, 0, none⟩) (RSkO n.rm x.pool) ::
 pt (some ⟨(Q i).u, 0, none⟩) (SupO n.mp (Q i).pb x S) :: pt (some ⟨(Q i).pb, 0, none⟩) (SkO n.mp x.pool) :: pt (some ⟨(Q i).s, 0, none⟩) (RSupO n.w S2) :: G
set_option maxHeartbeats 2000000 in
set_option maxRecDepth 20000 in
theorem gaTake2 {x : Cn} {n : Gn} {r r2 k c c2 : Nat} {Q : Nat → Who} {S S2 : SupS} {m m2 : Mm} {i : Nat} (hi : i < k) (hk : k ≤ 64) (hx : x.ok) (hl : m.ws.length = x.len) (hl2 : m2.ws.length = x.len) (hm : m.ok) (hm2 : m2.ok) (hb : S.size ≤ 100000) (hb2 : S2.size ≤ 100000)
  (hd : (tkIt x.pool x.ba 40 (m, takeInit x.ba S)).2.2.done = true) (hd2 : (tkIt x.pool x.ba 40 (m2, takeInit x.ba S2)).2.2.done = true)
  (hs : (tkIt x.pool x.ba 40 (m, takeInit x.ba S)).2.2.is_ = true → (tkIt x.pool x.ba 40 (m2, takeInit x.ba S2)).2.2.ch = (tkIt x.pool x.ba 40 (m, takeInit x.ba S)).2.2.chunk) :
  Fx Tryz.prog 25 [.pointer (some ⟨n.a, 0, none⟩), .int .i64 i] (gtF x n r r2 k c c2 Q i S S2 m m2 G)
   (fun v L' => v = .tuple #[.int .i64 (tkIt x.pool x.ba 40 (m, takeInit x.ba S)).2.2.chunk, .bool (tkIt x.pool x.ba 40 (m, takeInit x.ba S)).2.2.is_] ∧
    L' = gtF x n r r2 k c c2 Q i (tkIt x.pool x.ba 40 (m, takeInit x.ba S)).2.1 (tkIt x.pool x.ba 40 (m2, takeInit x.ba S2)).2.1 (tkIt x.pool x.ba 40 (m, takeInit x.ba S)).1 (tkIt x.pool x.ba 40 (m2, takeInit x.ba S2)).1 G) := by
 have hlen := hx.len_le
 have hpk := hx.pool (n := m.ws.length) (by omega) (by omega)
 have hpk2 := hx.pool (n := m2.ws.length) (by omega) (by omega)
 have hok0 := TkOk.init (ba := x.ba) (s := S) hpk hm
 have hok2 := TkOk.init (ba := x.ba) (s := S2) hpk2 hm2
 have hokj := fun j => TkOk.it (ba := x.ba) hpk hok0 j
 have hokj2 := fun j => TkOk.it (ba := x.ba) hpk2 hok2 j
 have hszj := fun j => tkIt_size (ba := x.ba) hpk hok0 j
 have hszj2 := fun j => tkIt_size (ba := x.ba) hpk2 hok2 j
 have hsz0 := takeInit_size (ba := x.ba) (s := S)
 have hsz02 := takeInit_size (ba := x.ba) (s := S2)
 unfold gtF
 refine Fx.mk Tryz.func25 k25 nb_ ?_
 dsimp only [c25, kG, kS, kH, kM, kN, kF, kL, envOf, Nat.reduceAdd]
 refine go ?_
 refine Cx.ordc rfl kr_ ?_
 refine ge ?_
 refine Ev.ldrH (b := r) (v := .pointer (some ⟨(Q i).u, 0, none⟩)) kr_ rfl rfl (by rw [show 0 + (i : Int).toNat * 1 = i by omega]; exact ptrs_get (U := fun i => (Q i).u) hi) ?_
 refine ge ?_
 iterate 6 (refine Ev.bring 1 rfl ?_; refine ge ?_)
 refine Ev.bring 1 rfl ?_
 refine Ev.ldrH (b := r2) (v := .pointer (some ⟨(Q i).s, 0, none⟩)) kr_ rfl rfl (by rw [show 0 + (i : Int).toNat * 1 = i by omega]; exact ptrs_get (U := fun i => (Q i).s) hi) ?_
 have hrow : ∀ (L0 : St) (F0 : St) [Take L0 (some ⟨r2, 0, none⟩) (Row 69 1 k c2 (ptrs k fun i => (Q i).s)) F0], Has L0 r2 (0 + (i : Int).toNat * 1) [.pointer (some ⟨(Q i).s, 0, none⟩)] := fun L0 F0 _ =>
  (Has.row (E := 69) (sz := 1) (n := k) (cap := c2) (xs := ptrs k fun i => (Q i).s) (m := 1)).one (take_one (by rw [show 0 + (i : Int).toNat * 1 = i by omega]; exact ptrs_get (U := fun i => (Q i).s) hi))
 refine Ev.caH kr_ rfl rfl (supTake (u := (Q i).u) (mp := n.mp) (pb := (Q i).pb) (x := x) (s := S) hx (by unfold SupS.size at hb; omega)) (.keep (fun v L' ⟨_, _, e⟩ => by subst e; exact hrow _ _) (.keep (fun v L' ⟨_, _, e⟩ => by subst e; exact Has.cell rfl) (.dep rfl (.dep rfl .nil)))) ?_
 rintro v L' ⟨b, rfl, rfl⟩
 refine ge ?_
 refine Ev.caH kr_ rfl rfl (refTakeNew (s := (Q i).s) (w := n.w) (rm := n.rm) (rp := n.rp) (rs := n.rs) (re := n.re) (x := x) (S := S2) hx (by unfold SupS.size at hb2; omega)) (Pres.deps kr_) ?_
 rintro v L' ⟨bb, rfl, rfl⟩
 refine ge ?_
 refine go ?_
 refine Cx.lp (α := {j : Nat // j ≤ 40}) (fun j => [(6, .pointer (some ⟨b, 0, none⟩)), (7, .pointer (some ⟨bb, 0, none⟩)), (8, .int .i64 j.1)])
  (fun j => pt (some ⟨b, 0, none⟩) (TakeO (Q i).u (Q i).pb x.pool (tkIt x.pool x.ba j.1 (m, takeInit x.ba S)).2.2) :: pt (some ⟨bb, 0, none⟩) (RTakeO (Q i).s n.rp (tkIt x.pool x.ba j.1 (m2, takeInit x.ba S2)).2.2) ::
   gtF x n r r2 k c c2 Q i (tkIt x.pool x.ba j.1 (m, takeInit x.ba S)).2.1 (tkIt x.pool x.ba j.1 (m2, takeInit x.ba S2)).2.1 (tkIt x.pool x.ba j.1 (m, takeInit x.ba S)).1 (tkIt x.pool x.ba j.1 (m2, takeInit x.ba S2)).1 G)
  (fun j => 40 - j.1) ⟨0, by omega⟩ (sub.cons rfl (sub.cons rfl (sub.cons rfl sub.nil))) ?_ ?_
 ·dsimp only [gtF, tkIt]
  exact ent
 rintro ⟨j, hj⟩
 dsimp only [gtF]
 have hokm := hokj j
 have hokm2 := hokj2 j
 have hsz := hszj j
 have hsz2 := hszj2 j
 have hl1 := hokm.l
 have hl12 := hokm2.l
 dsimp only at hsz hl1 hsz2 hl12
 refine go ?_
 refine Cx.ifp rfl (fun h => ?_) (fun h => ?_)
 ·refine go ?_
  refine Sx.ca rfl (takeStepC (b := b) (u := (Q i).u) (mp := n.mp) (pb := (Q i).pb) (x := x) (s := (tkIt x.pool x.ba j (m, takeInit x.ba S)).2.1) (m := (tkIt x.pool x.ba j (m, takeInit x.ba S)).1) (t := (tkIt x.pool x.ba j (m, takeInit x.ba S)).2.2) hx (by omega) hokm.t (by unfold SupS.size at hsz hsz0 hb; omega)) ?_
  rintro v L' ⟨rfl, rfl⟩
  refine go ?_
  refine Sx.ca rfl (refTakeStep (b := bb) (s := (Q i).s) (w := n.w) (rm := n.rm) (rp := n.rp) (rs := n.rs) (re := n.re) (x := x) (S := (tkIt x.pool x.ba j (m2, takeInit x.ba S2)).2.1) (m := (tkIt x.pool x.ba j (m2, takeInit x.ba S2)).1) (t := (tkIt x.pool x.ba j (m2, takeInit x.ba S2)).2.2) hx (by omega) hokm2.t hokm2.q (by unfold SupS.size at hsz2 hsz02 hb2; omega)) ?_
  rintro v L' ⟨rfl, rfl⟩
  refine go ?_
  rw [w64 (n := (j : Int) + 1) (by omega) (by omega)]
  refine Klp.nm ⟨j + 1, by omega⟩ (sub.cons rfl (sub.cons rfl (sub.cons rfl sub.nil))) ?_ (by dsimp only; omega)
  dsimp only [gtF, tkIt]
  refine Ent.trans (Ent.take (a := some ⟨b, 0, none⟩)) (Ent.cons ?_)
  exact ent
 ·obtain rfl : j = 40 := by omega
  refine go ?_
  refine Sx.ca rfl (takeChunk (b := b) (u := (Q i).u) (pb := (Q i).pb) (k := x.pool) (t := (tkIt x.pool x.ba 40 (m, takeInit x.ba S)).2.2) hokm.t) ?_
  rintro v L' ⟨rfl, rfl⟩
  refine Sx.ent (Ent.take (a := some ⟨bb, 0, none⟩)) ?_
  refine Sx.openp (a := some ⟨bb, 0, none⟩) (RTakeO.d hd2) ?_
  rintro ⟨nn, pp⟩
  simp only [rtakeDL, List.cons_append, List.nil_append]
  refine go ?_
  refine Cx.ordc rfl kr_ ?_
  refine ge ?_
  cases his : (tkIt x.pool x.ba 40 (m, takeInit x.ba S)).2.2.is_ with
  | true =>
    have hch := hs his
    refine ge ?_
    refine go ?_
    refine Kr.two (.inr rfl) rfl rfl ?_ ⟨?_, rfl⟩
    ·exact ent
    ·rw [hch]; simp
  | false =>
    refine ge ?_
    refine go ?_
    refine Kr.two (.inr rfl) rfl rfl ?_ ⟨rfl, rfl⟩
    exact ent
theorem gaTake {x : Cn} {n : Gn} {r r2 k c c2 : Nat} {Q : Nat → Who} {S : SupS} {m m2 : Mm} {i : Nat} (hi : i < k) (hk : k ≤ 64) (hx : x.ok) (hl : m.ws.length = x.len) (hm : m.ok) (hm2 : m2.ok) (hg : Agree (NoSlots x) m m2) (hb : S.size ≤ 100000)
  (hd : (tkIt x.pool x.ba 40 (m, takeInit x.ba S)).2.2.done = true) :
  Fx Tryz.prog 25 [.pointer (some ⟨n.a, 0, none⟩), .int .i64 i] (gtF x n r r2 k c c2 Q i S S m m2 G)
   (fun v L' => ∃ m2', Agree (NoSlots x) (tkIt x.pool x.ba 40 (m, takeInit x.ba S)).1 m2' ∧ m2'.ok ∧ v = .tuple #[.int .i64 (tkIt x.pool x.ba 40 (m, takeInit x.ba S)).2.2.chunk, .bool (tkIt x.pool x.ba 40 (m, takeInit x.ba S)).2.2.is_] ∧
    L' = gtF x n r r2 k c c2 Q i (tkIt x.pool x.ba 40 (m, takeInit x.ba S)).2.1 (tkIt x.pool x.ba 40 (m, takeInit x.ba S)).2.1 (tkIt x.pool x.ba 40 (m, takeInit x.ba S)).1 m2' G) := by
 have hlen := hx.len_le
 have hpk := hx.pool (n := m.ws.length) (by omega) (by omega)
 have hl2 : m2.ws.length = x.len := hg.len.trans hl
 have hpk2 := hx.pool (n := m2.ws.length) (by omega) (by omega)
 obtain ⟨e1, e2⟩ := tkIt_agree (ba := x.ba) hg hpk noSlots_covers noSlots_two (TkOk.init (ba := x.ba) (s := S) hpk hm) 40
 have h := gaTake2 (x := x) (n := n) (r := r) (r2 := r2) (k := k) (c := c) (c2 := c2) (Q := Q) (S := S) (S2 := S) (m := m) (m2 := m2) (i := i) (G := G) hi hk hx hl hl2 hm hm2 hb hb hd (by rw [e1]; exact hd) (fun hi => by rw [e1]; unfold TakeS.ch; rw [if_pos hi])
 rw [e1] at h
 refine h.mono ?_
 rintro v L' ⟨rfl, rfl⟩
 exact ⟨_, e2, (TkOk.it (ba := x.ba) hpk2 (TkOk.init (ba := x.ba) (s := S) hpk2 hm2) 40).m, rfl, rfl⟩
end
end Go.Proofs.YtggnbdeokmdjbaaGreat


namespace Go.Proofs.YtggnbdeokmdjbaaGreat
open Go
attribute [local irreducible] Sx Cx Rx Fx Krg Ksq Kbl Klp Kr
section
variable {L F G : St}
theorem Fx.iso3 {P : Program} {f : FuncId} {vs : List Value} {V : Value} {M : St} (h1 : Ent L M) (h2 : Ent M L) (x : Fx P f vs M (fun v L' => v = V ∧ L' = M)) : Fx P f vs L (fun v L' => v = V ∧ L' = L) := by
 unfold Fx at *
 intro w0 w s
 exact (x w0 w (s.ent h1)).mono fun en w' ⟨v', L', he, ⟨hv, hL⟩, hS⟩ => ⟨v', L, he, ⟨hv, rfl⟩, hS.ent (by subst hL; exact h2)⟩
theorem s3_in {n i : Nat} {f : Nat → St} {N G A R : St} [t : Many L n f N G] (h : i < n) (e : f i = A ++ R) : Ent L (A ++ ((N ++ (many n (updS f i []) ++ G)) ++ R)) := by
 rw [t.eq]
 refine Ent.trans (Ent.trans Ent.deep (Ent.trans (Ent.one h) (Ent.app Ent.deep))) ?_
 rw [e, List.append_assoc]
 exact Ent.app (.perm List.perm_append_comm)
theorem s3_out {n i : Nat} {f : Nat → St} {N G A R : St} [t : Many L n f N G] (h : i < n) (e : f i = A ++ R) : Ent (A ++ ((N ++ (many n (updS f i []) ++ G)) ++ R)) L := by
 rw [t.eq]
 have h1 : Ent (A ++ ((N ++ (many n (updS f i []) ++ G)) ++ R)) (f i ++ (N ++ (many n (updS f i []) ++ G))) := by
  rw [e, List.append_assoc A R]
  exact Ent.app (.perm List.perm_append_comm)
 refine Ent.trans h1 (Ent.trans (Ent.ithBack h) ?_)
 rw [updS_id]
 exact Ent.refl _
end
end Go.Proofs.YtggnbdeokmdjbaaGreat


namespace Go.Proofs.YtggnbdeokmdjbaaGreat
open Go
attribute [local irreducible] Sx Cx Rx Fx Krg Ksq Kbl Klp Kr
section
variable {L F G : St}
theorem colWonA {b g u e pb : Nat} {x : Cn} {c : ColS} {F1 : St} (hc : c.at_ ≤ 2) [t1 : Take L (some ⟨b, 0, none⟩) (ColO g u e pb x c) F1] : Fx Tryz.prog 20 [.pointer (some ⟨b, 0, none⟩)] L (fun v L' => v = .bool c.a.won ∧ L = L') := by
 refine Fx.kept (t := t1) ?_
 refine Fx.mk Tryz.func20 k20 nb_ ?_
 dsimp only [c20, kG, kS, kH, kM, kN, kF, kL, envOf, Nat.reduceAdd]
 refine Cx.ent (Ent.of t1.out) ?_
 cases hd : c.done with
 | true =>
   refine Cx.openp (a := some ⟨b, 0, none⟩) (ColO.d hd) ?_
   rintro ⟨q, r, n1, n2, n3, cnt⟩
   simp only [colDL, List.cons_append, List.nil_append]
   refine go ?_
   refine Sx.ca rfl (advWonC (b := q) (e := e) (x := x) (s := c.a)) ?_
   rintro v L' ⟨rfl, rfl⟩
   refine go ?_
   exact Kr.one (.inr rfl) rfl (ColO.closeD c hd rfl rfl) ⟨rfl, rfl⟩
 | false =>
   rcases (show c.at_ = 0 ∨ c.at_ = 1 ∨ c.at_ = 2 by omega) with h0 | h0 | h0
   ·refine Cx.openp (a := some ⟨b, 0, none⟩) (ColO.a hd h0) ?_
    rintro ⟨q, cnt⟩
    simp only [colAL, List.cons_append, List.nil_append]
    refine go ?_
    refine Sx.ca rfl (advWonC (b := q) (e := e) (x := x) (s := c.a)) ?_
    rintro v L' ⟨rfl, rfl⟩
    refine go ?_
    exact Kr.one (.inr rfl) rfl (ColO.closeA c hd h0 rfl) ⟨rfl, rfl⟩
   ·refine Cx.openp (a := some ⟨b, 0, none⟩) (ColO.b hd h0) ?_
    rintro ⟨q, n1, n2, n3, cnt⟩
    simp only [colBL, List.cons_append, List.nil_append]
    refine go ?_
    refine Sx.ca rfl (advWonC (b := q) (e := e) (x := x) (s := c.a)) ?_
    rintro v L' ⟨rfl, rfl⟩
    refine go ?_
    exact Kr.one (.inr rfl) rfl (ColO.closeB c hd h0 rfl) ⟨rfl, rfl⟩
   ·refine Cx.openp (a := some ⟨b, 0, none⟩) (ColO.c hd h0) ?_
    rintro ⟨q, r, cnt⟩
    simp only [colCL, List.cons_append, List.nil_append]
    refine go ?_
    refine Sx.ca rfl (advWonC (b := q) (e := e) (x := x) (s := c.a)) ?_
    rintro v L' ⟨rfl, rfl⟩
    refine go ?_
    exact Kr.one (.inr rfl) rfl (ColO.closeC c hd h0 rfl rfl) ⟨rfl, rfl⟩
def handCo (c : ColS) : List Int := if c.at_ = 2 then handP c.g else []
theorem colHandA {b g u e pb : Nat} {x : Cn} {c : ColS} {F1 : St} (hc : c.at_ ≤ 2) (hd2 : c.done = true → c.at_ = 2) (hb : c.at_ = 2 → c.g.done = false → c.g.l.length ≤ 1000000) [t1 : Take L (some ⟨b, 0, none⟩) (ColO g u e pb x c) F1] :
  Fx Tryz.prog 21 [.pointer (some ⟨b, 0, none⟩)] L (fun v L' => ∃ a k, v = .slice a (handCo c).length k ∧ L' = pt a (Row 3 1 (handCo c).length k (ints (handCo c))) :: pt (some ⟨b, 0, none⟩) (ColO g u e pb x c) :: F1) := by
 refine Fx.mk Tryz.func21 k21 nb_ ?_
 dsimp only [c21, kG, kS, kH, kM, kN, kF, kL, envOf, Nat.reduceAdd]
 refine Cx.ent (Ent.of t1.out) ?_
 cases hd : c.done with
 | true =>
   have h2 := hd2 hd
   have eh : handCo c = handP c.g := if_pos h2
   rw [eh]
   refine Cx.openp (a := some ⟨b, 0, none⟩) (ColO.d hd) ?_
   rintro ⟨q, r, n1, n2, n3, cnt⟩
   simp only [colDL, List.cons_append, List.nil_append]
   refine go ?_
   refine Sx.ca rfl (giveHandS (b := r) (pb := pb) (k := x.pool) (p := c.g) (hb h2)) ?_
   rintro v L' ⟨a, k, rfl, rfl⟩
   refine go ?_
   refine Kr.one (.inr rfl) rfl (Ent.cons ?_) ⟨a, k, rfl, rfl⟩
   refine Ent.trans (Ent.trans (Ent.take (a := some ⟨b, 0, none⟩)) (Ent.cons (Ent.trans (Ent.take (a := some ⟨q, 0, none⟩)) (Ent.cons (Ent.take (a := some ⟨r, 0, none⟩)))))) (ColO.closeD c hd rfl rfl)
 | false =>
   rcases (show c.at_ = 0 ∨ c.at_ = 1 ∨ c.at_ = 2 by omega) with h0 | h0 | h0
   ·have eh : handCo c = [] := if_neg (by omega)
    rw [eh]
    refine Cx.openp (a := some ⟨b, 0, none⟩) (ColO.a hd h0) ?_
    rintro ⟨q, cnt⟩
    simp only [colAL, List.cons_append, List.nil_append]
    refine go ?_
    exact Kr.one (.inr rfl) rfl (Ent.trans (ColO.closeA (pb := pb) c hd h0 rfl) (Ent.rownil _ _)) ⟨none, 0, rfl, rfl⟩
   ·have eh : handCo c = [] := if_neg (by omega)
    rw [eh]
    refine Cx.openp (a := some ⟨b, 0, none⟩) (ColO.b hd h0) ?_
    rintro ⟨q, n1, n2, n3, cnt⟩
    simp only [colBL, List.cons_append, List.nil_append]
    refine go ?_
    exact Kr.one (.inr rfl) rfl (Ent.trans (ColO.closeB (pb := pb) c hd h0 rfl) (Ent.rownil _ _)) ⟨none, 0, rfl, rfl⟩
   ·have eh : handCo c = handP c.g := if_pos h0
    rw [eh]
    refine Cx.openp (a := some ⟨b, 0, none⟩) (ColO.c hd h0) ?_
    rintro ⟨q, r, cnt⟩
    simp only [colCL, List.cons_append, List.nil_append]
    refine go ?_
    refine Sx.ca rfl (giveHandS (b := r) (pb := pb) (k := x.pool) (p := c.g) (hb h0)) ?_
    rintro v L' ⟨a, k, rfl, rfl⟩
    refine go ?_
    refine Kr.one (.inr rfl) rfl (Ent.cons ?_) ⟨a, k, rfl, rfl⟩
    refine Ent.trans (Ent.trans (Ent.take (a := some ⟨b, 0, none⟩)) (Ent.cons (Ent.trans (Ent.take (a := some ⟨q, 0, none⟩)) (Ent.cons (Ent.take (a := some ⟨r, 0, none⟩)))))) (ColO.closeC c hd h0 rfl rfl)
theorem Has.opn {α : Type _} {f : α → St} {a : Option Addr} {R : Option Addr → As} {b off : Nat} {vs : List Value} [t : Take L a R F] (hR : R a = exs f) (h : ∀ y, Has (f y ++ F) b off vs) : Has L b off vs := by
 intro w0 w s j v hj
 obtain ⟨hp, hh, hw⟩ := s.heap
 have h1 := t.out hp hh
 unfold pt at h1
 rw [hR] at h1
 obtain ⟨y, hy⟩ := holds_ex.1 h1
 exact h y w0 w ⟨s.os, s.tape, s.output, s.size, hp, hy, hw⟩ j v hj
theorem RColO.won {b s re rp n : Nat} {c : ColS} [t : Take L (some ⟨b, 0, none⟩) (RColO s re rp n c) F] : Has L b 4 [.bool c.a.won] := by
 by_cases h2 : c.at_ = 2
 ·refine Has.opn (a := some ⟨b, 0, none⟩) (RColO.c h2) fun y => ?_
  simp only [rcolCL, List.cons_append, List.nil_append]
  exact (Has.blk (n := 1)).one rfl
 ·refine Has.opn (a := some ⟨b, 0, none⟩) (RColO.a h2) fun y => ?_
  simp only [rcolAL, List.cons_append, List.nil_append]
  exact (Has.blk (n := 1)).one rfl
theorem RColO.done {b s re rp n : Nat} {c : ColS} [t : Take L (some ⟨b, 0, none⟩) (RColO s re rp n c) F] : Has L b 5 [.bool c.done] := by
 by_cases h2 : c.at_ = 2
 ·refine Has.opn (a := some ⟨b, 0, none⟩) (RColO.c h2) fun y => ?_
  simp only [rcolCL, List.cons_append, List.nil_append]
  exact (Has.blk (n := 1)).one rfl
 ·refine Has.opn (a := some ⟨b, 0, none⟩) (RColO.a h2) fun y => ?_
  simp only [rcolAL, List.cons_append, List.nil_append]
  exact (Has.blk (n := 1)).one rfl
theorem refColHandA {b s re rp n : Nat} {c : ColS} {F1 : St} (hb : c.at_ = 2 → c.g.done = false → c.g.l.length ≤ 1000000) [t1 : Take L (some ⟨b, 0, none⟩) (RColO s re rp n c) F1] (hc : c.at_ ≤ 2) :
  Fx Tryz.prog 22 [.pointer (some ⟨b, 0, none⟩)] L (fun v L' => ∃ a k, v = .slice a (handCo c).length k ∧ L' = pt a (Row 3 1 (handCo c).length k (ints (handCo c))) :: pt (some ⟨b, 0, none⟩) (RColO s re rp n c) :: F1) := by
 refine Fx.mk Tryz.func22 k22 nb_ ?_
 dsimp only [c22, kG, kS, kH, kM, kN, kF, kL, envOf, Nat.reduceAdd]
 refine Cx.ent (Ent.of t1.out) ?_
 by_cases h2 : c.at_ = 2
 ·have eh : handCo c = handP c.g := if_pos h2
  rw [eh]
  refine Cx.openp (a := some ⟨b, 0, none⟩) (RColO.c h2) ?_
  rintro ⟨q, r⟩
  simp only [rcolCL, List.cons_append, List.nil_append]
  refine go ?_
  refine Sx.ca rfl (refGiveHandS (b := r) (rp := rp) (p := c.g) (hb h2)) ?_
  rintro v L' ⟨a, k, rfl, rfl⟩
  refine go ?_
  refine Kr.one (.inr rfl) rfl (Ent.cons ?_) ⟨a, k, rfl, rfl⟩
  refine Ent.trans (Ent.trans (Ent.take (a := some ⟨b, 0, none⟩)) (Ent.cons (Ent.take (a := some ⟨q, 0, none⟩)))) (RColO.closeC c h2 rfl rfl rfl rfl)
 ·have eh : handCo c = [] := if_neg h2
  rw [eh]
  refine Cx.openp (a := some ⟨b, 0, none⟩) (RColO.a h2) ?_
  rintro q
  simp only [rcolAL, List.cons_append, List.nil_append]
  refine go ?_
  refine Cx.cyes rfl (decide_eq_true (by omega)) ?_
  refine go ?_
  refine Kr.one (.inr rfl) rfl (Ent.trans (RColO.closeA (rp := rp) c h2 rfl rfl rfl rfl) (Ent.rownil _ _)) ⟨none, 0, rfl, rfl⟩
theorem refWhat {x : Cn} (hx : x.ok) (i : Nat) (hi : i < x.len) : Fx Tryz.prog 112 [x.v, .int .i64 i] L (fun v L' => (∃ kd a b : Int, v = .tuple #[.int .i64 kd, .int .i64 a, .int .i64 b] ∧ (kd = 5 ↔ (x.slot ≤ i ∧ i < x.slot + x.sl))) ∧ L = L') := by
 obtain ⟨b1, b2, b3, b4, b5, b6, b7⟩ := hx.b
 have hxl := hx.len_le
 have hsl : x.slot = 3 + x.w + x.sl := rfl
 refine Fx.mk Tryz.func112 k112 nb_ ?_
 dsimp only [c112, kG, kS, kH, kM, kN, kF, kL, envOf, Nat.reduceAdd]
 refine go ?_
 refine Sx.bx rfl rfl fun g => ?_
 refine go ?_
 refine Sx.ca rfl (refLen hx) ?_
 rintro v L' ⟨rfl, rfl⟩
 refine go ?_
 refine Cx.cno rfl (decide_eq_false (by omega)) ?_
 refine go ?_
 refine Cx.ifp rfl (fun h1 => ?_) (fun h1 => ?_)
 ·refine go ?_
  exact Kr.three (.inr rfl) rfl rfl rfl Ent.drop ⟨⟨_, _, _, rfl, by omega⟩, rfl⟩
 refine go ?_
 refine Cx.ifp rfl (fun h2 => ?_) (fun h2 => ?_)
 ·refine go ?_
  exact Kr.three (.inr rfl) rfl rfl rfl Ent.drop ⟨⟨_, _, _, rfl, by omega⟩, rfl⟩
 refine go ?_
 rw [w64 (by omega) (by omega)]
 refine go ?_
 refine Cx.ifp rfl (fun k0 => ?_) (fun k0 => ?_)
 ·refine go ?_
  exact Kr.three (.inr rfl) rfl rfl rfl Ent.drop ⟨⟨_, _, _, rfl, by omega⟩, rfl⟩
 refine go ?_
 rw [w64 (by omega) (by omega)]
 refine go ?_
 refine Cx.ifp rfl (fun k1 => ?_) (fun k1 => ?_)
 ·refine go ?_
  exact Kr.three (.inr rfl) rfl rfl rfl Ent.drop ⟨⟨_, _, _, rfl, by omega⟩, rfl⟩
 refine go ?_
 rw [w64 (by omega) (by omega)]
 refine go ?_
 refine Cx.ifp rfl (fun k2 => ?_) (fun k2 => ?_)
 ·refine go ?_
  exact Kr.three (.inr rfl) rfl rfl rfl Ent.drop ⟨⟨_, _, _, rfl, by omega⟩, rfl⟩
 refine go ?_
 rw [w64 (by omega) (by omega)]
 refine go ?_
 refine Cx.ifp rfl (fun k3 => ?_) (fun k3 => ?_)
 ·refine go ?_
  exact Kr.three (.inr rfl) rfl rfl rfl Ent.drop ⟨⟨_, _, _, rfl, by omega⟩, rfl⟩
 refine go ?_
 rw [w64 (by omega) (by omega)]
 refine go ?_
 refine Cx.ordc rfl kr_ ?_
 refine ge ?_
 refine Ev.pvH kr_ rfl rfl (by omega) ?_
 refine ge ?_
 refine Ev.pvH kr_ rfl rfl (by omega) ?_
 refine ge ?_
 refine go ?_
 exact Kr.three (.inr rfl) rfl rfl rfl Ent.drop ⟨⟨_, _, _, rfl, by omega⟩, rfl⟩
end
end Go.Proofs.YtggnbdeokmdjbaaGreat


namespace Go.Proofs.YtggnbdeokmdjbaaGreat
open Go
attribute [local irreducible] Sx Cx Rx Fx Krg Ksq Kbl Klp Kr
section
variable {L F G : St}
def s4W (n : Gn) (x : Cn) (q : Who) (s : SupS) (R : St) : St := pt (some ⟨q.u, 0, none⟩) (SupO n.mp q.pb x s) :: pt (some ⟨q.s, 0, none⟩) (RSupO n.w s) :: R
abbrev s4F (x : Cn) (n : Gn) (r r2 c c2 : Nat) (Q : Nat → Who) (S : Nat → SupS) (R : Nat → St) (m m2 : Mm) (G : St) : St :=
 pt (some ⟨n.a, 0, none⟩) (Blk 64 (gaV x n (some ⟨r, 0, none⟩) (some ⟨r2, 0, none⟩) x.w c c2)) :: pt (some ⟨r, 0, none⟩) (Row 74 1 x.w c (ptrs x.w fun i => (Q i).u)) :: pt (some ⟨r2, 0, none⟩) (Row 69 1 x.w c2 (ptrs x.w fun i => (Q i).s)) ::
 pt (some ⟨n.mp, 0, none⟩) (MemO m) :: pt (some ⟨n.w, 0, none⟩) (RWO x n.rm n.rp n.rs n.re) :: pt (some ⟨n.rm, 0, none⟩) (RMemO m2) ::
 (many x.w (fun i => s4W n x (Q i) (S i) (R i)) ++ G)
abbrev s4M (n : Gn) (m : Mm) (rg : Option Addr) (cg : Nat) (G : St) : St := pt (some ⟨n.rm, 0, none⟩) (Blk 94 [.slice rg m.ws.length cg, .int .i64 (IntKind.i64.wrap (m.n : Int))]) :: pt rg (Row 89 1 m.ws.length cg (us m.ws)) :: G
abbrev s4G (x : Cn) (n : Gn) (r r2 c c2 : Nat) (Q : Nat → Who) (m m2 : Mm) (rg : Option Addr) (cg : Nat) (T : St) : St :=
 pt (some ⟨n.a, 0, none⟩) (Blk 64 (gaV x n (some ⟨r, 0, none⟩) (some ⟨r2, 0, none⟩) x.w c c2)) :: pt (some ⟨r, 0, none⟩) (Row 74 1 x.w c (ptrs x.w fun i => (Q i).u)) :: pt (some ⟨r2, 0, none⟩) (Row 69 1 x.w c2 (ptrs x.w fun i => (Q i).s)) ::
 pt (some ⟨n.mp, 0, none⟩) (MemO m) :: pt (some ⟨n.w, 0, none⟩) (RWO x n.rm n.rp n.rs n.re) :: s4M n m2 rg cg T
set_option maxRecDepth 20000 in
set_option maxHeartbeats 8000000 in
theorem same17 {x : Cn} {n : Gn} {r r2 c c2 : Nat} {Q : Nat → Who} {S : Nat → SupS} {R : Nat → St} {m m2 : Mm} (hx : x.ok) (hml : m.ws.length = x.len) (hA : Agree (NoSlots x) m m2) (hn : m.n ≤ 1000000000000) (hS : ∀ i, i < x.w → (S i).xs.length ≤ 1000000000) (hB : ∀ i, i < x.w → (S i).lm.size ≤ 1000000000) :
  Fx Tryz.prog 36 [.pointer (some ⟨n.a, 0, none⟩)] (s4F x n r r2 c c2 Q S R m m2 G) (fun v L' => v = .bool true ∧ L' = s4F x n r r2 c c2 Q S R m m2 G) := by
 obtain ⟨b1, b2, b3, b4, b5, b6, b7⟩ := hx.b
 have hxl := hx.len_le
 have hl2 : m2.ws.length = x.len := hA.len.trans hml
 have hn2 := hA.n
 refine Fx.mk Tryz.func36 k36 nb_ ?_
 dsimp only [c36, kG, kS, kH, kM, kN, kF, kL, envOf, Nat.reduceAdd]
 dsimp only [s4F]
 refine Cx.openp (a := some ⟨n.rm, 0, none⟩) rfl ?_
 rintro ⟨rg, cg⟩
 simp only [rmemL, List.cons_append, List.nil_append]
 refine Cx.liftp fun hm => ?_
 refine Cx.rowkey (a := rg) fun hx0 hn0 _ hk1 => ?_
 have hmx : maxLen = 9223372036854775807 := rfl
 refine go ?_
 refine Cx.lp (α := {j : Nat // j ≤ m2.ws.length}) (fun j => [(0, .pointer (some ⟨n.a, 0, none⟩)), (3, .int .i64 j.1)]) (fun _ => s4G x n r r2 c c2 Q m m2 rg cg (many x.w (fun i => s4W n x (Q i) (S i) (R i)) ++ G)) (fun j => m2.ws.length - j.1) ⟨0, Nat.zero_le _⟩ (sub.cons rfl (sub.cons rfl sub.nil)) ?_ ?_
 ·dsimp only [s4G, s4M]
  exact entm
 rintro ⟨j, hj⟩
 dsimp only [s4G, s4M]
 refine go ?_
 refine Cx.ifp rfl (fun h => ?_) (fun h => ?_)
 ·have hjl : j < m2.ws.length := by omega
  obtain ⟨g0, rfl⟩ := row_some hjl (hk1.imp (fun h => ⟨h.1, h.2.1, h.2.2⟩) id)
  refine go ?_
  refine Sx.ca (vs := [x.v, .int .i64 j]) rfl (refWhat hx j (by omega)) ?_
  rintro v L' ⟨⟨kd, ka, kb, rfl, hkd⟩, rfl⟩
  refine go ?_
  have fin : ∀ {e : En} {A : St}, Ent A (s4G x n r r2 c c2 Q m m2 (some ⟨g0, 0, none⟩) cg (many x.w (fun i => s4W n x (Q i) (S i) (R i)) ++ G)) → Ent A (s4G x n r r2 c c2 Q m m2 (some ⟨g0, 0, none⟩) cg (many x.w (fun i => s4W n x (Q i) (S i) (R i)) ++ G)) := fun h => h
  by_cases hskip : j = 1 ∨ kd = 5
  ·refine Cx.ordc rfl kr_ ?_
   refine ge ?_
   by_cases hj1 : j = 1
   ·refine Ev.no 40 rfl (by simp [hj1]) ?_
    refine ge ?_
    refine go ?_
    rw [w64 (n := (j : Int) + 1) (by omega) (by omega)]
    refine Klp.nm ⟨j + 1, by omega⟩ (sub.cons rfl (sub.cons rfl sub.nil)) ?_ (by dsimp only; omega)
    exact entm
   ·have hk5 : kd = 5 := by omega
    refine Ev.yes 40 rfl (by simp; omega) ?_
    refine ge ?_
    refine Ev.no 44 rfl (by simp [hk5]) ?_
    refine ge ?_
    refine go ?_
    rw [w64 (n := (j : Int) + 1) (by omega) (by omega)]
    refine Klp.nm ⟨j + 1, by omega⟩ (sub.cons rfl (sub.cons rfl sub.nil)) ?_ (by dsimp only; omega)
    exact entm
  ·have hj1 : j ≠ 1 := fun h => hskip (.inl h)
   have hk5 : kd ≠ 5 := fun h => hskip (.inr h)
   have hns : NoSlots x j := ⟨hj1, by have := mt hkd.2 hk5; omega⟩
   refine Cx.ordc rfl kr_ ?_
   refine ge ?_
   refine Ev.yes 40 rfl (by simp; omega) ?_
   refine ge ?_
   refine Ev.yes 44 rfl (by simp [hk5]) ?_
   refine ge ?_
   refine Ev.cakH kr_ rfl rfl (cellsPeek (b := n.mp) (m := m) j (by omega)) ?_
   refine ge ?_
   refine Ev.ldrH (b := g0) kr_ rfl rfl (show (us m2.ws)[0 + (j : Int).toNat * 1]? = some (wd (m2.at_ j)) by rw [show 0 + (j : Int).toNat * 1 = j by omega]; exact us_get (Mm.get hjl)) ?_
   rw [hA.at_ j hns]
   refine ge ?_
   rw [decide_eq_true rfl]
   refine go ?_
   rw [w64 (n := (j : Int) + 1) (by omega) (by omega)]
   refine Klp.nm ⟨j + 1, by omega⟩ (sub.cons rfl (sub.cons rfl sub.nil)) ?_ (by dsimp only; omega)
   exact entm
 ·refine go ?_
  refine Cx.lp (α := {j : Nat // j ≤ x.w}) (fun j => [(0, .pointer (some ⟨n.a, 0, none⟩)), (7, .int .i64 j.1)]) (fun _ => s4G x n r r2 c c2 Q m m2 rg cg (many x.w (fun i => s4W n x (Q i) (S i) (R i)) ++ G)) (fun j => x.w - j.1) ⟨0, Nat.zero_le _⟩ (sub.cons rfl (sub.cons rfl sub.nil)) ?_ ?_
  ·exact entm
  rintro ⟨i, hi⟩
  dsimp only [s4G, s4M]
  refine go ?_
  refine Cx.ifp rfl (fun h => ?_) (fun h => ?_)
  ·have hi3 : i < x.w := by omega
   refine go ?_
   refine Cx.ent (s3_in (A := [pt (some ⟨(Q i).u, 0, none⟩) (SupO n.mp (Q i).pb x (S i)), pt (some ⟨(Q i).s, 0, none⟩) (RSupO n.w (S i))]) (R := R i) hi3 rfl) ?_
   simp only [List.cons_append, List.nil_append]
   refine Cx.openp (a := some ⟨(Q i).s, 0, none⟩) rfl ?_
   rintro ⟨st, lm⟩
   simp only [rsupL, List.cons_append, List.nil_append]
   refine Cx.openp (a := some ⟨st, 0, none⟩) rfl ?_
   rintro ⟨ra, ca⟩
   simp only [List.cons_append, List.nil_append]
   have hpu : (ptrs x.w fun i => (Q i).u)[0 + (i : Int).toNat * 1]? = some (.pointer (some ⟨(Q i).u, 0, none⟩)) := by
    rw [show 0 + (i : Int).toNat * 1 = i by omega]; exact ptrs_get hi3
   have hps : (ptrs x.w fun i => (Q i).s)[0 + (i : Int).toNat * 1]? = some (.pointer (some ⟨(Q i).s, 0, none⟩)) := by
    rw [show 0 + (i : Int).toNat * 1 = i by omega]; exact ptrs_get hi3
   refine Cx.ordc rfl kr_ ?_
   refine ge ?_
   refine Ev.ldrH (b := r) kr_ rfl rfl hpu ?_
   refine ge ?_
   iterate 6 (refine Ev.bring 1 rfl ?_; refine ge ?_)
   refine Ev.bring 1 rfl ?_
   refine Ev.ldrH (b := r2) kr_ rfl rfl hps ?_
   iterate 6 (refine Ev.bring 1 rfl ?_; refine ge ?_)
   refine Ev.caH kr_ rfl rfl (supStash (u := (Q i).u) (mp := n.mp) (pb := (Q i).pb) (x := x) (s := S i) (hS i hi3)) (.keep (fun v L' ⟨_, _, _, e⟩ => by subst e; exact Has.cell rfl) (.keep (fun v L' ⟨_, _, _, e⟩ => by subst e; exact Has.cell rfl) (.keep (fun v L' ⟨_, _, _, e⟩ => by subst e; exact (Has.row (b := r2) (m := 1)).one (take_one hps)) (.keep (fun v L' ⟨_, _, _, e⟩ => by subst e; exact Has.cell rfl) (.dep rfl (.dep rfl .nil)))))) ?_
   rintro v L' ⟨a1, c1, rfl, rfl⟩
   refine ge ?_
   refine Ev.cakH kr_ rfl rfl (sameIntsS (xs := (S i).xs) (ys := (S i).xs) (a := a1) (b := ra) (hS i hi3)) ?_
   refine ge ?_
   rw [decide_eq_true rfl]
   refine go ?_
   refine Cx.lp (α := {k : Nat // k ≤ 3}) (fun k => [(0, .pointer (some ⟨n.a, 0, none⟩)), (7, .int .i64 (i : Nat)), (8, .int .i64 k.1)])
    (fun _ => pt (some ⟨(Q i).u, 0, none⟩) (SupO n.mp (Q i).pb x (S i)) :: pt (some ⟨(Q i).s, 0, none⟩) (Blk 85 [.pointer (some ⟨n.w, 0, none⟩), .pointer (some ⟨st, 0, none⟩), .pointer (some ⟨lm, 0, none⟩)]) :: pt (some ⟨st, 0, none⟩) (RefO (S i).most (S i).xs) :: pt (some ⟨lm, 0, none⟩) (RLimboO (S i).lm) ::
     s4G x n r r2 c c2 Q m m2 rg cg ((many x.w (updS (fun i => s4W n x (Q i) (S i) (R i)) i []) ++ G) ++ R i))
    (fun k => 3 - k.1) ⟨0, Nat.zero_le _⟩ (sub.cons rfl (sub.cons rfl (sub.cons rfl sub.nil))) ?_ ?_
   ·refine Ent.trans (StashO.close (T := 142) (most := (S i).most) (xs := (S i).xs) (a := some ⟨st, 0, none⟩) (r := ra) rfl rfl rfl) ?_
    dsimp only [s4G, s4M]
    exact entm
   rintro ⟨k, hk⟩
   dsimp only [s4G, s4M]
   refine go ?_
   refine Cx.ifp rfl (fun h5 => ?_) (fun h5 => ?_)
   ·have hk3 : k < 3 := by omega
    have hz3 : ((S i).lm.items (k : Int).toNat).length ≤ (S i).lm.size := by unfold Lm.items Lm.size; split <;> omega
    have hBi := hB i hi3
    refine gg ?_
    refine Sx.ldr (b := r) rfl hpu ?_
    refine go ?_
    refine Sx.ca rfl (supBucket (u := (Q i).u) (mp := n.mp) (pb := (Q i).pb) (x := x) (s := S i) (k : Int) hBi) ?_
    rintro v L' (⟨hno, rfl, rfl⟩ | ⟨hyes, r1, k1, rfl, rfl⟩)
    ·refine gg ?_
     refine Sx.ldr (b := r2) rfl hps ?_
     refine go ?_
     refine Sx.ca rfl (refBucket (b := lm) (m := (S i).lm) (k := (k : Int)) hBi) ?_
     rintro v L' (⟨_, rfl, rfl⟩ | ⟨hyes, _⟩)
     rotate_left
     ·exact absurd hno hyes
     refine go ?_
     refine Sx.ca rfl (sameInts (xs := []) (ys := []) (Rd.nil _ _ _) (Rd.nil _ _ _) (by omega)) ?_
     rintro v L' ⟨rfl, rfl⟩
     refine go ?_
     rw [w64 (n := (k : Int) + 1) (by omega) (by omega)]
     refine Klp.nm ⟨k + 1, by omega⟩ (sub.cons rfl (sub.cons rfl (sub.cons rfl sub.nil))) ?_ (by dsimp only; omega)
     exact entm
    ·refine gg ?_
     refine Sx.ldr (b := r2) rfl hps ?_
     refine go ?_
     refine Sx.ca rfl (refBucket (b := lm) (m := (S i).lm) (k := (k : Int)) hBi) ?_
     rintro v L' (⟨hno, _⟩ | ⟨_, r3, k3, rfl, rfl⟩)
     ·exact absurd hno hyes
     refine go ?_
     refine Sx.gyes rfl (by simp) ?_
     refine go ?_
     refine Sx.ca rfl (sameIntsS (xs := (S i).lm.items (k : Int).toNat) (ys := (S i).lm.items (k : Int).toNat) (a := r1) (b := r3) (by omega)) ?_
     rintro v L' ⟨rfl, rfl⟩
     rw [decide_eq_true (rfl : (S i).lm.items (k : Int).toNat = (S i).lm.items (k : Int).toNat)]
     refine go ?_
     rw [w64 (n := (k : Int) + 1) (by omega) (by omega)]
     refine Klp.nm ⟨k + 1, by omega⟩ (sub.cons rfl (sub.cons rfl (sub.cons rfl sub.nil))) ?_ (by dsimp only; omega)
     exact entm
   ·refine go ?_
    rw [w64 (n := (i : Int) + 1) (by omega) (by omega)]
    refine Klp.nm ⟨i + 1, by omega⟩ (sub.cons rfl (sub.cons rfl sub.nil)) ?_ (by dsimp only; omega)
    refine Ent.trans ?_ (s3_out (A := [pt (some ⟨(Q i).u, 0, none⟩) (SupO n.mp (Q i).pb x (S i)), pt (some ⟨(Q i).s, 0, none⟩) (RSupO n.w (S i))]) (R := R i) hi3 rfl)
    simp only [List.cons_append, List.nil_append]
    refine Ent.trans (RSupO.close (a := some ⟨(Q i).s, 0, none⟩) (st := st) (lm := lm) (w := n.w) (S i) rfl rfl rfl) ?_
    exact entm
  ·obtain rfl : i = x.w := by omega
   refine go ?_
   refine Cx.ordc rfl kr_ ?_
   refine ge ?_
   refine Ev.cakH kr_ rfl rfl (cellsCount (b := n.mp) (m := m) hn) ?_
   refine ge ?_
   rw [hn2, w64 (n := (m.n : Int)) (by omega) (by omega), decide_eq_true rfl]
   refine go ?_
   refine Kr.one (.inr rfl) rfl ?_ ⟨rfl, rfl⟩
   refine Ent.trans (RMemO.close (a := some ⟨n.rm, 0, none⟩) (r := rg) (v := .int .i64 (m.n : Int)) m2 hm (by rw [hn2, w64 (by omega) (by omega)]) rfl rfl) ?_
   exact entm
theorem refPutPin (e : Nat) (he : e ≤ 4611686018427387903) : Fx Tryz.prog 32 [.int .i64 e] L (fun v L' => v = .tuple #[wd (2 * e + 1), .bool true] ∧ L = L') := by
 refine Fx.mk Tryz.func32 k32 nb_ ?_
 dsimp only [c32, kG, kS, kH, kM, kN, kF, kL, envOf, Nat.reduceAdd]
 refine go ?_
 refine Sx.ca rfl (in_ _ _ _) ?_
 rintro v L' ⟨rfl, rfl⟩
 rw [decide_eq_true (by omega)]
 refine go ?_
 rw [wrap64 (n := e) (by omega)]
 refine go ?_
 refine Kr.two (.inr rfl) rfl rfl (Ent.refl _) ⟨?_, rfl⟩
 rw [wu64 (n := 2 * (e : Int)) (by omega) (by omega), wu64 (n := 2 * (e : Int) + 1) (by omega) (by omega), show (2 * (e : Int) + 1) = ((2 * e + 1 : Nat) : Int) by omega]
end
end Go.Proofs.YtggnbdeokmdjbaaGreat


namespace Go.Proofs.YtggnbdeokmdjbaaGreat
open Go
attribute [local irreducible] Sx Cx Rx Fx Krg Ksq Kbl Klp Kr
theorem cas_n13 (m : Mm) (i o v : Nat) : (m.cas i o v).n = m.n + 1 := by unfold Mm.cas; split <;> rfl
theorem popStep_n13 (k : Sk) (m : Mm) (q : PopS) : (popStep k m q).2.n ≤ m.n + 1 := by
 unfold popStep
 split
 ·exact Nat.le_succ _
 split
 ·split <;> exact Nat.le_refl _
 ·split <;> exact Nat.le_refl _
 ·exact Nat.le_of_eq (cas_n13 _ _ _ _)
theorem pushStep_n13 (k : Sk) (m : Mm) (p : PushS) : (pushStep k m p).2.n ≤ m.n + 1 := by
 unfold pushStep
 split
 ·exact Nat.le_succ _
 split
 ·exact Nat.le_refl _
 split
 ·exact Nat.le_refl _
 split
 ·exact Nat.le_refl _
 ·exact Nat.le_of_eq (cas_n13 _ _ _ _)
theorem takeStep_n13 (k : Sk) (ba : Int) (m : Mm) (s : SupS) (t : TakeS) : (takeStep k ba m s t).1.n ≤ m.n + 1 := by
 unfold takeStep
 split
 ·exact Nat.le_succ _
 split
 ·dsimp only
  split <;> exact Nat.le_refl _
 ·dsimp only
  split <;> exact popStep_n13 _ _ _
section
variable {L F G : St}
theorem refNow {rm re : Nat} {x : Cn} {m : Mm} {F1 : St} (hm : m.ok) (hl : 3 ≤ m.ws.length) [t1 : Take L (some ⟨re, 0, none⟩) (REpO x rm) F1] [t2 : Take F1 (some ⟨rm, 0, none⟩) (RMemO m) G] :
  Fx Tryz.prog 26 [.pointer (some ⟨re, 0, none⟩)] L (fun v L' => v = .int .i64 (cutE (m.at_ 2)) ∧ L' = pt (some ⟨re, 0, none⟩) (REpO x rm) :: pt (some ⟨rm, 0, none⟩) (RMemO m) :: G) := by
 refine Fx.mk Tryz.func26 k26 nb_ ?_
 dsimp only [c26, kG, kS, kH, kM, kN, kF, kL, envOf, Nat.reduceAdd]
 refine Cx.ent (Ent.trans (Ent.of t1.out) (Ent.cons (Ent.of t2.out))) ?_
 refine Cx.openp (a := some ⟨rm, 0, none⟩) rfl ?_
 rintro ⟨r, c⟩
 simp only [rmemL, List.cons_append, List.nil_append]
 refine Cx.liftp fun hmm => ?_
 refine Cx.rowkey (a := r) fun hx0 hn0 _ hk1 => ?_
 obtain ⟨rg, rfl⟩ := row_some (show 2 < m.ws.length by omega) (hk1.imp (fun h => ⟨h.1, h.2.1, h.2.2⟩) id)
 refine go ?_
 refine Cx.orde rfl kr_ ?_
 refine ge ?_
 refine Ev.ldrH (b := rg) kr_ rfl rfl (show (us m.ws)[0 + (2 : Int).toNat * 1]? = some (wd (m.at_ 2)) from us_get (Mm.get (by omega))) ?_
 refine ge ?_
 refine Ev.cakH kr_ rfl rfl (refCut (m.at_ 2) (Mm.at_lt hm 2)) ?_
 refine ge ?_
 refine go ?_
 refine Kr.one (.inr rfl) rfl ?_ ⟨rfl, rfl⟩
 refine Ent.trans (RMemO.close (a := some ⟨rm, 0, none⟩) (r := some ⟨rg, 0, none⟩) m hmm rfl rfl rfl) ?_
 exact entm
end
end Go.Proofs.YtggnbdeokmdjbaaGreat


namespace Go.Proofs.YtggnbdeokmdjbaaGreat
open Go
attribute [local irreducible] Sx Cx Rx Fx Krg Ksq Kbl Klp Kr
theorem poolM_ok {x : Cn} (hx : x.ok) : (poolM x).ok := by
 obtain ⟨b1, b2, b3, b4, b5, b6, b7⟩ := hx.b
 refine fillM_ok (fun w hw => ?_) (by show x.c ≤ 4096; omega)
 simp only [zeroM] at hw; rw [List.eq_of_mem_replicate hw]; omega
section
variable {L F G : St}
end
end Go.Proofs.YtggnbdeokmdjbaaGreat


namespace Go.Proofs.YtggnbdeokmdjbaaGreat
structure CH where
 on : Bool
 p : Nat
 q : Nat
 y : Option Addr
 c : ColS
structure GpOk (x : Cn) (T : Nat) (m m2 : Mm) (ws : Nat → Sw) (hs : Nat → CH) : Prop where
 i : ∃ P, SqI x m ws P (50 * T)
 ag : Agree (NoSlots x) m m2
 n : m.n ≤ 50 * T
 on : ∀ i, i < 4 → (hs i).on = true → CwOk x (ws i) (hs i).c ∧ (hs i).y = some ⟨(hs i).q, 0, none⟩
 off : ∀ i, i < 4 → (hs i).on = false → (ws i).k = 0
 l : ∀ i, i < 4 → (ws i).l = []
theorem colStep_n {k : Sk} {n : Nat} {m : Mm} {s : SupS} {c : ColS} : (colStep k n m s c).1.n ≤ m.n + 1 := by
 unfold colStep
 split
 ·exact Nat.le_succ _
 ·split
  ·exact advStep_n
  ·exact Nat.le_refl _
  ·exact pushStep_n13 _ _ _
theorem tkIt_n {k : Sk} {ba : Int} {r : Mm × SupS × TakeS} : ∀ N, (tkIt k ba N r).1.n ≤ r.1.n + N
 | 0 => Nat.le_refl _
 | N + 1 => by
   have h1 := tkIt_n (k := k) (ba := ba) (r := r) N
   have h2 := takeStep_n13 k ba (tkIt k ba N r).1 (tkIt k ba N r).2.1 (tkIt k ba N r).2.2
   show (takeStep k ba (tkIt k ba N r).1 (tkIt k ba N r).2.1 (tkIt k ba N r).2.2).1.n ≤ _
   omega
theorem Agree.lay {A : Nat → Prop} {m m2 : Mm} (h : Agree A m m2) {i v : Nat} (hi : i < m.ws.length) : Agree A (m.lay i v) (m2.lay i v) := by
 refine ⟨by rw [Mm.len_lay, Mm.len_lay]; exact h.len, h.n, fun a ha => ?_⟩
 rw [Mm.at_lay _ hi, Mm.at_lay _ (by rw [h.len]; exact hi), h.at_ a ha]
theorem items_retireM (m : Lm) (tag : Int) (ys : List Int) : (retireM m tag ys).items (bucketOf tag) = (if m.tag (bucketOf tag) < tag then [] else m.items (bucketOf tag)) ++ ys := by
 have hlt : bucketOf tag < 3 := Nat.mod_lt _ (by omega)
 unfold retireM
 generalize bucketOf tag = q at *
 rcases (show q = 0 ∨ q = 1 ∨ q = 2 by omega) with rfl | rfl | rfl <;> rfl
theorem items_all {m : Lm} {k : Nat} {y : Int} (h : y ∈ m.items k) : y ∈ m.all := by
 unfold Lm.all
 unfold Lm.items at h
 split at h
 ·exact List.mem_append_left _ h
 ·exact List.mem_append_right _ (List.mem_append_left _ h)
 ·exact List.mem_append_right _ (List.mem_append_right _ h)
theorem noSlots_pin {x : Cn} {i : Nat} (hi : i < x.w) : NoSlots x (3 + i) := ⟨by omega, .inl (by unfold Cn.slot; omega)⟩
section
variable {x : Cn} {T i : Nat} {m m2 : Mm} {ws : Nat → Sw} {hs : Nat → CH}
theorem GpOk.bd (h : GpOk x T m m2 ws hs) (hi : i < 4) : (ws i).s.xs.length + (ws i).s.lm.size ≤ x.c := by
 obtain ⟨P, hI⟩ := h.i
 have := hI.bounds hi
 omega
theorem GpOk.len (h : GpOk x T m m2 ws hs) : m.ws.length = x.len := by obtain ⟨P, hI⟩ := h.i; exact hI.len
theorem GpOk.len2 (h : GpOk x T m m2 ws hs) : m2.ws.length = x.len := h.ag.len.trans h.len
theorem GpOk.next {m' m2' : Mm} {w : Sw} {h' : CH} (h : GpOk x T m m2 ws hs) (hi : i < 4) (hI : ∃ P, SqI x m' (updG ws i w) P (50 * (T + 1))) (ha : Agree (NoSlots x) m' m2') (hn : m'.n ≤ 50 * (T + 1))
  (h1 : h'.on = true → CwOk x w h'.c ∧ h'.y = some ⟨h'.q, 0, none⟩) (h0 : h'.on = false → w.k = 0) (hl : w.l = []) : GpOk x (T + 1) m' m2' (updG ws i w) (updG hs i h') := by
 refine ⟨hI, ha, hn, fun j hj => ?_, fun j hj => ?_, fun j hj => ?_⟩ <;> by_cases e : j = i
 ·subst e; rw [updG_at, updG_at]; exact h1
 ·rw [updG_ne e, updG_ne e]; exact h.on j hj
 ·subst e; rw [updG_at, updG_at]; exact h0
 ·rw [updG_ne e, updG_ne e]; exact h.off j hj
 ·subst e; rw [updG_at]; exact hl
 ·rw [updG_ne e]; exact h.l j hj
theorem GpOk.col (h : GpOk x T m m2 ws hs) (hx : x.ok) (hT : T ≤ 200) (hi : i < 4) (hon : (hs i).on = true) :
  (colStep x.pool x.w m2 (ws i).s (hs i).c).2 = (colStep x.pool x.w m (ws i).s (hs i).c).2 ∧
  GpOk x (T + 1) (colStep x.pool x.w m (ws i).s (hs i).c).1 (colStep x.pool x.w m2 (ws i).s (hs i).c).1 (updG ws i (colW (ws i) (colStep x.pool x.w m (ws i).s (hs i).c))) (updG hs i { hs i with on := !(colStep x.pool x.w m (ws i).s (hs i).c).2.2.done, c := (colStep x.pool x.w m (ws i).s (hs i).c).2.2 }) ∧
  ((colStep x.pool x.w m (ws i).s (hs i).c).2.2.done = true → (colStep x.pool x.w m (ws i).s (hs i).c).2.2.at_ = 2 ∧ (colStep x.pool x.w m (ws i).s (hs i).c).2.2.g.done = true) := by
 obtain ⟨hc, hy⟩ := h.on i hi hon
 obtain ⟨P, hI⟩ := h.i
 have hlen := hx.len_le
 have hl3 : 3 ≤ x.len := by unfold Cn.len; omega
 have hml := h.len
 have hcn := colStep_n (k := x.pool) (n := x.w) (m := m) (s := (ws i).s) (c := (hs i).c)
 obtain ⟨q1, q2⟩ := colStep_agr (x := x) (s := (ws i).s) (c := (hs i).c) h.ag (hx.pool (by omega) (by omega)) (by omega) noSlots_covers noSlots_two (fun j hj => noSlots_pin hj) hc.ok (fun _ h2 => by
  obtain ⟨k2, g2⟩ := hc.k2 h2
  rw [← g2]
  exact ((hI.wk i hi).gv k2).1) hc.a
 obtain ⟨P', hI', hc', hd'⟩ := hI.col hx (by omega) hi hc
 refine ⟨q1, ?_, hd'⟩
 obtain ⟨R, hR⟩ : ∃ R, colStep x.pool x.w m (ws i).s (hs i).c = R := ⟨_, rfl⟩
 rw [hR] at hI' hc' hd' q2 hcn ⊢
 refine h.next hi ⟨P', hI'.mono (by omega)⟩ q2 (by have := h.n; omega) (fun hb => ?_) (fun hb => ?_) ?_
 ·have hb : (!R.2.2.done) = true := hb
  exact ⟨hc' (by simpa using hb), hy⟩
 ·have hb : (!R.2.2.done) = false := hb
  have hb : R.2.2.done = true := by simpa using hb
  show (colW (ws i) R).k = 0
  unfold colW
  dsimp only
  rw [hb]; rfl
 ·exact h.l i hi
theorem GpOk.cg (h : GpOk x T m m2 ws hs) (hi : i < 4) (hon : (hs i).on = true) (h2 : (hs i).c.at_ = 2) : (hs i).c.g.ok x.pool ∧ (hs i).c.g.l.length ≤ x.c := by
 obtain ⟨hc, _⟩ := h.on i hi hon
 obtain ⟨P, hI⟩ := h.i
 obtain ⟨k2, g2⟩ := hc.k2 h2
 have hl := hI.lenw hi
 unfold Sw.own at hl
 rw [if_pos k2, List.length_append, List.length_append, List.length_append] at hl
 rw [← g2]
 exact ⟨((hI.wk i hi).gv k2).1, by omega⟩
theorem GpOk.gives (h : GpOk x T m m2 ws hs) (hi : i < 4) (hon : (hs i).on = true) (h1 : (hs i).c.at_ = 1) (now : Int) : giveInit x.pool ((ws i).s.ready now).xs = PushS.init ((ws i).s.ready now).xs := by
 obtain ⟨hc, _⟩ := h.on i hi hon
 obtain ⟨P, hI⟩ := h.i
 have h2 := (hI.ready hi (hc.k0 (by omega)) now).give_valid hi ((ws i).s.ready now).xs.length
 rw [updG_at, List.take_length] at h2
 exact h2
theorem GpOk.new (h : GpOk x T m m2 ws hs) (hi : i < 4) (hoff : (hs i).on = false) (p q : Nat) : GpOk x (T + 1) m m2 ws (updG hs i ⟨true, p, q, some ⟨q, 0, none⟩, ColS.init⟩) := by
 obtain ⟨P, hI⟩ := h.i
 have h1 := h.next (w := ws i) (h' := ⟨true, p, q, some ⟨q, 0, none⟩, ColS.init⟩) hi ⟨P, by rw [updG_self]; exact hI.mono (by omega)⟩ h.ag (by have := h.n; omega)
  (fun _ => ⟨⟨rfl, Nat.zero_le _, (fun h2 => by cases h2), fun _ => h.off i hi hoff, AdvS.ok_init, fun _ => rfl, fun _ => rfl⟩, rfl⟩) (fun hb => by cases hb) (h.l i hi)
 rw [updG_self] at h1
 exact h1
theorem GpOk.pin (h : GpOk x T m m2 ws hs) (hx : x.ok) {j v : Nat} (hj : j < x.w) (hv : v < 18446744073709551616) : GpOk x (T + 1) (m.lay (3 + j) v) (m2.lay (3 + j) v) ws hs := by
 obtain ⟨P, hI⟩ := h.i
 have hml := h.len
 have hlt : 3 + j < x.len := by unfold Cn.len; omega
 have hlk : 3 + j < x.link := by unfold Cn.link; omega
 refine ⟨⟨P, (hI.free (m' := m.lay (3 + j) v) (by rw [Mm.len_lay]; exact hml) (Mm.ok_lay hI.ok hv) ?_ (fun z hz => ?_)).mono (by omega)⟩, h.ag.lay (by omega), by have := h.n; show m.n ≤ _; omega, h.on, h.off, h.l⟩
 ·rw [Mm.at_lay _ (by omega), if_neg (by omega)]
 ·rw [Mm.at_lay _ (by omega), if_neg (by omega)]
theorem GpOk.list (h : GpOk x T m m2 ws hs) : listK x.pool m2 = listK x.pool m := by
 obtain ⟨P, hI⟩ := h.i
 have hcv := noSlots_covers (x := x)
 have h2 : Pool x.pool m2 P := hI.pool.congr (h.ag.at_ _ hcv.h) (fun j hj => h.ag.at_ _ (hcv.l j hj))
 rw [list_pool hI.pool, list_pool h2]
theorem GpOk.list_len (h : GpOk x T m m2 ws hs) : (listK x.pool m).length ≤ x.c := by
 obtain ⟨P, hI⟩ := h.i
 rw [list_pool hI.pool]
 exact length_nodup x.c P hI.pool.nd hI.pool.c.mem
theorem GpOk.take (h : GpOk x T m m2 ws hs) (hx : x.ok) (hba : x.ba ≤ 8) (hT : T ≤ 200) (hi : i < 4) (hoff : (hs i).on = false) (hne : listK x.pool m ≠ []) :
  (tkIt x.pool x.ba 40 (m, takeInit x.ba (ws i).s)).2.2.done = true ∧ (tkIt x.pool x.ba 40 (m, takeInit x.ba (ws i).s)).2.2.is_ = true ∧
  (tkIt x.pool x.ba 40 (m, takeInit x.ba (ws i).s)).2.1.xs.length + (tkIt x.pool x.ba 40 (m, takeInit x.ba (ws i).s)).2.1.lm.size + 1 ≤ x.c ∧
  (tkIt x.pool x.ba 40 (m, takeInit x.ba (ws i).s)).2.2.chunk ∉ (tkIt x.pool x.ba 40 (m, takeInit x.ba (ws i).s)).2.1.lm.all ∧
  (tkIt x.pool x.ba 40 (m, takeInit x.ba (ws i).s)).1.ok ∧ (tkIt x.pool x.ba 40 (m, takeInit x.ba (ws i).s)).1.ws.length = x.len ∧
  ∀ m2', Agree (NoSlots x) (tkIt x.pool x.ba 40 (m, takeInit x.ba (ws i).s)).1 m2' →
   (∃ w : Sw, w.s = (tkIt x.pool x.ba 40 (m, takeInit x.ba (ws i).s)).2.1.give [(tkIt x.pool x.ba 40 (m, takeInit x.ba (ws i).s)).2.2.chunk] ∧ w.k = 0 ∧ w.g = (ws i).g ∧ GpOk x (T + 1) (tkIt x.pool x.ba 40 (m, takeInit x.ba (ws i).s)).1 m2' (updG ws i w) hs) ∧
   ∀ tag : Int, ∃ w : Sw, w.s = ⟨(tkIt x.pool x.ba 40 (m, takeInit x.ba (ws i).s)).2.1.most, (tkIt x.pool x.ba 40 (m, takeInit x.ba (ws i).s)).2.1.xs ++ outM (tkIt x.pool x.ba 40 (m, takeInit x.ba (ws i).s)).2.1.lm tag, retireM (tkIt x.pool x.ba 40 (m, takeInit x.ba (ws i).s)).2.1.lm tag [(tkIt x.pool x.ba 40 (m, takeInit x.ba (ws i).s)).2.2.chunk]⟩ ∧ w.k = 0 ∧ w.g = (ws i).g ∧
    GpOk x (T + 1) (tkIt x.pool x.ba 40 (m, takeInit x.ba (ws i).s)).1 m2' (updG ws i w) hs := by
 obtain ⟨P, hI⟩ := h.i
 have hk := h.off i hi hoff
 have hlen := hx.len_le
 have hml := h.len
 rw [list_pool hI.pool] at hne
 obtain ⟨b1, b2, b3, b4, b5, b6, b7⟩ := hx.b
 obtain ⟨hd, his⟩ := take_gets (ba := x.ba) (s := (ws i).s) (hx.pool (n := m.ws.length) (by omega) (by omega)) rfl hI.pool (by omega) (by omega) hne
 obtain ⟨P', hI'⟩ := hI.takes hx hi hk (h.l i hi) 40 (by omega)
 have hn := tkIt_n (k := x.pool) (ba := x.ba) (r := (m, takeInit x.ba (ws i).s)) 40
 obtain ⟨R, hR⟩ : ∃ R, tkIt x.pool x.ba 40 (m, takeInit x.ba (ws i).s) = R := ⟨_, rfl⟩
 rw [hR] at hd his hI' hn ⊢
 have hn : R.1.n ≤ m.n + 40 := hn
 have hn0 := h.n
 have ew : tkW (ws i) R = { ws i with s := R.2.1, l := [R.2.2.chunk], k := 0, t := R.2.2 } := by unfold tkW; rw [hd, his]; rfl
 rw [ew] at hI'
 have hb := hI'.bounds hi
 have ho := hI'.onew hi R.2.2.chunk
 rw [updG_at] at hb ho
 have hself : updG hs i (hs i) = hs := updG_self hs i
 refine ⟨hd, his, hb, fun hmem => ?_, hI'.ok, hI'.len, fun m2' hA => ⟨⟨{ ws i with s := R.2.1.give [R.2.2.chunk], l := [], k := 0, t := R.2.2 }, rfl, rfl, rfl, ?_⟩, fun tag => ⟨{ ws i with s := ⟨R.2.1.most, R.2.1.xs ++ outM R.2.1.lm tag, retireM R.2.1.lm tag [R.2.2.chunk]⟩, l := [], k := 0, t := R.2.2, tag := tag }, rfl, rfl, rfl, ?_⟩⟩⟩
 ·have h1 := List.count_pos_iff.2 hmem
  unfold Sw.own at ho
  dsimp only at ho
  rw [List.count_append, List.count_append, List.count_append, List.count_singleton_self] at ho
  omega
 ·have h1 := hI'.put hi (by rw [updG_at])
  rw [updG_at, updG_two] at h1
  have h2 := h.next (h' := hs i) hi ⟨P', h1.mono (by omega)⟩ hA (by omega) (fun hb => by rw [hoff] at hb; cases hb) (fun _ => rfl) rfl
  rw [hself] at h2
  exact h2
 ·have h1 := hI'.retire hi (by rw [updG_at]) tag
  rw [updG_at, updG_two] at h1
  have h2 := h.next (h' := hs i) hi ⟨P', h1.mono (by omega)⟩ hA (by omega) (fun hb => by rw [hoff] at hb; cases hb) (fun _ => rfl) rfl
  rw [hself] at h2
  exact h2
theorem GpOk.first (hx : x.ok) (hA : Agree (NoSlots x) (poolM x) m2) : GpOk x 0 (poolM x) m2 (fun _ => ⟨SupS.nil x.ca, [], 0, 0, TakeS.none_, PushS.init []⟩) (fun _ => ⟨false, 0, 0, none, ColS.init⟩) := by
 have hlen := hx.len_le
 have hp0 : Pool x.pool (poolM x) (iotaI x.c) := (fill_pool (hx.pool (Nat.le_refl _) hlen) (by rw [zeroM_len])).1
 have hown : ∀ y, (⟨SupS.nil x.ca, [], 0, 0, TakeS.none_, PushS.init []⟩ : Sw).own.count y = 0 := fun y => by
  have : (⟨SupS.nil x.ca, [], 0, 0, TakeS.none_, PushS.init []⟩ : Sw).own = [] := rfl
  rw [this]; rfl
 have h0 : (poolM x).at_ 0 = 1 := by
  unfold poolM fillM
  show (Mm.lay _ 0 1).at_ 0 = 1
  rw [Mm.at_lay _ (by rw [Mm.len_lay, fillUp_len, zeroM_len]; unfold Cn.len; omega), if_pos rfl]
 refine ⟨⟨iotaI x.c, ⟨poolM_len x, poolM_ok hx, hp0, ?_, fun y => ?_, fun y hy => ?_, fun i _ => ⟨?_, ?_, by show 0 ≤ 2; omega, (fun h => by cases h), (fun h => by cases h)⟩⟩⟩, hA, ?_, (fun i _ hb => by cases hb), (fun _ _ _ => rfl), fun _ _ => rfl⟩
 ·show hdT ((poolM x).at_ 0) ≤ 50 * 0 + 10
  rw [h0]; unfold hdT; omega
 ·have h1 := List.nodup_iff_count.1 (iota_nodup x.c) y
  unfold ownE
  rw [hown y]
  exact h1
 ·unfold ownE at hy
  rw [hown y] at hy
  exact iotaI_mem (List.count_pos_iff.1 (by omega))
 ·show (0 : Int) ≤ min (max (x.ca : Int) 0) 64; omega
 ·show min (max (x.ca : Int) 0) 64 ≤ 64; omega
 ·show (poolM x).n ≤ 0
  unfold poolM
  rw [fillM_n]
  exact Nat.le_refl _
end
end Go.Proofs.YtggnbdeokmdjbaaGreat


namespace Go.Proofs.YtggnbdeokmdjbaaGreat
open Go
attribute [local irreducible] Sx Cx Rx Fx Krg Ksq Kbl Klp Kr
def gxv (c : CH) : Value := if c.on then .pointer (some ⟨c.p, 0, none⟩) else .pointer none
def gxs (hs : Nat → CH) : List Value := (List.range 4).map fun j => gxv (hs j)
def gys (hs : Nat → CH) : List Value := (List.range 4).map fun j => .pointer (hs j).y
theorem gxs_get {hs : Nat → CH} {i : Nat} (h : i < 4) : (gxs hs)[0 + (i : Int).toNat * 1]? = some (gxv (hs i)) := by simp [gxs, h]
theorem gys_get {hs : Nat → CH} {i : Nat} (h : i < 4) : (gys hs)[0 + (i : Int).toNat * 1]? = some (.pointer (hs i).y) := by simp [gys, h]
theorem gxs_set {hs : Nat → CH} {i : Nat} {c : CH} (h : i < 4) : (gxs hs).set (0 + (i : Int).toNat * 1) (gxv c) = gxs (updG hs i c) := by
 rcases (show i = 0 ∨ i = 1 ∨ i = 2 ∨ i = 3 by omega) with rfl | rfl | rfl | rfl <;> rfl
theorem gys_set {hs : Nat → CH} {i : Nat} {c : CH} (h : i < 4) : (gys hs).set (0 + (i : Int).toNat * 1) (.pointer c.y) = gys (updG hs i c) := by
 rcases (show i = 0 ∨ i = 1 ∨ i = 2 ∨ i = 3 by omega) with rfl | rfl | rfl | rfl <;> rfl
theorem gxs_blt {hs : Nat → CH} {i : Nat} (h : i < 4) : Nat.blt (0 + (i : Int).toNat * 1) (gxs hs).length = true := by
 rcases (show i = 0 ∨ i = 1 ∨ i = 2 ∨ i = 3 by omega) with rfl | rfl | rfl | rfl <;> rfl
theorem gys_blt {hs : Nat → CH} {i : Nat} (h : i < 4) : Nat.blt (0 + (i : Int).toNat * 1) (gys hs).length = true := by
 rcases (show i = 0 ∨ i = 1 ∨ i = 2 ∨ i = 3 by omega) with rfl | rfl | rfl | rfl <;> rfl
theorem gys_same {hs : Nat → CH} {i : Nat} {c : CH} (h : i < 4) (e : c.y = (hs i).y) : gys (updG hs i c) = gys hs := by
 rw [← gys_set h, e]
 rcases (show i = 0 ∨ i = 1 ∨ i = 2 ∨ i = 3 by omega) with rfl | rfl | rfl | rfl <;> rfl
theorem gxs_same {hs : Nat → CH} {i : Nat} {c : CH} (h : i < 4) (e : gxv c = gxv (hs i)) : gxs (updG hs i c) = gxs hs := by
 rw [← gxs_set h, e]
 rcases (show i = 0 ∨ i = 1 ∨ i = 2 ∨ i = 3 by omega) with rfl | rfl | rfl | rfl <;> rfl
section
variable {L F G : St}
def gpR (n : Gn) (x : Cn) (q : Who) (h : CH) : St :=
 pt (some ⟨q.pb, 0, none⟩) (SkO n.mp x.pool) :: (if h.on then [pt (some ⟨h.p, 0, none⟩) (ColO n.g q.u n.e q.pb x h.c), pt (some ⟨h.q, 0, none⟩) (RColO q.s n.re n.rp x.w h.c)] else [])
def gpW (n : Gn) (x : Cn) (q : Who) (w : Sw) (h : CH) : St := s4W n x q w.s (gpR n x q h)
theorem gpW_on {n : Gn} {x : Cn} {q : Who} {w : Sw} {h : CH} (e : h.on = true) : gpW n x q w h =
  [pt (some ⟨q.u, 0, none⟩) (SupO n.mp q.pb x w.s), pt (some ⟨q.s, 0, none⟩) (RSupO n.w w.s), pt (some ⟨q.pb, 0, none⟩) (SkO n.mp x.pool), pt (some ⟨h.p, 0, none⟩) (ColO n.g q.u n.e q.pb x h.c), pt (some ⟨h.q, 0, none⟩) (RColO q.s n.re n.rp x.w h.c)] := by
 unfold gpW s4W gpR; rw [if_pos e]
theorem gpW_off {n : Gn} {x : Cn} {q : Who} {w : Sw} {h : CH} (e : h.on = false) : gpW n x q w h =
  [pt (some ⟨q.u, 0, none⟩) (SupO n.mp q.pb x w.s), pt (some ⟨q.s, 0, none⟩) (RSupO n.w w.s), pt (some ⟨q.pb, 0, none⟩) (SkO n.mp x.pool)] := by
 unfold gpW s4W gpR; rw [if_neg (by rw [e]; simp)]
abbrev gpH (x : Cn) (n : Gn) (r r2 c c2 xb yb : Nat) (Q : Nat → Who) (m m2 : Mm) (hs : Nat → CH) : St :=
 [pt (some ⟨n.a, 0, none⟩) (Blk 64 (gaV x n (some ⟨r, 0, none⟩) (some ⟨r2, 0, none⟩) x.w c c2)), pt (some ⟨r, 0, none⟩) (Row 74 1 x.w c (ptrs x.w fun i => (Q i).u)), pt (some ⟨r2, 0, none⟩) (Row 69 1 x.w c2 (ptrs x.w fun i => (Q i).s)),
 pt (some ⟨n.mp, 0, none⟩) (MemO m), pt (some ⟨n.w, 0, none⟩) (RWO x n.rm n.rp n.rs n.re), pt (some ⟨n.rm, 0, none⟩) (RMemO m2), pt (some ⟨n.rp, 0, none⟩) (RSkO n.rm x.pool), pt (some ⟨n.re, 0, none⟩) (REpO x n.rm),
 pt (some ⟨n.pb, 0, none⟩) (SkO n.mp x.pool), pt (some ⟨n.g, 0, none⟩) (GaO n.mp n.e), pt (some ⟨n.e, 0, none⟩) (EpO n.mp x),
 pt (some ⟨xb, 0, none⟩) (Blk 66 (gxs hs)), pt (some ⟨yb, 0, none⟩) (Blk 68 (gys hs))]
abbrev gpF (x : Cn) (n : Gn) (r r2 c c2 xb yb : Nat) (Q : Nat → Who) (m m2 : Mm) (ws : Nat → Sw) (hs : Nat → CH) (G : St) : St :=
 pt (some ⟨n.a, 0, none⟩) (Blk 64 (gaV x n (some ⟨r, 0, none⟩) (some ⟨r2, 0, none⟩) x.w c c2)) :: pt (some ⟨r, 0, none⟩) (Row 74 1 x.w c (ptrs x.w fun i => (Q i).u)) :: pt (some ⟨r2, 0, none⟩) (Row 69 1 x.w c2 (ptrs x.w fun i => (Q i).s)) ::
 pt (some ⟨n.mp, 0, none⟩) (MemO m) :: pt (some ⟨n.w, 0, none⟩) (RWO x n.rm n.rp n.rs n.re) :: pt (some ⟨n.rm, 0, none⟩) (RMemO m2) :: pt (some ⟨n.rp, 0, none⟩) (RSkO n.rm x.pool) :: pt (some ⟨n.re, 0, none⟩) (REpO x n.rm) ::
 pt (some ⟨n.pb, 0, none⟩) (SkO n.mp x.pool) :: pt (some ⟨n.g, 0, none⟩) (GaO n.mp n.e) :: pt (some ⟨n.e, 0, none⟩) (EpO n.mp x) ::
 pt (some ⟨xb, 0, none⟩) (Blk 66 (gxs hs)) :: pt (some ⟨yb, 0, none⟩) (Blk 68 (gys hs)) :: (many x.w (fun i => gpW n x (Q i) (ws i) (hs i)) ++ G)
abbrev gpZ (n : Gn) (x : Cn) (Q : Nat → Who) (ws : Nat → Sw) (hs : Nat → CH) (i : Nat) (G : St) : St := many x.w (updS (fun i => gpW n x (Q i) (ws i) (hs i)) i []) ++ G
theorem gp_in {x : Cn} {n : Gn} {r r2 c c2 xb yb : Nat} {Q : Nat → Who} {m m2 : Mm} {ws : Nat → Sw} {hs : Nat → CH} {i : Nat} (hi : i < x.w) :
  Ent (gpF x n r r2 c c2 xb yb Q m m2 ws hs G) (gpW n x (Q i) (ws i) (hs i) ++ (gpH x n r r2 c c2 xb yb Q m m2 hs ++ gpZ n x Q ws hs i G)) :=
 Ent.ith (f := fun i => gpW n x (Q i) (ws i) (hs i)) i hi
theorem gp_fin {x : Cn} {n : Gn} {r r2 c c2 xb yb : Nat} {Q : Nat → Who} {m m2 : Mm} {ws : Nat → Sw} {hs : Nat → CH} {i : Nat} {w : Sw} {h : CH} (hi : i < x.w) :
  Ent (gpW n x (Q i) w h ++ (gpH x n r r2 c c2 xb yb Q m m2 (updG hs i h) ++ gpZ n x Q ws hs i G)) (gpF x n r r2 c c2 xb yb Q m m2 (updG ws i w) (updG hs i h) G) := by
 refine Ent.trans (Ent.deep (N := gpW n x (Q i) w h) (M := gpH x n r r2 c c2 xb yb Q m m2 (updG hs i h))) (Ent.app (X := gpH x n r r2 c c2 xb yb Q m m2 (updG hs i h)) ?_)
 refine Ent.trans (Ent.oneBack hi) ?_
 have e : updS (fun i => gpW n x (Q i) (ws i) (hs i)) i (gpW n x (Q i) w h) = fun j => gpW n x (Q j) (updG ws i w j) (updG hs i h j) := by
  funext j
  unfold updS updG
  by_cases h : j = i
  ·subst h; simp
  ·simp [h]
 rw [e]
 exact Ent.refl _
theorem gpSame {x : Cn} {n : Gn} {r r2 c c2 xb yb : Nat} {Q : Nat → Who} {m m2 : Mm} {ws : Nat → Sw} {hs : Nat → CH} {T : Nat} (hx : x.ok) (hw4 : x.w ≤ 4) (hT : T ≤ 1000) (h : GpOk x T m m2 ws hs) :
  Fx Tryz.prog 36 [.pointer (some ⟨n.a, 0, none⟩)] (gpF x n r r2 c c2 xb yb Q m m2 ws hs G) (fun v L' => v = .bool true ∧ L' = gpF x n r r2 c c2 xb yb Q m m2 ws hs G) := by
 obtain ⟨b1, b2, b3, b4, b5, b6, b7⟩ := hx.b
 have e : (fun i => s4W n x (Q i) ((fun i => (ws i).s) i) ((fun i => gpR n x (Q i) (hs i)) i)) = fun i => gpW n x (Q i) (ws i) (hs i) := rfl
 let M : St := [pt (some ⟨n.rp, 0, none⟩) (RSkO n.rm x.pool), pt (some ⟨n.re, 0, none⟩) (REpO x n.rm), pt (some ⟨n.pb, 0, none⟩) (SkO n.mp x.pool), pt (some ⟨n.g, 0, none⟩) (GaO n.mp n.e), pt (some ⟨n.e, 0, none⟩) (EpO n.mp x),
  pt (some ⟨xb, 0, none⟩) (Blk 66 (gxs hs)), pt (some ⟨yb, 0, none⟩) (Blk 68 (gys hs))]
 refine Fx.iso3 ?_ ?_ (same17 (x := x) (n := n) (r := r) (r2 := r2) (c := c) (c2 := c2) (Q := Q) (S := fun i => (ws i).s) (R := fun i => gpR n x (Q i) (hs i)) (m := m) (m2 := m2)
  (G := M ++ G) hx h.len h.ag (by have := h.n; omega) (fun i hi => by have := h.bd (i := i) (by omega); omega) (fun i hi => by have := h.bd (i := i) (by omega); omega))
 ·dsimp only [gpF, s4F] at e ⊢
  rw [e]
  iterate 6 (refine Ent.cons ?_)
  show Ent (M ++ ((many x.w fun i => gpW n x (Q i) (ws i) (hs i)) ++ G)) _
  exact Ent.deep
 ·dsimp only [gpF, s4F] at e ⊢
  rw [e]
  iterate 6 (refine Ent.cons ?_)
  exact Ent.deep (M := M)
end
end Go.Proofs.YtggnbdeokmdjbaaGreat


namespace Go.Proofs.YtggnbdeokmdjbaaGreat
open Go
attribute [local irreducible] Sx Cx Rx Fx Krg Ksq Kbl Klp Kr
section
variable {L F G : St}
end
end Go.Proofs.YtggnbdeokmdjbaaGreat


namespace Go.Proofs.YtggnbdeokmdjbaaGreat
open Go
attribute [local irreducible] Sx Cx Rx Fx Krg Ksq Kbl Klp Kr
section
variable {L F G : St}
end
end Go.Proofs.YtggnbdeokmdjbaaGreat


namespace Go.Proofs.YtggnbdeokmdjbaaGreat
open Go
attribute [local irreducible] Sx Cx Rx Fx Krg Ksq Kbl Klp Kr
section
variable {L F G : St}
end
end Go.Proofs.YtggnbdeokmdjbaaGreat


namespace Go.Proofs.YtggnbdeokmdjbaaGreat
open Go
attribute [local irreducible] Sx Cx Rx Fx Krg Ksq Kbl Klp Kr
section
variable {L F G : St}
end
end Go.Proofs.YtggnbdeokmdjbaaGreat


namespace Go.Proofs.YtggnbdeokmdjbaaGreat
open Go
attribute [local irreducible] Sx Cx Rx Fx Krg Ksq Kbl Klp Kr
section
variable {L F G : St}
end
end Go.Proofs.YtggnbdeokmdjbaaGreat


namespace Go.Proofs.YtggnbdeokmdjbaaGreat
open Go
attribute [local irreducible] Sx Cx Rx Fx Krg Ksq Kbl Klp Kr
section
variable {L F G : St}
set_option maxHeartbeats 1000000 in
theorem refStackList {sb rm : Nat} {k : Sk} {m : Mm} (hk : k.ok m.ws.length) [t : Take L (some ⟨rm, 0, none⟩) (RMemO m) F] [s : Take F (some ⟨sb, 0, none⟩) (RSkO rm k) G] :
  Fx Tryz.prog 14 [.pointer (some ⟨sb, 0, none⟩)] L (fun v L' => ∃ ro co, v = .slice ro (listK k m).length co ∧ L' = pt ro (Row 3 1 (listK k m).length co (ints (listK k m))) :: L) := by
 obtain ⟨k1, k2, k3, k4, k5, k6⟩ := hk
 refine Fx.mk Tryz.func14 k14 nb_ ?_
 dsimp only [c14, kG, kS, kH, kM, kN, kF, kL, envOf, Nat.reduceAdd]
 refine Cx.ent (Ent.trans (Ent.of t.out) (Ent.cons (Ent.of s.out))) ?_
 refine Cx.openp (a := some ⟨rm, 0, none⟩) rfl ?_
 rintro ⟨r0, c0⟩
 simp only [rmemL, List.cons_append, List.nil_append]
 refine Cx.liftp fun hm => ?_
 refine Cx.rowkey (a := r0) fun hx0 hn0 _ hk1 => ?_
 obtain ⟨rg, rfl⟩ := row_some k3 (hk1.imp (fun h => ⟨h.1, h.2.1, h.2.2⟩) id)
 have hlt := Mm.at_lt hm.1 k.head
 have hback : ∀ {M : St}, Ent (pt (some ⟨rm, 0, none⟩) (Blk 94 [.slice (some ⟨rg, 0, none⟩) m.ws.length c0, .int .i64 (IntKind.i64.wrap (m.n : Int))]) :: pt (some ⟨rg, 0, none⟩) (Row 89 1 m.ws.length c0 (us m.ws)) :: pt (some ⟨sb, 0, none⟩) (RSkO rm k) :: G) L := fun {M} =>
  Ent.trans (Ent.trans (RMemO.close (T := 94) (a := some ⟨rm, 0, none⟩) (r := some ⟨rg, 0, none⟩) m hm rfl rfl rfl) (Ent.cons (Ent.of s.back))) (Ent.of t.back)
 refine go ?_
 refine Cx.ordc rfl kr_ ?_
 refine ge ?_
 refine Ev.ldrH (b := rg) kr_ rfl rfl (show (us m.ws)[0 + (k.head : Int).toNat * 1]? = some (wd (m.at_ k.head)) by rw [show 0 + (k.head : Int).toNat * 1 = k.head by omega]; exact us_get (Mm.get k3)) ?_
 refine ge ?_
 refine Ev.cakH kr_ rfl rfl (refTop (sb := sb) (rm := rm) (k := k) (m.at_ k.head) hlt) ?_
 refine ge ?_
 refine go ?_
 refine Cx.lp (α := {p : (List Int × Int) × (Option Addr × Nat) // p.1.1.length ≤ k.n ∧ -1 ≤ p.1.2 ∧ p.1.2 < k.n ∧ p.1.1 ++ walkL k m (k.n - p.1.1.length) p.1.2 = listK k m})
  (fun p => [(0, .pointer (some ⟨sb, 0, none⟩)), (3, .slice p.1.2.1 p.1.1.1.length p.1.2.2), (4, .int .i64 p.1.1.2)])
  (fun p => pt p.1.2.1 (Row 3 1 p.1.1.1.length p.1.2.2 (ints p.1.1.1)) :: pt (some ⟨rm, 0, none⟩) (Blk 94 [.slice (some ⟨rg, 0, none⟩) m.ws.length c0, .int .i64 (IntKind.i64.wrap (m.n : Int))]) :: pt (some ⟨rg, 0, none⟩) (Row 89 1 m.ws.length c0 (us m.ws)) :: pt (some ⟨sb, 0, none⟩) (RSkO rm k) :: G)
  (fun p => k.n - p.1.1.1.length) ⟨(([], k.top (m.at_ k.head)), (none, 0)), by simp, k.top_ge _, k.top_lt _, by simp [listK]⟩ (sub.cons rfl (sub.cons rfl (sub.cons rfl sub.nil))) (Ent.rownil 3 1) ?_
 rintro ⟨⟨⟨out, i⟩, ⟨r, c⟩⟩, hol, hi1, hi2, he⟩
 dsimp only at hol hi1 hi2 he ⊢
 have fin : (i < 0 ∨ k.n ≤ out.length) → out = listK k m := by
  intro h
  rw [← he]
  rcases h with h | h
  ·cases hf : k.n - out.length with
   | zero => simp [walkL]
   | succ f => simp [walkL, show ¬ 0 ≤ i by omega]
  ·rw [show k.n - out.length = 0 by omega]; simp [walkL]
 refine go ?_
 refine Sx.ifp rfl (fun h => ?_) (fun h => ?_)
 ·refine go ?_
  refine Cx.ifp rfl (fun h2 => ?_) (fun h2 => ?_)
  ·obtain ⟨x, rfl⟩ : ∃ x : Nat, i = x := ⟨i.toNat, by omega⟩
   have hlx := Mm.at_lt hm.1 (k.links + x)
   have hbl := k.below_lt (m.at_ (k.links + x))
   have hbg := k.below_ge (m.at_ (k.links + x))
   refine go ?_
   refine Sx.bs (sz := 1) rfl rfl fun g => ?_
   refine Sx.ap (ra := r) rfl rfl (Rd.row (b := g) (E := 3) (cap := 1) rfl) rfl (by simp [maxLen]; omega) (by omega) fun ra ca hc => ?_
   refine go ?_
   refine Cx.ordu rfl rfl kr_ kr_ ?_
   refine ge ?_
   rw [w64 (n := (k.links : Int) + x) (by omega) (by omega), show (k.links : Int) + x = ((k.links + x : Nat) : Int) by omega]
   refine ge ?_
   refine Ev.ldrH (b := rg) kr_ rfl rfl (show (us m.ws)[0 + ((k.links + x : Nat) : Int).toNat * 1]? = some (wd (m.at_ (k.links + x))) by rw [show 0 + ((k.links + x : Nat) : Int).toNat * 1 = k.links + x by omega]; exact us_get (Mm.get (by omega))) ?_
   refine ge ?_
   refine Ev.cakH kr_ rfl rfl (refBelow (sb := sb) (rm := rm) (k := k) (m.at_ (k.links + x)) hlx k2) ?_
   refine ge ?_
   refine go ?_
   refine Klp.nm ⟨((out ++ [(x : Int)], k.below (m.at_ (k.links + x))), (ra, ca)), by simp; omega, hbg, hbl, ?_⟩ (sub.cons rfl (sub.cons (by simp; rfl) (sub.cons rfl sub.nil))) ?_ (by simp; omega)
   ·dsimp only
    rw [← he, show k.n - out.length = (k.n - (out ++ [(x : Int)]).length) + 1 by simp; omega]
    simp only [walkL, if_pos h, List.append_assoc, List.cons_append, List.nil_append, Int.toNat_natCast]
   ·simp only [List.length_append, List.length_singleton, ints_append]
    exact ent
  ·refine go ?_
   have hf := fin (.inr (by omega))
   subst hf
   exact Kr.one (.inr rfl) rfl (Ent.cons (hback (M := []))) ⟨r, c, rfl, rfl⟩
 ·refine go ?_
  have hf := fin (.inl (by omega))
  subst hf
  exact Kr.one (.inr rfl) rfl (Ent.cons (hback (M := []))) ⟨r, c, rfl, rfl⟩
end
end Go.Proofs.YtggnbdeokmdjbaaGreat


namespace Go.Proofs.YtggnbdeokmdjbaaGreat
open Go Go.RowKit Go.ChangeShapes Go.WideShapes
def In (w : World) (sz : Nat) (v : Value) (n : Nat) (vs : List Value) : Prop :=
 vs.length = n * sz ∧ n ≤ maxLen ∧ ∃ a c, v = .slice a n c ∧ (n = 0 ∨ ∃ b o, a = some ⟨b, o, none⟩ ∧ ∀ j u, vs[j]? = some u → w.cell? ⟨b, o + j, none⟩ = some u)
theorem addr_add (b o i : Nat) : (⟨b, o, none⟩ : Addr).add i = ⟨b, o + i, none⟩ := by
 unfold Addr.add; split <;> simp_all
theorem In.rd {w : World} {sz n : Nat} {v : Value} {vs : List Value} (h : In w sz v n vs) : n ≤ maxLen ∧ ∃ a c, v = .slice a n c ∧ ∀ L : St, Ent L [Old w] → Rd L sz a n vs := by
 obtain ⟨h1, h2, a, c, rfl, h3⟩ := h
 refine ⟨h2, a, c, rfl, fun L hL => ⟨h1, h3.imp id ?_⟩⟩
 rintro ⟨b, o, rfl, hc⟩
 exact ⟨b, o, rfl, Has.old hL hc⟩
theorem flat_get {sz : Nat} (hp : 0 < sz) : ∀ (rows : List (List Value)) (h : ∀ r ∈ rows, r.length = sz) (j : Nat), rows.flatten[j]? = (rows[j / sz]?).bind (·[j % sz]?)
 | [], _, j => by simp
 | r :: l, h, j => by
   have hr : r.length = sz := h r (by simp)
   have ih := flat_get hp l (fun x hx => h x (by simp [hx]))
   by_cases hj : j < sz
   ·rw [List.flatten_cons, List.getElem?_append_left (by omega), Nat.div_eq_of_lt hj, Nat.mod_eq_of_lt hj]
    simp
   ·rw [List.flatten_cons, List.getElem?_append_right (by omega), hr, ih]
    obtain ⟨q, rfl⟩ : ∃ q, j = q + sz := ⟨j - sz, by omega⟩
    rw [Nat.add_sub_cancel, Nat.add_mod_right, Nat.add_div_right q hp]
    simp
theorem flat_length {sz : Nat} : ∀ (rows : List (List Value)) (h : ∀ r ∈ rows, r.length = sz), rows.flatten.length = rows.length * sz
 | [], _ => by simp
 | r :: l, h => by
   have hr : r.length = sz := h r (by simp)
   have ih := flat_length l (fun x hx => h x (by simp [hx]))
   rw [List.flatten_cons, List.length_append, ih, hr, List.length_cons, Nat.add_mul]; omega
section
variable {H : Type} {enc : TypeId × Value → H} {P : Program} {w : World} {base : Nat} {held : Bool}
theorem In.rows {t e : TypeId} {sz fuel : Nat} {v : Value} {x : DataW H × List MemPlace} (ht : P.underlying t = some (.slice e)) (hs : P.cellsOf e = sz) (hp : 0 < sz)
  (h : DataW.trod enc P w base (fun _ => true) held fuel t [v] = some x) :
  ∃ rows : List (List Value), In w sz v rows.length rows.flatten ∧ ∀ r ∈ rows, r.length = sz ∧ ∃ n y, DataW.trod enc P w base (fun _ => true) held n e r = some y := by
 rcases Deep.open_slice ht h with ⟨h0, _⟩ | ⟨a, len, cap, m, n, D, Pl, h0, hb, hl, hm, hmm, rfl, hx⟩
 ·simp only [List.cons.injEq, and_true] at h0
  subst h0
  exact ⟨[], ⟨by simp, by simp, none, 0, rfl, .inl rfl⟩, by simp⟩
 ·simp only [List.cons.injEq, and_true] at h0
  subst h0
  simp only [if_true] at hmm
  subst hmm
  rw [hs] at hx
  obtain ⟨V, hV⟩ := Deep.choose_lt (α := List Value) (p := fun i cs' => w.cells? base (a.add (i * sz)) sz = some cs' ∧ DataW.trod enc P w base (fun _ => true) held n e cs' = some (D i, Pl i)) hx
  have hlen : ∀ i, i < m → (V i).length = sz := fun i hi => (World.cells?_some (hV i hi).1).2.1
  refine ⟨(List.range len).map V, ⟨?_, ?_, some a, m, by simp, ?_⟩, ?_⟩
  ·rw [flat_length _ (by simp only [List.mem_map, List.mem_range]; rintro r ⟨i, hi, rfl⟩; exact hlen i (by omega))]
  ·simp; omega
  ·rcases Nat.eq_zero_or_pos len with h0 | h0
   ·left; simpa using h0
   ·right
    obtain ⟨b, o, spot⟩ := a
    have hc0 := (World.cells?_some (hV 0 (by omega)).1).2.2 0 hp
    rw [List.getElem?_eq_getElem (by rw [hlen 0 (by omega)]; exact hp)] at hc0
    have hspot : spot = none := by simpa [Addr.add] using World.cell?_spot hc0
    subst hspot
    refine ⟨b, o, rfl, fun j u hu => ?_⟩
    rw [flat_get hp _ (by simp only [List.mem_map, List.mem_range]; rintro r ⟨i, hi, rfl⟩; exact hlen i (by omega))] at hu
    obtain ⟨r, hr, hj⟩ := Option.bind_eq_some_iff.1 hu
    rw [List.getElem?_map] at hr
    obtain ⟨i, hi, rfl⟩ := Option.map_eq_some_iff.1 hr
    have hi' : j / sz < len := by have := (List.getElem?_eq_some_iff.1 hi).1; simpa using this
    have hij : i = j / sz := by simpa [hi'] using hi.symm
    subst hij
    have hc := (World.cells?_some (hV (j / sz) (by omega)).1).2.2 (j % sz) (Nat.mod_lt _ hp)
    rw [hj] at hc
    have he : o + j = o + j / sz * sz + j % sz := by have := Nat.div_add_mod j sz; rw [Nat.mul_comm] at this; omega
    rw [he]
    rwa [addr_add, addr_add] at hc
  ·simp only [List.mem_map, List.mem_range]
   rintro r ⟨i, hi, rfl⟩
   exact ⟨hlen i (by omega), n, _, (hV i (by omega)).2⟩
theorem In.ones {t e : TypeId} {fuel : Nat} {v : Value} {x : DataW H × List MemPlace} (ht : P.underlying t = some (.slice e)) (hs : P.cellsOf e = 1)
  (h : DataW.trod enc P w base (fun _ => true) held fuel t [v] = some x) :
  ∃ us : List Value, In w 1 v us.length us ∧ ∀ u ∈ us, ∃ n y, DataW.trod enc P w base (fun _ => true) held n e [u] = some y := by
 obtain ⟨rows, h1, h2⟩ := In.rows ht hs (by omega) h
 have key : ∀ rows : List (List Value), (∀ r ∈ rows, r.length = 1 ∧ ∃ n y, DataW.trod enc P w base (fun _ => true) held n e r = some y) → ∀ u ∈ rows.flatten, ∃ n y, DataW.trod enc P w base (fun _ => true) held n e [u] = some y := by
  intro rows h2 u hu
  obtain ⟨r, hr, hur⟩ := List.mem_flatten.1 hu
  obtain ⟨hl, n, y, hy⟩ := h2 r hr
  match r, hl with
  | [z], _ =>
    simp only [List.mem_singleton] at hur
    subst hur
    exact ⟨n, y, hy⟩
 refine ⟨rows.flatten, ?_, key rows h2⟩
 rw [flat_length rows (fun r hr => (h2 r hr).1), Nat.mul_one]
 exact h1
theorem In.ints {t e : TypeId} {k : IntKind} {fuel : Nat} {v : Value} {x : DataW H × List MemPlace} (ht : P.underlying t = some (.slice e)) (he : P.underlying e = some (.int k)) (hs : P.cellsOf e = 1)
  (h : DataW.trod enc P w base (fun _ => true) held fuel t [v] = some x) : ∃ xs : List Int, In w 1 v xs.length (xs.map (Value.int k)) ∧ ∀ x ∈ xs, (Lit.int k x).wf = true := by
 obtain ⟨us, h1, h2⟩ := In.ones ht hs h
 obtain ⟨xs, rfl, hx⟩ : ∃ xs : List Int, us = xs.map (Value.int k) ∧ ∀ x ∈ xs, (Lit.int k x).wf = true := by
  clear h1 h
  induction us with
  | nil => exact ⟨[], rfl, by simp⟩
  | cons u l ih =>
    obtain ⟨xs, rfl, hx⟩ := ih (fun z hz => h2 z (by simp [hz]))
    obtain ⟨n, y, hy⟩ := h2 u (by simp)
    obtain ⟨z, h3, _, h5⟩ := DataW.trod_int he hy
    simp only [List.cons.injEq, and_true] at h3
    subst h3
    refine ⟨z :: xs, rfl, ?_⟩
    simp only [List.mem_cons, forall_eq_or_imp]
    exact ⟨h5, hx⟩
 exact ⟨xs, by simpa using h1, hx⟩
end
end Go.Proofs.YtggnbdeokmdjbaaGreat


namespace Go.Proofs.YtggnbdeokmdjbaaGreat
open Go
attribute [local irreducible] Sx Cx Rx Fx Krg Ksq Kbl Klp Kr
theorem many_ent3 {n : Nat} {f g : Nat → St} (h : ∀ i, i < n → ∀ G, Ent (f i ++ G) (g i ++ G)) : ∀ {G : St}, Ent (many n f ++ G) (many n g ++ G) := by
 induction n with
 | zero => intro G; exact Ent.refl _
 | succ n ih =>
   intro G
   rw [many_succ, many_succ, List.append_assoc, List.append_assoc]
   exact Ent.trans (ih fun i hi => h i (by omega)) (Ent.app (h n (by omega) G))
section
variable {L F G : St}
theorem Rd.at3 {a : Option Addr} {n i : Nat} {vs : List Value} {v : Value} (h : Rd L 1 a n vs) (hv : vs[i]? = some v) : ∃ b o, a = some ⟨b, o, none⟩ ∧ Has L b (o + i) [v] := by
 obtain ⟨h1, h0 | ⟨b, o, rfl, h2⟩⟩ := h
 ·have := (List.getElem?_eq_some_iff.1 hv).1; omega
 ·exact ⟨b, o, rfl, h2.at_ hv⟩
end
end Go.Proofs.YtggnbdeokmdjbaaGreat


namespace Go.Proofs.YtggnbdeokmdjbaaGreat
structure CP (x : Cn) (s : SupS) (m : Mm) (lp ys : List Int) : Prop where
 most : s.most = (SupS.nil x.ca).most
 lm : s.lm = Lm.nil
 len : m.ws.length = x.len
 ok : m.ok
 pool : Pool x.pool m lp
 perm : (ys ++ (s.xs ++ lp)).Perm (iotaI x.c)
 at_ : ∀ a, a ≠ 0 → a < x.link → m.at_ a = 0
end Go.Proofs.YtggnbdeokmdjbaaGreat


namespace Go.Proofs.YtggnbdeokmdjbaaGreat
open Go
attribute [local irreducible] Sx Cx Rx Fx Krg Ksq Kbl Klp Kr
section
variable {L F G : St}
end
end Go.Proofs.YtggnbdeokmdjbaaGreat


namespace Go.Proofs.YtggnbdeokmdjbaaGreat
def upd (f : Nat → List Int) (i : Nat) (s : List Int) : Nat → List Int := fun j => if j = i then s else f j
end Go.Proofs.YtggnbdeokmdjbaaGreat


namespace Go.Proofs.YtggnbdeokmdjbaaGreat
open Go
attribute [local irreducible] Sx Cx Rx Fx Krg Ksq Kbl Klp Kr
section
variable {L F G : St}
end
end Go.Proofs.YtggnbdeokmdjbaaGreat


namespace Go.Proofs.YtggnbdeokmdjbaaGreat
open Go
section
variable {P : Program} {N : Nat} {rem : List It} {sl : List Nat} {Φ : St → Prop} {e : En} {K : En → St → Prop} {L F : St}
theorem Rx.ldKon {x : It} {d : Option Nat} {y : X} {n b off t : Nat} {bb g : Bool} {vs : List Value} {v : Value} (j : Nat) (hx : rem[j]? = some x) (hg : x.g = ⟨d, some (t, bb), .ld y n g⟩) (hb : e.get t = some (.bool bb)) (hy : y.get e = some (.pointer (some ⟨b, off, none⟩))) (hh : Has L b off vs) (hv : ldv n g vs = some v)
  (hs : (without rem x.i).all (sepB x) = true) (hself : selfB x = true) (k : Rx P N (without rem x.i) sl (fun M => Φ M ∧ Has M b off vs) (e.put d v) K L) : Rx P N rem sl Φ e K L := by
 have hd : x.g.d = d := by rw [hg]
 rw [← hd] at k
 refine Rx.eagerG (List.mem_of_getElem? hx) hs (selfB_iff hself) ?_ (fun i M _ h => h.imp id fun h => ⟨h.1, h.2.1⟩) (fun h => ⟨h, hh⟩) k
 intro ops all o a w0 w M A hax hox ok hM st
 obtain ⟨_, o', ho', hc, _⟩ := A.it _ _ hax
 rw [hox] at ho'; cases ho'
 have hs' := (cG_inv hc).1
 have hgg := (cG_inv hc).2.2.2
 rw [hg] at hs' hgg
 obtain ⟨t0, z, ho, rfl, hag, hn⟩ := cS_ld hs'
 have hhM : Has M b off vs := by
  rcases hM with ⟨_, rfl⟩ | ⟨_, h⟩
  ·exact hh
  ·exact h.2
 refine .inl ⟨?_, ld_run ho hag hn (ok.eval hy) (hhM w0 w st) hv⟩
 rcases hgg with ⟨_, h1⟩ | ⟨j, want, q, t', hgo, hq, ht, h2⟩
 ·cases h1
 ·simp only [Option.some.injEq, Prod.mk.injEq] at h2
  obtain ⟨rfl, rfl⟩ := h2
  have hy := yielded_of hq ht (ok.get _ _ hb)
  simp [Region.wanted, hgo, hy, boolOf]
end
end Go.Proofs.YtggnbdeokmdjbaaGreat


namespace Go.Proofs.YtggnbdeokmdjbaaGreat
open Go
attribute [local irreducible] Sx Cx Rx Fx Krg Ksq Kbl Klp Kr
section
variable {L F G : St}
set_option maxRecDepth 100000 in
set_option maxHeartbeats 16000000 in
theorem gatherPlays {w : World} {v : Value} {xs : List Int} (n : Int) (hv : In w 1 v xs.length (ints xs)) : Fx Tryz.prog 4 [.int .i64 n, v] [Old w] (fun v L' => v = .bool true ∧ Ent L' [Old w]) := by
 obtain ⟨hn, sa, scp, rfl, hRd⟩ := hv.rd
 have hmx : maxLen = 9223372036854775807 := rfl
 refine Fx.mk Tryz.func4 k4 nb_ ?_
 dsimp only [c4, kG, kS, kH, kM, kN, kF, kL, envOf, Nat.reduceAdd]
 refine go ?_
 refine Sx.ca rfl gaFirst ?_
 rintro v L' ⟨rfl, rfl⟩
 refine go ?_
 refine Cx.ifp rfl (fun h => ?_) (fun hlen2 => ?_)
 ·refine go ?_
  exact Kr.one (.inr rfl) rfl (Ent.refl _) ⟨rfl, Ent.refl _⟩
 refine go ?_
 refine Sx.ca rfl (config_ n) ?_
 rintro v L' ⟨⟨w', c, wd, sl, ca, ba, rfl, hsm⟩, rfl⟩
 obtain ⟨x, hxv, hx, hca, hc8, hba, hw4⟩ := small_cfg hsm
 rw [hxv]
 clear hxv hsm
 clear w' c wd sl ca ba
 obtain ⟨b1, b2, b3, b4, b5, b6, b7⟩ := hx.b
 have hxl := hx.len_le
 have hx3 : 3 + x.w ≤ x.len := by unfold Cn.len; omega
 refine go ?_
 refine Sx.ca rfl (gaMade hx) ?_
 rintro v L' ⟨nn, r, r2, c, c2, Q, rfl, rfl⟩
 refine go ?_
 refine Sx.al fun xb => ?_
 refine go ?_
 refine Sx.al fun yb => ?_
 have hA0 : Agree (NoSlots x) (poolM x) (fillM x.spare (poolM x)) := by
  have hsp := hx.spare (n := (poolM x).ws.length) (by rw [poolM_len]; exact Nat.le_refl _) (by rw [poolM_len]; exact hxl)
  refine ⟨fillM_len _ _, fillM_n _ _, fun a ha => ?_⟩
  refine (fill_pool hsp rfl).2 a ha.1 fun j hj => ?_
  have hj' : j < x.sl := hj
  rcases ha.2 with h | h
  ·show a ≠ x.slot + j; omega
  ·show a ≠ x.slot + j; omega
 refine go ?_
 refine Cx.lp (α := {p : Nat × Mm × Mm × (Nat → Sw) × (Nat → CH) // p.1 ≤ xs.length ∧ GpOk x p.1 p.2.1 p.2.2.1 p.2.2.2.1 p.2.2.2.2})
  (fun p => [(1, .slice sa xs.length scp), (5, .bool true), (6, .pointer (some ⟨nn.a, 0, none⟩)), (7, .int .i64 x.w), (8, .pointer (some ⟨xb, 0, none⟩)), (9, .pointer (some ⟨yb, 0, none⟩)), (10, .int .i64 (p.1.1 : Nat))])
  (fun p => gpF x nn r r2 c c2 xb yb Q p.1.2.1 p.1.2.2.1 p.1.2.2.2.1 p.1.2.2.2.2 [Old w])
  (fun p => xs.length - p.1.1) ⟨(0, poolM x, fillM x.spare (poolM x), (fun _ => ⟨SupS.nil x.ca, [], 0, 0, TakeS.none_, PushS.init []⟩), (fun _ => ⟨false, 0, 0, none, ColS.init⟩)), Nat.zero_le _, GpOk.first hx hA0⟩ (sub.cons rfl (sub.cons rfl (sub.cons rfl (sub.cons rfl (sub.cons rfl (sub.cons rfl (sub.cons rfl sub.nil))))))) ?_ ?_
 ·dsimp only [gpF, gaF]
  have hm1 : ∀ {G : St}, Ent (many x.w (fun i => whoL nn.mp nn.w x (Q i) (SupS.nil x.ca) (SupS.nil x.ca)) ++ G) (many x.w (fun i => gpW nn x (Q i) (⟨SupS.nil x.ca, [], 0, 0, TakeS.none_, PushS.init []⟩ : Sw) (⟨false, 0, 0, none, ColS.init⟩ : CH)) ++ G) := many_ent3 fun i _ G => by
   rw [gpW_off rfl]
   unfold whoL
   simp only [List.cons_append, List.nil_append]
   exact Ent.cons Ent.swap
  rw [show gxs (fun _ => (⟨false, 0, 0, none, ColS.init⟩ : CH)) = [.pointer none, .pointer none, .pointer none, .pointer none] from rfl, show gys (fun _ => (⟨false, 0, 0, none, ColS.init⟩ : CH)) = [.pointer none, .pointer none, .pointer none, .pointer none] from rfl]
  repeat (first | exact hm1 | (refine Ent.take1 ?_) | (refine Ent.trans Ent.drop ?_))
 rintro ⟨⟨i, m, m2, ws, hs⟩, hi, hok⟩
 dsimp only at hi hok ⊢
 have hml := hok.len
 have hml2 := hok.len2
 have hkk := hx.pool (n := m.ws.length) (by omega) (by omega)
 have hkk2 := hx.pool (n := m2.ws.length) (by omega) (by omega)
 have hll := hok.list_len
 refine go ?_
 refine Cx.ifp rfl (fun h => ?_) (fun h => ?_)
 ·have hik : i < xs.length := by omega
  have hg : (ints xs)[i]? = some (.int .i64 xs[i]) := by simp [ints]
  obtain ⟨b0, o, rfl, _⟩ := (hRd [Old w] (Ent.refl _)).at3 hg
  have hat : ∀ L, Ent L [Old w] → Has L b0 (o + i * 1) [.int .i64 xs[i]] := fun L hL => by
   obtain ⟨_, _, e, h⟩ := (hRd L hL).at3 hg
   simp only [Option.some.injEq, Addr.mk.injEq, and_true] at e
   obtain ⟨rfl, rfl⟩ := e
   simpa using h
  refine go ?_
  refine Cx.ordc rfl kr_ ?_
  refine ge ?_
  refine Ev.ldH kr_ rfl rfl (hat _ (by dsimp only [gpF]; exact entm)) rfl ?_
  refine ge ?_
  refine Ev.cakH kr_ rfl rfl (number xs[i] x.w (by omega) (by omega)) ?_
  refine ge ?_
  refine Ev.ldH kr_ rfl rfl (hat _ (by dsimp only [gpF]; exact entm)) rfl ?_
  refine ge ?_
  refine Ev.cakH kr_ rfl rfl (number (IntKind.i64.wrap (Int.tdiv xs[i] 4)) 60 (by omega) (by omega)) ?_
  refine ge ?_
  obtain ⟨who, hwho, hwx⟩ : ∃ who : Nat, xs[i] % (x.w : Int) = who ∧ who < x.w := by
   have h1 := Int.emod_nonneg xs[i] (show (x.w : Int) ≠ 0 by omega)
   have h2 := Int.emod_lt_of_pos xs[i] (show (0 : Int) < x.w by omega)
   exact ⟨(xs[i] % (x.w : Int)).toNat, by omega, by omega⟩
  obtain ⟨d, hd, hd60⟩ : ∃ d : Nat, IntKind.i64.wrap (Int.tdiv xs[i] 4) % 60 = d ∧ d < 60 := by
   have h1 := Int.emod_nonneg (IntKind.i64.wrap (Int.tdiv xs[i] 4)) (show (60 : Int) ≠ 0 by omega)
   have h2 := Int.emod_lt_of_pos (IntKind.i64.wrap (Int.tdiv xs[i] 4)) (show (0 : Int) < 60 by omega)
   exact ⟨(IntKind.i64.wrap (Int.tdiv xs[i] 4) % 60).toNat, by omega, by omega⟩
  rw [hwho, hd]
  refine ge ?_
  refine Cx.sq ?_
  refine Cx.jn (β := {p : Mm × Mm × (Nat → Sw) × (Nat → CH) // GpOk x (i + 1) p.1 p.2.1 p.2.2.1 p.2.2.2})
   (fun _ => [(1, .slice (some ⟨b0, o, none⟩) xs.length scp), (5, .bool true), (6, .pointer (some ⟨nn.a, 0, none⟩)), (7, .int .i64 x.w), (8, .pointer (some ⟨xb, 0, none⟩)), (9, .pointer (some ⟨yb, 0, none⟩)), (10, .int .i64 (i : Nat))])
   (fun p => gpF x nn r r2 c c2 xb yb Q p.1.1 p.1.2.1 p.1.2.2.1 p.1.2.2.2 [Old w]) ?_ ?_
  rotate_left
  ·rintro ⟨⟨m', m2', ws', hs'⟩, hok'⟩
   dsimp only at hok' ⊢
   refine go ?_
   refine Sx.ca rfl (gpSame (x := x) (n := nn) (r := r) (r2 := r2) (c := c) (c2 := c2) (xb := xb) (yb := yb) (Q := Q) (m := m') (m2 := m2') (ws := ws') (hs := hs') (T := i + 1) hx hw4 (by omega) hok') ?_
   rintro v' L' ⟨rfl, rfl⟩
   refine go ?_
   rw [w64 (n := (i : Int) + 1) (by omega) (by omega)]
   exact Klp.nm ⟨(i + 1, m', m2', ws', hs'), (by dsimp only; omega), hok'⟩ (sub.cons rfl (sub.cons rfl (sub.cons rfl (sub.cons rfl (sub.cons rfl (sub.cons rfl (sub.cons rfl sub.nil))))))) (Ent.refl _) (by dsimp only; omega)
  have hw44 : who < 4 := by omega
  have hbd := hok.bd hw44
  have hpu : (ptrs x.w fun i => (Q i).u)[0 + (who : Int).toNat * 1]? = some (.pointer (some ⟨(Q who).u, 0, none⟩)) := by
   rw [show 0 + (who : Int).toNat * 1 = who by omega]; exact ptrs_get (U := fun i => (Q i).u) hwx
  have hps : (ptrs x.w fun i => (Q i).s)[0 + (who : Int).toNat * 1]? = some (.pointer (some ⟨(Q who).s, 0, none⟩)) := by
   rw [show 0 + (who : Int).toNat * 1 = who by omega]; exact ptrs_get (U := fun i => (Q i).s) hwx
  refine Cx.pure (rmemKey (rm := nn.rm) (m := m2)) fun hmk2 => ?_
  refine Cx.pure (memKey (b := nn.mp) (m := m)) fun hmk => ?_
  refine Cx.ent (gp_in hwx) ?_
  cases hon : (hs who).on with
  | true =>
    obtain ⟨hcw, hy⟩ := hok.on who hw44 hon
    have hxv : (gxs hs)[0 + (who : Int).toNat * 1]? = some (.pointer (some ⟨(hs who).p, 0, none⟩)) := by rw [gxs_get hw44]; unfold gxv; rw [if_pos hon]
    have hyv : (gys hs)[0 + (who : Int).toNat * 1]? = some (.pointer (some ⟨(hs who).q, 0, none⟩)) := by rw [gys_get hw44, hy]
    obtain ⟨q1, hgo, hend⟩ := hok.col hx (by omega) hw44 hon
    have hcat := colStep_at (k := x.pool) (n := x.w) (m := m) (s := (ws who).s) hcw.a
    rw [gpW_on hon]
    simp only [List.cons_append, List.nil_append]
    refine go ?_
    refine gg ?_
    refine Sx.ldb (b := xb) rfl hxv ?_
    refine go ?_
    refine Cx.ordc rfl kr_ ?_
    refine ge ?_
    refine Ev.ldbH (b := xb) kr_ rfl rfl hxv ?_
    refine ge ?_
    refine Ev.ldbH (b := yb) kr_ rfl rfl hyv ?_
    refine ge ?_
    refine go ?_
    refine Cx.ordc rfl kr_ ?_
    refine ge ?_
    refine Ev.bring 1 rfl ?_
    refine ge ?_
    refine Ev.caH kr_ rfl rfl (colStepC (b := (hs who).p) (g := nn.g) (u := (Q who).u) (e := nn.e) (mp := nn.mp) (pb := (Q who).pb) (x := x) (s := (ws who).s) (m := m) (c := (hs who).c) hx (by omega) hcw.a (by omega)) (Pres.deps kr_) ?_
    rintro v' L' ⟨rfl, rfl⟩
    refine ge ?_
    refine Ev.caH kr_ rfl rfl (refColStep (b := (hs who).q) (s := (Q who).s) (w := nn.w) (rm := nn.rm) (rp := nn.rp) (rs := nn.rs) (re := nn.re) (x := x) (S := (ws who).s) (m := m2) (c := (hs who).c) hx (by omega) hcw.a (by omega) (fun h => by rw [hcw.d] at h; cases h) (fun h => ⟨hcw.a0 h, hcw.won (hcw.a0 h)⟩) (fun _ h1 => hok.gives hw44 hon h1 _) (fun _ h2 => ⟨(hok.cg hw44 hon h2).1, by have := (hok.cg hw44 hon h2).2; omega⟩)) (Pres.deps kr_) ?_
    rintro v' L' ⟨rfl, rfl⟩
    rw [q1]
    obtain ⟨m2', hm2'⟩ : ∃ m2', (colStep x.pool x.w m2 (ws who).s (hs who).c).1 = m2' := ⟨_, rfl⟩
    rw [hm2'] at hgo ⊢
    obtain ⟨⟨m', S', c'⟩, hR⟩ : ∃ R, colStep x.pool x.w m (ws who).s (hs who).c = R := ⟨_, rfl⟩
    rw [hR] at hgo hend hcat ⊢
    dsimp only at hgo hend hcat ⊢
    rw [hcw.d]
    refine ge ?_
    refine Ev.cakH kr_ rfl rfl (colDone (b := (hs who).p) (g := nn.g) (u := (Q who).u) (e := nn.e) (pb := (Q who).pb) (x := x) (c := c') hcat) ?_
    refine ge ?_
    refine Ev.ldH kr_ rfl rfl (RColO.done (b := (hs who).q) (s := (Q who).s) (re := nn.re) (rp := nn.rp) (n := x.w) (c := c')) rfl ?_
    refine ge ?_
    refine Ev.no 110 rfl (by simp) ?_
    refine ge ?_
    refine Ev.cakH kr_ rfl rfl (colWonA (b := (hs who).p) (g := nn.g) (u := (Q who).u) (e := nn.e) (pb := (Q who).pb) (x := x) (c := c') hcat) ?_
    refine ge ?_
    refine Ev.ldH kr_ rfl rfl (RColO.won (b := (hs who).q) (s := (Q who).s) (re := nn.re) (rp := nn.rp) (n := x.w) (c := c')) rfl ?_
    refine ge ?_
    refine Ev.no 119 rfl (by simp) ?_
    refine ge ?_
    have hcgl : c'.at_ = 2 → c'.g.done = false → c'.g.l.length ≤ 1000000 := fun h2 hg => by
     cases hq : c'.done with
     | true => have := (hend hq).2; rw [hg] at this; cases this
     | false =>
       have := (hgo.cg (i := who) hw44 (by rw [updG_at]; show (!c'.done) = true; rw [hq]; rfl) (by rw [updG_at]; exact h2)).2
       rw [updG_at] at this
       have : c'.g.l.length ≤ x.c := this
       omega
    have hhl : (handCo c').length ≤ 1000000 := by
     unfold handCo handP
     split
     ·rename_i h2
      split
      ·exact Nat.zero_le _
      ·rename_i hg; exact hcgl h2 (by simpa using hg)
     ·exact Nat.zero_le _
    refine Ev.bring 1 rfl ?_
    refine ge ?_
    refine Ev.caH kr_ rfl rfl (colHandA (b := (hs who).p) (g := nn.g) (u := (Q who).u) (e := nn.e) (pb := (Q who).pb) (x := x) (c := c') hcat (fun h => (hend h).1) hcgl) (Pres.deps kr_) ?_
    rintro v' L' ⟨a1, k1, rfl, rfl⟩
    refine ge ?_
    refine Ev.caH kr_ rfl rfl (refColHandA (b := (hs who).q) (s := (Q who).s) (re := nn.re) (rp := nn.rp) (n := x.w) (c := c') hcgl (hc := hcat)) (Pres.deps kr_) ?_
    rintro v' L' ⟨a2, k2, rfl, rfl⟩
    refine ge ?_
    refine Ev.cakH kr_ rfl rfl (sameIntsS (xs := handCo c') (ys := handCo c') (a := a1) (b := a2) (by omega)) ?_
    rw [decide_eq_true (rfl : handCo c' = handCo c')]
    refine ge ?_
    refine go ?_
    refine Sx.ld rfl (RColO.done (b := (hs who).q) (s := (Q who).s) (re := nn.re) (rp := nn.rp) (n := x.w) (c := c')) rfl ?_
    cases hq : c'.done with
    | true =>
      rw [hq] at hgo
      simp only [Bool.not_true, Bool.not_false] at hgo
      refine go ?_
      refine gg ?_
      refine Sx.stb (b := xb) rfl rfl rfl rfl (gxs_blt hw44) (gxs_set (hs := hs) (c := { hs who with on := false, c := c' }) hw44) ?_
      refine go ?_
      have hf := gp_fin (G := [Old w]) (x := x) (n := nn) (r := r) (r2 := r2) (c := c) (c2 := c2) (xb := xb) (yb := yb) (Q := Q) (m := m') (m2 := m2') (ws := ws) (hs := hs) (i := who) (w := colW (ws who) (m', S', c')) (h := { hs who with on := false, c := c' }) hwx
      refine Kjn.nm ⟨(m', m2', _, _), hgo⟩ (sub.cons rfl (sub.cons rfl (sub.cons rfl (sub.cons rfl (sub.cons rfl (sub.cons rfl (sub.cons rfl sub.nil))))))) (Ent.trans ?_ hf)
      dsimp only [gpH]
      rw [gpW_off (h := { hs who with on := false, c := c' }) rfl, gys_same (hs := hs) (c := { hs who with on := false, c := c' }) hw44 rfl]
      simp only [List.cons_append, List.nil_append]
      exact entm
    | false =>
      rw [hq] at hgo
      simp only [Bool.not_true, Bool.not_false] at hgo
      refine go ?_
      have hf := gp_fin (G := [Old w]) (x := x) (n := nn) (r := r) (r2 := r2) (c := c) (c2 := c2) (xb := xb) (yb := yb) (Q := Q) (m := m') (m2 := m2') (ws := ws) (hs := hs) (i := who) (w := colW (ws who) (m', S', c')) (h := { hs who with on := true, c := c' }) hwx
      refine Kjn.nm ⟨(m', m2', _, _), hgo⟩ (sub.cons rfl (sub.cons rfl (sub.cons rfl (sub.cons rfl (sub.cons rfl (sub.cons rfl (sub.cons rfl sub.nil))))))) (Ent.trans ?_ hf)
      dsimp only [gpH]
      rw [gpW_on (h := { hs who with on := true, c := c' }) rfl, gys_same (hs := hs) (c := { hs who with on := true, c := c' }) hw44 rfl, gxs_same (hs := hs) (c := { hs who with on := true, c := c' }) hw44 (by unfold gxv; rw [hon])]
      simp only [List.cons_append, List.nil_append]
      exact entm
  | false =>
    have hxv : (gxs hs)[0 + (who : Int).toNat * 1]? = some (.pointer none) := by rw [gxs_get hw44]; unfold gxv; rw [if_neg (by rw [hon]; simp)]
    have hd6 : Int.tmod (d : Int) 6 = ((d % 6 : Nat) : Int) := rfl
    have hself := fun (m m2 : Mm) => gp_fin (G := [Old w]) (x := x) (n := nn) (r := r) (r2 := r2) (c := c) (c2 := c2) (xb := xb) (yb := yb) (Q := Q) (m := m) (m2 := m2) (ws := ws) (hs := hs) (i := who) (w := ws who) (h := hs who) hwx
    simp only [updG_self] at hself
    rw [gpW_off hon] at hself ⊢
    simp only [List.cons_append, List.nil_append] at hself ⊢
    refine go ?_
    refine gg ?_
    refine Sx.ldb (b := xb) rfl hxv ?_
    refine go ?_
    refine Sx.pv rfl (by omega) ?_
    rw [hd6]
    refine go ?_
    refine Cx.ifp rfl (fun h6 => ?_) (fun h6 => ?_)
    ·refine go ?_
     refine Cx.ordc rfl kr_ ?_
     refine ge ?_
     refine Ev.ldrH (b := r) kr_ rfl rfl hpu ?_
     refine ge ?_
     iterate 6 (refine Ev.bring 1 rfl ?_; refine ge ?_)
     refine Ev.bring 1 rfl ?_
     refine Ev.ldrH (b := r2) kr_ rfl rfl hps ?_
     refine Ev.bring 2 rfl ?_
     refine ge ?_
     refine Ev.bring 3 rfl ?_
     refine ge ?_
     refine Ev.caH kr_ rfl rfl (gatherCollect (g := nn.g) (u := (Q who).u) (e := nn.e) (mp := nn.mp) (pb := (Q who).pb) (x := x)) (.keep (fun v L' ⟨_, _, e⟩ => by subst e; exact (Has.row (b := r2) (m := 1)).one (take_one hps)) (.keep (fun v L' ⟨_, _, e⟩ => by subst e; exact Has.cell rfl) (.dep rfl (.dep rfl (.dep rfl .nil))))) ?_
     rintro v' L' ⟨pb', rfl, rfl⟩
     refine ge ?_
     refine Ev.caH kr_ rfl rfl (refColNew (s := (Q who).s) (w := nn.w) (rm := nn.rm) (rp := nn.rp) (rs := nn.rs) (re := nn.re) (x := x) (S := (ws who).s)) (Pres.deps kr_) ?_
     rintro v' L' ⟨qb', rfl, rfl⟩
     refine ge ?_
     refine Ev.stbH (b := xb) kr_ rfl rfl rfl rfl rfl (gxs_blt hw44) (gxs_set (hs := hs) (c := ⟨true, pb', qb', some ⟨qb', 0, none⟩, ColS.init⟩) hw44) (Pres.deps kr_) ?_
     refine ge ?_
     refine Ev.stbH (b := yb) kr_ rfl rfl rfl rfl rfl (gys_blt hw44) (gys_set (hs := hs) (c := ⟨true, pb', qb', some ⟨qb', 0, none⟩, ColS.init⟩) hw44) (Pres.deps kr_) ?_
     refine ge ?_
     refine go ?_
     have hxv2 : (gxs (updG hs who ⟨true, pb', qb', some ⟨qb', 0, none⟩, ColS.init⟩))[0 + (who : Int).toNat * 1]? = some (.pointer (some ⟨pb', 0, none⟩)) := by rw [gxs_get hw44, updG_at]; rfl
     refine gg ?_
     refine Sx.ldb (b := xb) rfl hxv2 ?_
     refine go ?_
     refine gg ?_
     refine Sx.ldb (b := xb) rfl hxv2 ?_
     refine go ?_
     refine Sx.ca rfl (colDone (b := pb') (g := nn.g) (u := (Q who).u) (e := nn.e) (pb := (Q who).pb) (x := x) (c := ColS.init) (Nat.zero_le _)) ?_
     rintro v' L' ⟨rfl, rfl⟩
     refine go ?_
     have hf := gp_fin (G := [Old w]) (x := x) (n := nn) (r := r) (r2 := r2) (c := c) (c2 := c2) (xb := xb) (yb := yb) (Q := Q) (m := m) (m2 := m2) (ws := ws) (hs := hs) (i := who) (w := ws who) (h := ⟨true, pb', qb', some ⟨qb', 0, none⟩, ColS.init⟩) hwx
     rw [updG_self] at hf
     refine Kjn.nm ⟨(m, m2, ws, _), hok.new hw44 hon pb' qb'⟩ (sub.cons rfl (sub.cons rfl (sub.cons rfl (sub.cons rfl (sub.cons rfl (sub.cons rfl (sub.cons rfl sub.nil))))))) (Ent.trans ?_ hf)
     rw [gpW_on rfl]
     simp only [List.cons_append, List.nil_append]
     exact entm
    ·refine go ?_
     refine Sx.pv rfl (by omega) ?_
     rw [hd6]
     by_cases h64 : d % 6 < 4
     ·refine go ?_
      refine Sx.gyes rfl (decide_eq_true (show ((d % 6 : Nat) : Int) < 4 by omega)) ?_
      refine go ?_
      refine Sx.ca rfl (refStackList (sb := nn.rp) (rm := nn.rm) (k := x.pool) (m := m2) hkk2) ?_
      rw [hok.list]
      rintro v' L' ⟨ro, co, rfl, rfl⟩
      refine go ?_
      refine Cx.ifp rfl (fun hne => ?_) (fun hne => ?_)
      ·refine go ?_
       have hne2 : listK x.pool m ≠ [] := fun e => by rw [e] at hne; simp at hne
       obtain ⟨hd', his, hsz, hnm, hmo, hmlen, hfin⟩ := hok.take hx (by omega) (by omega) hw44 hon hne2
       have hsz0 : (ws who).s.size ≤ 100000 := by unfold SupS.size; omega
       refine Sx.ent (M := gtF x nn r r2 x.w c c2 Q who (ws who).s (ws who).s m m2 (pt (some ⟨nn.re, 0, none⟩) (REpO x nn.rm) :: pt (some ⟨nn.pb, 0, none⟩) (SkO nn.mp x.pool) :: pt (some ⟨nn.g, 0, none⟩) (GaO nn.mp nn.e) :: pt (some ⟨nn.e, 0, none⟩) (EpO nn.mp x) ::
        pt (some ⟨xb, 0, none⟩) (Blk 66 (gxs hs)) :: pt (some ⟨yb, 0, none⟩) (Blk 68 (gys hs)) :: gpZ nn x Q ws hs who [Old w])) ?_ (Sx.ca rfl (gaTake hwx (by omega) hx hml hmk.1 hmk2.1 hok.ag hsz0 hd') ?_)
       ·dsimp only [gtF]
        exact entm
       rintro v' L' ⟨mt2, hA2, hmo2, rfl, rfl⟩
       rw [his]
       obtain ⟨⟨mt, st, tt⟩, hR⟩ : ∃ R, tkIt x.pool x.ba 40 (m, takeInit x.ba (ws who).s) = R := ⟨_, rfl⟩
       rw [hR] at hsz hnm hmo hmlen hfin hA2 ⊢
       dsimp only at hsz hnm hmo hmlen hfin hA2 ⊢
       obtain ⟨⟨wp, hwp1, hwp2, hwp3, hgp⟩, hret⟩ := hfin mt2 hA2
       have hlt2 : mt2.ws.length = x.len := hA2.len.trans hmlen
       have hlms := fun k => (show (st.lm.items k).length ≤ st.lm.size by unfold Lm.items Lm.size; split <;> omega)
       dsimp only [gtF]
       refine go ?_
       refine Sx.ca rfl (refNow (re := nn.re) (rm := nn.rm) (x := x) (m := mt2) hmo2 (by omega)) ?_
       rintro v' L' ⟨rfl, rfl⟩
       obtain ⟨N, hN, hN2⟩ : ∃ N : Nat, cutE (mt2.at_ 2) = N ∧ N ≤ 4611686018427387903 := ⟨(cutE (mt2.at_ 2)).toNat, by unfold cutE; omega, by unfold cutE; omega⟩
       rw [hN]
       have hdq : Int.tdiv (d : Int) 6 = ((d / 6 : Nat) : Int) := rfl
       have hdr : Int.tmod ((d / 6 : Nat) : Int) 2 = ((d / 6 % 2 : Nat) : Int) := rfl
       refine go ?_
       refine Sx.pv rfl (by omega) ?_
       rw [hdq, w64 (n := ((d / 6 : Nat) : Int)) (by omega) (by omega)]
       refine go ?_
       refine Sx.pv rfl (by omega) ?_
       rw [hdr]
       obtain ⟨tg, htg⟩ : ∃ tg : Int, (N : Int) - ((d / 6 % 2 : Nat) : Int) = tg := ⟨_, rfl⟩
       refine go ?_
       rw [htg, w64 (n := tg) (by omega) (by omega)]
       obtain ⟨GT, hGT⟩ : ∃ GT : St, GT = pt (some ⟨nn.re, 0, none⟩) (REpO x nn.rm) :: pt (some ⟨nn.pb, 0, none⟩) (SkO nn.mp x.pool) :: pt (some ⟨nn.g, 0, none⟩) (GaO nn.mp nn.e) :: pt (some ⟨nn.e, 0, none⟩) (EpO nn.mp x) ::
        pt (some ⟨xb, 0, none⟩) (Blk 66 (gxs hs)) :: pt (some ⟨yb, 0, none⟩) (Blk 68 (gys hs)) :: gpZ nn x Q ws hs who [Old w] := ⟨_, rfl⟩
       refine Cx.jn (β := {p : SupS // (refused st.lm tg [tt.chunk] ∧ p = st) ∨ (¬ refused st.lm tg [tt.chunk] ∧ p = ⟨st.most, st.xs ++ outM st.lm tg, retireM st.lm tg [tt.chunk]⟩)})
        (fun _ => [(1, .slice (some ⟨b0, o, none⟩) xs.length scp), (5, .bool true), (6, .pointer (some ⟨nn.a, 0, none⟩)), (7, .int .i64 x.w), (8, .pointer (some ⟨xb, 0, none⟩)), (9, .pointer (some ⟨yb, 0, none⟩)), (10, .int .i64 (i : Nat)), (11, .int .i64 (who : Nat)), (15, .int .i64 tt.chunk), (17, .int .i64 tg), (232, .bool false)])
        (fun p => gtF x nn r r2 x.w c c2 Q who p.1 p.1 mt mt2 GT) ?_ ?_
       ·refine Cx.rd ?_
        refine Rx.pvs rfl ?_
        iterate 3 (refine Rx.on 0 rfl rfl rfl rfl trivial rfl rfl ?_)
        refine Rx.ldKon 0 rfl rfl rfl rfl (Has.cell rfl) rfl rfl rfl ?_
        refine Rx.on 0 rfl rfl rfl rfl trivial rfl rfl ?_
        refine Rx.on 0 rfl rfl rfl rfl (by omega) rfl rfl ?_
        refine Rx.ldKon 0 rfl rfl rfl rfl ((Has.row (b := r) (m := 1)).one (take_one hpu)) rfl rfl rfl ?_
        iterate 2 (refine Rx.on 0 rfl rfl rfl rfl trivial rfl rfl ?_)
        iterate 3 (refine Rx.on 3 rfl rfl rfl rfl trivial rfl rfl ?_)
        refine Rx.ldKon 3 rfl rfl rfl rfl (Has.cell rfl) rfl rfl rfl ?_
        refine Rx.on 3 rfl rfl rfl rfl trivial rfl rfl ?_
        refine Rx.on 3 rfl rfl rfl rfl (by omega) rfl rfl ?_
        refine Rx.ldKon 3 rfl rfl rfl rfl ((Has.row (b := r2) (m := 1)).one (take_one hps)) rfl rfl rfl ?_
        iterate 2 (refine Rx.on 3 rfl rfl rfl rfl trivial rfl rfl ?_)
        refine Rx.two rfl rfl rfl ?_ ?_
        ·refine Sx.on rfl (Sx.bs (sz := 1) rfl rfl fun q1 => ?_)
         refine Sx.nil ⟨⟨⟨⟨⟨trivial, Has.cell rfl⟩, (Has.row (b := r) (m := 1)).one (take_one hpu)⟩, Has.cell rfl⟩, (Has.row (b := r2) (m := 1)).one (take_one hps)⟩, ?_⟩
         refine Rx.two rfl rfl rfl ?_ ?_
         ·refine Sx.on rfl (Sx.ca rfl (supRetire (u := (Q who).u) (mp := nn.mp) (pb := (Q who).pb) (x := x) (s := st) (tag := tg) (ys := [tt.chunk]) (ya := some ⟨q1, 0, none⟩) (Rd.row (b := q1) (E := 3) (cap := 1) rfl) (by omega) (by omega)) ?_)
          rintro v' L' (⟨hrf, rfl, rfl⟩ | ⟨hrf, rfl, rfl⟩)
          ·refine Sx.nil ⟨⟨⟨⟨⟨trivial, Has.cell rfl⟩, (Has.row (b := r) (m := 1)).one (take_one hpu)⟩, Has.cell rfl⟩, (Has.row (b := r2) (m := 1)).one (take_one hps)⟩, ?_⟩
           refine Rx.on 0 rfl rfl rfl rfl trivial rfl rfl ?_
           refine Rx.one rfl rfl rfl ?_
           refine Sx.on rfl (Sx.bs (sz := 1) rfl rfl fun q2 => ?_)
           refine Sx.nil ⟨⟨⟨⟨⟨trivial, Has.cell rfl⟩, (Has.row (b := r) (m := 1)).one (take_one hpu)⟩, Has.cell rfl⟩, (Has.row (b := r2) (m := 1)).one (take_one hps)⟩, ?_⟩
           refine Rx.one rfl rfl rfl ?_
           refine Sx.on rfl (Sx.ca rfl (refSupRetire (s := (Q who).s) (w := nn.w) (S := st) (tag := tg) (ys := [tt.chunk]) (ya := some ⟨q2, 0, none⟩) (Rd.row (b := q2) (E := 3) (cap := 1) rfl) (by omega) (by omega)) ?_)
           rintro v' L' (⟨hrf2, rfl, rfl⟩ | ⟨hrf2, rfl, rfl⟩)
           ·refine Sx.nil ⟨⟨⟨⟨⟨trivial, Has.cell rfl⟩, (Has.row (b := r) (m := 1)).one (take_one hpu)⟩, Has.cell rfl⟩, (Has.row (b := r2) (m := 1)).one (take_one hps)⟩, ?_⟩
            refine Rx.on 0 rfl rfl rfl rfl trivial rfl rfl ?_
            refine Rx.one rfl rfl rfl ?_
            refine Sx.pk rfl rfl rfl ?_
            refine Sx.nil ⟨⟨⟨⟨⟨trivial, Has.cell rfl⟩, (Has.row (b := r) (m := 1)).one (take_one hpu)⟩, Has.cell rfl⟩, (Has.row (b := r2) (m := 1)).one (take_one hps)⟩, ?_⟩
            refine Rx.nil ?_
            refine Krg.i ?_
            refine Kjn.nm ⟨st, .inl ⟨hrf, rfl⟩⟩ (sub.cons rfl (sub.cons rfl (sub.cons rfl (sub.cons rfl (sub.cons rfl (sub.cons rfl (sub.cons rfl (sub.cons rfl (sub.cons rfl (sub.cons rfl (sub.cons rfl sub.nil))))))))))) ?_
            rw [hGT]
            dsimp only [gtF]
            exact entm
           ·exact absurd hrf hrf2
          ·refine Sx.nil ⟨⟨⟨⟨⟨trivial, Has.cell rfl⟩, (Has.row (b := r) (m := 1)).one (take_one hpu)⟩, Has.cell rfl⟩, (Has.row (b := r2) (m := 1)).one (take_one hps)⟩, ?_⟩
           refine Rx.on 0 rfl rfl rfl rfl trivial rfl rfl ?_
           refine Rx.one rfl rfl rfl ?_
           refine Sx.on rfl (Sx.bs (sz := 1) rfl rfl fun q2 => ?_)
           refine Sx.nil ⟨⟨⟨⟨⟨trivial, Has.cell rfl⟩, (Has.row (b := r) (m := 1)).one (take_one hpu)⟩, Has.cell rfl⟩, (Has.row (b := r2) (m := 1)).one (take_one hps)⟩, ?_⟩
           refine Rx.one rfl rfl rfl ?_
           refine Sx.on rfl (Sx.ca rfl (refSupRetire (s := (Q who).s) (w := nn.w) (S := st) (tag := tg) (ys := [tt.chunk]) (ya := some ⟨q2, 0, none⟩) (Rd.row (b := q2) (E := 3) (cap := 1) rfl) (by omega) (by omega)) ?_)
           rintro v' L' (⟨hrf2, rfl, rfl⟩ | ⟨hrf2, rfl, rfl⟩)
           ·exact absurd hrf2 hrf
           ·refine Sx.nil ⟨⟨⟨⟨⟨trivial, Has.cell rfl⟩, (Has.row (b := r) (m := 1)).one (take_one hpu)⟩, Has.cell rfl⟩, (Has.row (b := r2) (m := 1)).one (take_one hps)⟩, ?_⟩
            refine Rx.on 0 rfl rfl rfl rfl trivial rfl rfl ?_
            refine Rx.one rfl rfl rfl ?_
            refine Sx.pk rfl rfl rfl ?_
            refine Sx.nil ⟨⟨⟨⟨⟨trivial, Has.cell rfl⟩, (Has.row (b := r) (m := 1)).one (take_one hpu)⟩, Has.cell rfl⟩, (Has.row (b := r2) (m := 1)).one (take_one hps)⟩, ?_⟩
            refine Rx.nil ?_
            refine Krg.i ?_
            refine Kjn.nm ⟨_, .inr ⟨hrf, rfl⟩⟩ (sub.cons rfl (sub.cons rfl (sub.cons rfl (sub.cons rfl (sub.cons rfl (sub.cons rfl (sub.cons rfl (sub.cons rfl (sub.cons rfl (sub.cons rfl (sub.cons rfl sub.nil))))))))))) ?_
            rw [hGT]
            dsimp only [gtF]
            exact entm
         ·refine Sx.on rfl (Sx.bs (sz := 1) rfl rfl fun q2 => ?_)
          refine Sx.nil ⟨⟨⟨⟨⟨trivial, Has.cell rfl⟩, (Has.row (b := r) (m := 1)).one (take_one hpu)⟩, Has.cell rfl⟩, (Has.row (b := r2) (m := 1)).one (take_one hps)⟩, ?_⟩
          refine Rx.one rfl rfl rfl ?_
          refine Sx.on rfl (Sx.ca rfl (supRetire (u := (Q who).u) (mp := nn.mp) (pb := (Q who).pb) (x := x) (s := st) (tag := tg) (ys := [tt.chunk]) (ya := some ⟨q1, 0, none⟩) (Rd.row (b := q1) (E := 3) (cap := 1) rfl) (by omega) (by omega)) ?_)
          rintro v' L' (⟨hrf, rfl, rfl⟩ | ⟨hrf, rfl, rfl⟩)
          ·refine Sx.nil ⟨⟨⟨⟨⟨trivial, Has.cell rfl⟩, (Has.row (b := r) (m := 1)).one (take_one hpu)⟩, Has.cell rfl⟩, (Has.row (b := r2) (m := 1)).one (take_one hps)⟩, ?_⟩
           refine Rx.on 0 rfl rfl rfl rfl trivial rfl rfl ?_
           refine Rx.one rfl rfl rfl ?_
           refine Sx.on rfl (Sx.ca rfl (refSupRetire (s := (Q who).s) (w := nn.w) (S := st) (tag := tg) (ys := [tt.chunk]) (ya := some ⟨q2, 0, none⟩) (Rd.row (b := q2) (E := 3) (cap := 1) rfl) (by omega) (by omega)) ?_)
           rintro v' L' (⟨hrf2, rfl, rfl⟩ | ⟨hrf2, rfl, rfl⟩)
           ·refine Sx.nil ⟨⟨⟨⟨⟨trivial, Has.cell rfl⟩, (Has.row (b := r) (m := 1)).one (take_one hpu)⟩, Has.cell rfl⟩, (Has.row (b := r2) (m := 1)).one (take_one hps)⟩, ?_⟩
            refine Rx.on 0 rfl rfl rfl rfl trivial rfl rfl ?_
            refine Rx.one rfl rfl rfl ?_
            refine Sx.pk rfl rfl rfl ?_
            refine Sx.nil ⟨⟨⟨⟨⟨trivial, Has.cell rfl⟩, (Has.row (b := r) (m := 1)).one (take_one hpu)⟩, Has.cell rfl⟩, (Has.row (b := r2) (m := 1)).one (take_one hps)⟩, ?_⟩
            refine Rx.nil ?_
            refine Krg.i ?_
            refine Kjn.nm ⟨st, .inl ⟨hrf, rfl⟩⟩ (sub.cons rfl (sub.cons rfl (sub.cons rfl (sub.cons rfl (sub.cons rfl (sub.cons rfl (sub.cons rfl (sub.cons rfl (sub.cons rfl (sub.cons rfl (sub.cons rfl sub.nil))))))))))) ?_
            rw [hGT]
            dsimp only [gtF]
            exact entm
           ·exact absurd hrf hrf2
          ·refine Sx.nil ⟨⟨⟨⟨⟨trivial, Has.cell rfl⟩, (Has.row (b := r) (m := 1)).one (take_one hpu)⟩, Has.cell rfl⟩, (Has.row (b := r2) (m := 1)).one (take_one hps)⟩, ?_⟩
           refine Rx.on 0 rfl rfl rfl rfl trivial rfl rfl ?_
           refine Rx.one rfl rfl rfl ?_
           refine Sx.on rfl (Sx.ca rfl (refSupRetire (s := (Q who).s) (w := nn.w) (S := st) (tag := tg) (ys := [tt.chunk]) (ya := some ⟨q2, 0, none⟩) (Rd.row (b := q2) (E := 3) (cap := 1) rfl) (by omega) (by omega)) ?_)
           rintro v' L' (⟨hrf2, rfl, rfl⟩ | ⟨hrf2, rfl, rfl⟩)
           ·exact absurd hrf2 hrf
           ·refine Sx.nil ⟨⟨⟨⟨⟨trivial, Has.cell rfl⟩, (Has.row (b := r) (m := 1)).one (take_one hpu)⟩, Has.cell rfl⟩, (Has.row (b := r2) (m := 1)).one (take_one hps)⟩, ?_⟩
            refine Rx.on 0 rfl rfl rfl rfl trivial rfl rfl ?_
            refine Rx.one rfl rfl rfl ?_
            refine Sx.pk rfl rfl rfl ?_
            refine Sx.nil ⟨⟨⟨⟨⟨trivial, Has.cell rfl⟩, (Has.row (b := r) (m := 1)).one (take_one hpu)⟩, Has.cell rfl⟩, (Has.row (b := r2) (m := 1)).one (take_one hps)⟩, ?_⟩
            refine Rx.nil ?_
            refine Krg.i ?_
            refine Kjn.nm ⟨_, .inr ⟨hrf, rfl⟩⟩ (sub.cons rfl (sub.cons rfl (sub.cons rfl (sub.cons rfl (sub.cons rfl (sub.cons rfl (sub.cons rfl (sub.cons rfl (sub.cons rfl (sub.cons rfl (sub.cons rfl sub.nil))))))))))) ?_
            rw [hGT]
            dsimp only [gtF]
            exact entm
        ·refine Sx.on rfl (Sx.bs (sz := 1) rfl rfl fun q2 => ?_)
         refine Sx.nil ⟨⟨⟨⟨⟨trivial, Has.cell rfl⟩, (Has.row (b := r) (m := 1)).one (take_one hpu)⟩, Has.cell rfl⟩, (Has.row (b := r2) (m := 1)).one (take_one hps)⟩, ?_⟩
         refine Rx.one rfl rfl rfl ?_
         refine Sx.on rfl (Sx.bs (sz := 1) rfl rfl fun q1 => ?_)
         refine Sx.nil ⟨⟨⟨⟨⟨trivial, Has.cell rfl⟩, (Has.row (b := r) (m := 1)).one (take_one hpu)⟩, Has.cell rfl⟩, (Has.row (b := r2) (m := 1)).one (take_one hps)⟩, ?_⟩
         refine Rx.one rfl rfl rfl ?_
         refine Sx.on rfl (Sx.ca rfl (supRetire (u := (Q who).u) (mp := nn.mp) (pb := (Q who).pb) (x := x) (s := st) (tag := tg) (ys := [tt.chunk]) (ya := some ⟨q1, 0, none⟩) (Rd.row (b := q1) (E := 3) (cap := 1) rfl) (by omega) (by omega)) ?_)
         rintro v' L' (⟨hrf, rfl, rfl⟩ | ⟨hrf, rfl, rfl⟩)
         ·refine Sx.nil ⟨⟨⟨⟨⟨trivial, Has.cell rfl⟩, (Has.row (b := r) (m := 1)).one (take_one hpu)⟩, Has.cell rfl⟩, (Has.row (b := r2) (m := 1)).one (take_one hps)⟩, ?_⟩
          refine Rx.on 0 rfl rfl rfl rfl trivial rfl rfl ?_
          refine Rx.one rfl rfl rfl ?_
          refine Sx.on rfl (Sx.ca rfl (refSupRetire (s := (Q who).s) (w := nn.w) (S := st) (tag := tg) (ys := [tt.chunk]) (ya := some ⟨q2, 0, none⟩) (Rd.row (b := q2) (E := 3) (cap := 1) rfl) (by omega) (by omega)) ?_)
          rintro v' L' (⟨hrf2, rfl, rfl⟩ | ⟨hrf2, rfl, rfl⟩)
          ·refine Sx.nil ⟨⟨⟨⟨⟨trivial, Has.cell rfl⟩, (Has.row (b := r) (m := 1)).one (take_one hpu)⟩, Has.cell rfl⟩, (Has.row (b := r2) (m := 1)).one (take_one hps)⟩, ?_⟩
           refine Rx.on 0 rfl rfl rfl rfl trivial rfl rfl ?_
           refine Rx.one rfl rfl rfl ?_
           refine Sx.pk rfl rfl rfl ?_
           refine Sx.nil ⟨⟨⟨⟨⟨trivial, Has.cell rfl⟩, (Has.row (b := r) (m := 1)).one (take_one hpu)⟩, Has.cell rfl⟩, (Has.row (b := r2) (m := 1)).one (take_one hps)⟩, ?_⟩
           refine Rx.nil ?_
           refine Krg.i ?_
           refine Kjn.nm ⟨st, .inl ⟨hrf, rfl⟩⟩ (sub.cons rfl (sub.cons rfl (sub.cons rfl (sub.cons rfl (sub.cons rfl (sub.cons rfl (sub.cons rfl (sub.cons rfl (sub.cons rfl (sub.cons rfl (sub.cons rfl sub.nil))))))))))) ?_
           rw [hGT]
           dsimp only [gtF]
           exact entm
          ·exact absurd hrf hrf2
         ·refine Sx.nil ⟨⟨⟨⟨⟨trivial, Has.cell rfl⟩, (Has.row (b := r) (m := 1)).one (take_one hpu)⟩, Has.cell rfl⟩, (Has.row (b := r2) (m := 1)).one (take_one hps)⟩, ?_⟩
          refine Rx.on 0 rfl rfl rfl rfl trivial rfl rfl ?_
          refine Rx.one rfl rfl rfl ?_
          refine Sx.on rfl (Sx.ca rfl (refSupRetire (s := (Q who).s) (w := nn.w) (S := st) (tag := tg) (ys := [tt.chunk]) (ya := some ⟨q2, 0, none⟩) (Rd.row (b := q2) (E := 3) (cap := 1) rfl) (by omega) (by omega)) ?_)
          rintro v' L' (⟨hrf2, rfl, rfl⟩ | ⟨hrf2, rfl, rfl⟩)
          ·exact absurd hrf2 hrf
          ·refine Sx.nil ⟨⟨⟨⟨⟨trivial, Has.cell rfl⟩, (Has.row (b := r) (m := 1)).one (take_one hpu)⟩, Has.cell rfl⟩, (Has.row (b := r2) (m := 1)).one (take_one hps)⟩, ?_⟩
           refine Rx.on 0 rfl rfl rfl rfl trivial rfl rfl ?_
           refine Rx.one rfl rfl rfl ?_
           refine Sx.pk rfl rfl rfl ?_
           refine Sx.nil ⟨⟨⟨⟨⟨trivial, Has.cell rfl⟩, (Has.row (b := r) (m := 1)).one (take_one hpu)⟩, Has.cell rfl⟩, (Has.row (b := r2) (m := 1)).one (take_one hps)⟩, ?_⟩
           refine Rx.nil ?_
           refine Krg.i ?_
           refine Kjn.nm ⟨_, .inr ⟨hrf, rfl⟩⟩ (sub.cons rfl (sub.cons rfl (sub.cons rfl (sub.cons rfl (sub.cons rfl (sub.cons rfl (sub.cons rfl (sub.cons rfl (sub.cons rfl (sub.cons rfl (sub.cons rfl sub.nil))))))))))) ?_
           rw [hGT]
           dsimp only [gtF]
           exact entm
       ·rintro ⟨p, hp⟩
        obtain ⟨wr, hwr1, hwr2, hwr3, hgr⟩ := hret tg
        have hrb := hgr.bd hw44
        rw [updG_at, hwr1] at hrb
        dsimp only at hrb
        obtain ⟨t3, ht3⟩ : ∃ t3 : Nat, tg + 3 = t3 := ⟨(tg + 3).toNat, by omega⟩
        have hkk3 : t3 % 3 < 3 := Nat.mod_lt _ (by omega)
        have hpb : p.lm.size ≤ 1000000000 := by
         rcases hp with ⟨_, rfl⟩ | ⟨_, rfl⟩
         ·omega
         ·dsimp only; omega
        have hfine : ¬ refused st.lm tg [tt.chunk] → ∃ pre, (retireM st.lm tg [tt.chunk]).items (t3 % 3) = pre ++ [tt.chunk] := fun hnr => by
         have h0 : 0 ≤ tg := by
          unfold refused at hnr
          omega
         have hbk : bucketOf tg = t3 % 3 := by unfold bucketOf; omega
         exact ⟨_, by rw [← hbk]; exact items_retireM _ _ _⟩
        dsimp only [gtF]
        refine go ?_
        refine gg ?_
        refine Sx.ldr (b := r2) rfl hps ?_
        refine Sx.openp (a := some ⟨(Q who).s, 0, none⟩) rfl ?_
        rintro ⟨sst, slm⟩
        simp only [rsupL, List.cons_append, List.nil_append]
        refine go ?_
        rw [w64 (n := tg + 3) (by omega) (by omega), ht3]
        refine Sx.pv rfl (by omega) ?_
        rw [show Int.tmod (t3 : Int) 3 = ((t3 % 3 : Nat) : Int) from rfl]
        refine go ?_
        refine Sx.ca rfl (refBucket (b := slm) (m := p.lm) (k := ((t3 % 3 : Nat) : Int)) hpb) ?_
        simp only [Int.toNat_natCast]
        rintro v' L' (⟨hno, rfl, rfl⟩ | ⟨hyes, ro, co, rfl, rfl⟩)
        ·have hnil : p.lm.items (t3 % 3) = [] := by
          rcases hno with h | h | h
          ·omega
          ·omega
          ·exact h
         have hps0 : refused st.lm tg [tt.chunk] ∧ p = st := by
          rcases hp with h | ⟨h1, rfl⟩
          ·exact h
          ·obtain ⟨pre, hpre⟩ := hfine h1
           dsimp only at hnil
           rw [hpre] at hnil
           simp at hnil
         obtain ⟨hrf, rfl⟩ := hps0
         refine go ?_
         refine gg ?_
         refine Sx.ldr (b := r) rfl hpu ?_
         refine go ?_
         refine Sx.bs (sz := 1) rfl rfl fun q1 => ?_
         refine go ?_
         refine Sx.ca rfl (supPut (u := (Q who).u) (mp := nn.mp) (pb := (Q who).pb) (x := x) (s := p) (ys := [tt.chunk]) (ya := some ⟨q1, 0, none⟩) (Rd.row (b := q1) (E := 3) (cap := 1) rfl) (by omega)) ?_
         rintro v' L' ⟨rfl, rfl⟩
         refine go ?_
         refine gg ?_
         refine Sx.ldr (b := r2) rfl hps ?_
         refine go ?_
         refine Sx.bs (sz := 1) rfl rfl fun q2 => ?_
         refine go ?_
         refine Sx.ca rfl (refGive (b := sst) (most := p.most) (xs := p.xs) (ys := [tt.chunk]) (ya := some ⟨q2, 0, none⟩) (Rd.row (b := q2) (E := 3) (cap := 1) rfl) (by omega)) ?_
         rintro v' L' ⟨rfl, rfl⟩
         refine go ?_
         have hf := gp_fin (G := [Old w]) (x := x) (n := nn) (r := r) (r2 := r2) (c := c) (c2 := c2) (xb := xb) (yb := yb) (Q := Q) (m := mt) (m2 := mt2) (ws := ws) (hs := hs) (i := who) (w := wp) (h := hs who) hwx
         rw [updG_self, gpW_off hon, hwp1] at hf
         refine Kjn.nm ⟨(mt, mt2, updG ws who wp, hs), hgp⟩ (sub.cons rfl (sub.cons rfl (sub.cons rfl (sub.cons rfl (sub.cons rfl (sub.cons rfl (sub.cons rfl sub.nil))))))) (Ent.trans ?_ hf)
         rw [hGT]
         simp only [List.cons_append, List.nil_append]
         refine Ent.trans (RSupO.close (a := some ⟨(Q who).s, 0, none⟩) (st := sst) (lm := slm) (w := nn.w) (p.give [tt.chunk]) rfl rfl rfl) ?_
         exact entm
        ·have hne3 : p.lm.items (t3 % 3) ≠ [] := fun e => hyes (.inr (.inr e))
         have hlp : 0 < (p.lm.items (t3 % 3)).length := List.length_pos_iff.2 hne3
         have hle : (p.lm.items (t3 % 3)).length ≤ p.lm.size := by unfold Lm.items Lm.size; split <;> omega
         refine Sx.rowkey (a := ro) fun hq0 hq1 _ hq2 => ?_
         obtain ⟨gr, rfl⟩ := row_some hlp (hq2.imp (fun h => ⟨h.1, h.2.1, h.2.2⟩) id)
         obtain ⟨lst, hlst, hlmem⟩ : ∃ lst : Int, (ints (p.lm.items (t3 % 3)))[0 + (((p.lm.items (t3 % 3)).length : Int) - 1).toNat * 1]? = some (.int .i64 lst) ∧ (p.lm.items (t3 % 3))[(p.lm.items (t3 % 3)).length - 1]? = some lst := by
          refine ⟨(p.lm.items (t3 % 3))[(p.lm.items (t3 % 3)).length - 1], ?_, List.getElem?_eq_getElem (by omega)⟩
          rw [show 0 + (((p.lm.items (t3 % 3)).length : Int) - 1).toNat * 1 = (p.lm.items (t3 % 3)).length - 1 by omega]
          unfold ints
          rw [List.getElem?_map, List.getElem?_eq_getElem (by omega)]
          rfl
         refine go ?_
         refine Sx.gyes rfl (decide_eq_false (by omega)) ?_
         refine go ?_
         rw [w64 (n := ((p.lm.items (t3 % 3)).length : Int) - 1) (by omega) (by omega)]
         refine gg ?_
         refine Sx.ldr (b := gr) rfl hlst ?_
         refine go ?_
         rcases hp with ⟨hrf, rfl⟩ | ⟨hrf, rfl⟩
         ·have hlne : lst ≠ tt.chunk := fun e => by
           subst e
           exact hnm (items_all (List.mem_of_getElem? hlmem))
          refine Cx.cyes rfl (by simp [pick, hlne]) ?_
          refine go ?_
          refine gg ?_
          refine Sx.ldr (b := r) rfl hpu ?_
          refine go ?_
          refine Sx.bs (sz := 1) rfl rfl fun q1 => ?_
          refine go ?_
          refine Sx.ca rfl (supPut (u := (Q who).u) (mp := nn.mp) (pb := (Q who).pb) (x := x) (s := p) (ys := [tt.chunk]) (ya := some ⟨q1, 0, none⟩) (Rd.row (b := q1) (E := 3) (cap := 1) rfl) (by omega)) ?_
          rintro v' L' ⟨rfl, rfl⟩
          refine go ?_
          refine gg ?_
          refine Sx.ldr (b := r2) rfl hps ?_
          refine go ?_
          refine Sx.bs (sz := 1) rfl rfl fun q2 => ?_
          refine go ?_
          refine Sx.ca rfl (refGive (b := sst) (most := p.most) (xs := p.xs) (ys := [tt.chunk]) (ya := some ⟨q2, 0, none⟩) (Rd.row (b := q2) (E := 3) (cap := 1) rfl) (by omega)) ?_
          rintro v' L' ⟨rfl, rfl⟩
          refine go ?_
          have hf := gp_fin (G := [Old w]) (x := x) (n := nn) (r := r) (r2 := r2) (c := c) (c2 := c2) (xb := xb) (yb := yb) (Q := Q) (m := mt) (m2 := mt2) (ws := ws) (hs := hs) (i := who) (w := wp) (h := hs who) hwx
          rw [updG_self, gpW_off hon, hwp1] at hf
          refine Kjn.nm ⟨(mt, mt2, updG ws who wp, hs), hgp⟩ (sub.cons rfl (sub.cons rfl (sub.cons rfl (sub.cons rfl (sub.cons rfl (sub.cons rfl (sub.cons rfl sub.nil))))))) (Ent.trans ?_ hf)
          rw [hGT]
          simp only [List.cons_append, List.nil_append]
          refine Ent.trans (RSupO.close (a := some ⟨(Q who).s, 0, none⟩) (st := sst) (lm := slm) (w := nn.w) (p.give [tt.chunk]) rfl rfl rfl) ?_
          exact entm
         ·have hleq : lst = tt.chunk := by
           obtain ⟨pre, hpre⟩ := hfine hrf
           dsimp only at hlmem
           rw [hpre] at hlmem
           simp at hlmem
           exact hlmem.symm
          refine Cx.cno rfl (by simp [pick, hleq]) ?_
          refine go ?_
          have hf := gp_fin (G := [Old w]) (x := x) (n := nn) (r := r) (r2 := r2) (c := c) (c2 := c2) (xb := xb) (yb := yb) (Q := Q) (m := mt) (m2 := mt2) (ws := ws) (hs := hs) (i := who) (w := wr) (h := hs who) hwx
          rw [updG_self, gpW_off hon, hwr1] at hf
          refine Kjn.nm ⟨(mt, mt2, updG ws who wr, hs), hgr⟩ (sub.cons rfl (sub.cons rfl (sub.cons rfl (sub.cons rfl (sub.cons rfl (sub.cons rfl (sub.cons rfl sub.nil))))))) (Ent.trans ?_ hf)
          rw [hGT]
          simp only [List.cons_append, List.nil_append]
          refine Ent.trans (RSupO.close (a := some ⟨(Q who).s, 0, none⟩) (st := sst) (lm := slm) (w := nn.w) (⟨st.most, st.xs ++ outM st.lm tg, retireM st.lm tg [tt.chunk]⟩) rfl rfl rfl) ?_
          exact entm
      ·refine go ?_
       refine Sx.pv rfl (by omega) ?_
       rw [hd6]
       refine go ?_
       refine Cx.cno rfl (decide_eq_false (by omega)) ?_
       refine go ?_
       refine Cx.openp (a := some ⟨nn.rm, 0, none⟩) rfl ?_
       rintro ⟨r0, c0⟩
       simp only [rmemL, List.cons_append, List.nil_append]
       refine Cx.liftp fun hmm => ?_
       refine Cx.rowkey (a := r0) fun hx0 hn0 _ hk1 => ?_
       obtain ⟨rg, rfl⟩ := row_some (show 3 + who < m2.ws.length by omega) (hk1.imp (fun h => ⟨h.1, h.2.1, h.2.2⟩) id)
       refine Cx.ordc rfl kr_ ?_
       refine ge ?_
       refine Ev.cakH (vs := [x.v, .int .i64 who]) kr_ rfl rfl (refPin hx who hwx) ?_
       refine ge ?_
       refine Ev.strH (b := rg) (u := wd (0)) kr_ rfl rfl rfl rfl rfl (show 0 + ((3 + who : Nat) : Int).toNat * 1 < (us m2.ws).length by rw [length_us]; omega) (us_set m2.ws _ (0)) (Pres.deps kr_) ?_
       refine ge ?_
       refine go ?_
       refine Cx.orde rfl kr_ ?_
       refine ge ?_
       refine Ev.cakH (vs := [x.v, .int .i64 who]) kr_ rfl rfl (layPinN hx who hwx) ?_
       refine ge ?_
       refine Ev.caH kr_ rfl rfl (cellsLay (b := nn.mp) (m := m) (3 + who) (0) (by omega) (by omega)) (Pres.deps kr_) ?_
       rintro v' L' ⟨rfl, rfl⟩
       refine ge ?_
       refine go ?_
       refine Kjn.nm ⟨(m.lay (3 + who) (0), m2.lay (3 + who) (0), ws, hs), hok.pin hx hwx (by omega)⟩ (sub.cons rfl (sub.cons rfl (sub.cons rfl (sub.cons rfl (sub.cons rfl (sub.cons rfl (sub.cons rfl sub.nil))))))) (Ent.trans ?_ (hself _ _))
       rw [show 0 + ((3 + who : Nat) : Int).toNat * 1 = 3 + who by omega]
       refine Ent.trans (RMemO.close (T := 94) (a := some ⟨nn.rm, 0, none⟩) (r := some ⟨rg, 0, none⟩) (m2.lay (3 + who) (0)) ⟨Mm.ok_lay hmm.1 (by omega), by rw [Mm.len_lay]; exact hmm.2⟩ rfl Mm.len_lay.symm rfl) ?_
       exact entm
     ·refine go ?_
      refine Sx.gno rfl (decide_eq_false (show ¬ ((d % 6 : Nat) : Int) < 4 by omega)) ?_
      refine go ?_
      refine Sx.pv rfl (by omega) ?_
      rw [hd6]
      refine go ?_
      refine Cx.ifp rfl (fun h4 => ?_) (fun h4 => ?_)
      ·obtain ⟨N, hN, hN2⟩ : ∃ N : Nat, cutE (m2.at_ 2) = N ∧ N ≤ 4611686018427387903 := ⟨(cutE (m2.at_ 2)).toNat, by unfold cutE; omega, by unfold cutE; omega⟩
       refine go ?_
       refine Sx.ca rfl (refNow (re := nn.re) (rm := nn.rm) (x := x) (m := m2) hmk2.1 (by omega)) ?_
       rintro v' L' ⟨rfl, rfl⟩
       rw [hN]
       refine go ?_
       refine Sx.ca rfl (refPutPin N hN2) ?_
       rintro v' L' ⟨rfl, rfl⟩
       refine go ?_
       refine Cx.openp (a := some ⟨nn.rm, 0, none⟩) rfl ?_
       rintro ⟨r0, c0⟩
       simp only [rmemL, List.cons_append, List.nil_append]
       refine Cx.liftp fun hmm => ?_
       refine Cx.rowkey (a := r0) fun hx0 hn0 _ hk1 => ?_
       obtain ⟨rg, rfl⟩ := row_some (show 3 + who < m2.ws.length by omega) (hk1.imp (fun h => ⟨h.1, h.2.1, h.2.2⟩) id)
       refine Cx.ordc rfl kr_ ?_
       refine ge ?_
       refine Ev.cakH (vs := [x.v, .int .i64 who]) kr_ rfl rfl (refPin hx who hwx) ?_
       refine ge ?_
       refine Ev.strH (b := rg) (u := wd (2 * N + 1)) kr_ rfl rfl rfl rfl rfl (show 0 + ((3 + who : Nat) : Int).toNat * 1 < (us m2.ws).length by rw [length_us]; omega) (us_set m2.ws _ (2 * N + 1)) (Pres.deps kr_) ?_
       refine ge ?_
       refine go ?_
       refine Cx.orde rfl kr_ ?_
       refine ge ?_
       refine Ev.cakH (vs := [x.v, .int .i64 who]) kr_ rfl rfl (layPinN hx who hwx) ?_
       refine ge ?_
       refine Ev.caH kr_ rfl rfl (cellsLay (b := nn.mp) (m := m) (3 + who) (2 * N + 1) (by omega) (by omega)) (Pres.deps kr_) ?_
       rintro v' L' ⟨rfl, rfl⟩
       refine ge ?_
       refine go ?_
       refine Kjn.nm ⟨(m.lay (3 + who) (2 * N + 1), m2.lay (3 + who) (2 * N + 1), ws, hs), hok.pin hx hwx (by omega)⟩ (sub.cons rfl (sub.cons rfl (sub.cons rfl (sub.cons rfl (sub.cons rfl (sub.cons rfl (sub.cons rfl sub.nil))))))) (Ent.trans ?_ (hself _ _))
       rw [show 0 + ((3 + who : Nat) : Int).toNat * 1 = 3 + who by omega]
       refine Ent.trans (RMemO.close (T := 94) (a := some ⟨nn.rm, 0, none⟩) (r := some ⟨rg, 0, none⟩) (m2.lay (3 + who) (2 * N + 1)) ⟨Mm.ok_lay hmm.1 (by omega), by rw [Mm.len_lay]; exact hmm.2⟩ rfl Mm.len_lay.symm rfl) ?_
       exact entm
      ·refine go ?_
       refine Cx.openp (a := some ⟨nn.rm, 0, none⟩) rfl ?_
       rintro ⟨r0, c0⟩
       simp only [rmemL, List.cons_append, List.nil_append]
       refine Cx.liftp fun hmm => ?_
       refine Cx.rowkey (a := r0) fun hx0 hn0 _ hk1 => ?_
       obtain ⟨rg, rfl⟩ := row_some (show 3 + who < m2.ws.length by omega) (hk1.imp (fun h => ⟨h.1, h.2.1, h.2.2⟩) id)
       refine Cx.ordc rfl kr_ ?_
       refine ge ?_
       refine Ev.cakH (vs := [x.v, .int .i64 who]) kr_ rfl rfl (refPin hx who hwx) ?_
       refine ge ?_
       refine Ev.strH (b := rg) (u := wd (0)) kr_ rfl rfl rfl rfl rfl (show 0 + ((3 + who : Nat) : Int).toNat * 1 < (us m2.ws).length by rw [length_us]; omega) (us_set m2.ws _ (0)) (Pres.deps kr_) ?_
       refine ge ?_
       refine go ?_
       refine Cx.orde rfl kr_ ?_
       refine ge ?_
       refine Ev.cakH (vs := [x.v, .int .i64 who]) kr_ rfl rfl (layPinN hx who hwx) ?_
       refine ge ?_
       refine Ev.caH kr_ rfl rfl (cellsLay (b := nn.mp) (m := m) (3 + who) (0) (by omega) (by omega)) (Pres.deps kr_) ?_
       rintro v' L' ⟨rfl, rfl⟩
       refine ge ?_
       refine go ?_
       refine Kjn.nm ⟨(m.lay (3 + who) (0), m2.lay (3 + who) (0), ws, hs), hok.pin hx hwx (by omega)⟩ (sub.cons rfl (sub.cons rfl (sub.cons rfl (sub.cons rfl (sub.cons rfl (sub.cons rfl (sub.cons rfl sub.nil))))))) (Ent.trans ?_ (hself _ _))
       rw [show 0 + ((3 + who : Nat) : Int).toNat * 1 = 3 + who by omega]
       refine Ent.trans (RMemO.close (T := 94) (a := some ⟨nn.rm, 0, none⟩) (r := some ⟨rg, 0, none⟩) (m2.lay (3 + who) (0)) ⟨Mm.ok_lay hmm.1 (by omega), by rw [Mm.len_lay]; exact hmm.2⟩ rfl Mm.len_lay.symm rfl) ?_
       exact entm
 ·dsimp only [gpF]
  have hlist := hok.list
  refine go ?_
  refine Cx.ordc rfl kr_ ?_
  refine ge ?_
  iterate 7 (refine Ev.bring 1 rfl ?_; refine ge ?_)
  refine Ev.caH kr_ rfl rfl (stackList (sb := nn.pb) (mp := nn.mp) (k := x.pool) (m := m) hkk) (.keep (fun v L' ⟨_, _, _, e⟩ => by subst e; exact Has.cell rfl) (.keep (fun v L' ⟨_, _, _, e⟩ => by subst e; exact Has.cell rfl) (.dep rfl .nil))) ?_
  rintro v' L' ⟨ro, co, rfl, rfl⟩
  refine ge ?_
  refine Ev.caH kr_ rfl rfl (refStackList (sb := nn.rp) (rm := nn.rm) (k := x.pool) (m := m2) hkk2) (Pres.deps kr_) ?_
  rw [hlist]
  rintro v' L' ⟨ro2, co2, rfl, rfl⟩
  refine ge ?_
  refine Ev.cakH kr_ rfl rfl (sameIntsS (xs := listK x.pool m) (ys := listK x.pool m) (a := ro) (b := ro2) (by omega)) ?_
  rw [decide_eq_true rfl]
  refine ge ?_
  refine go ?_
  exact Kr.one (.inr rfl) rfl (Ent.refl _) ⟨rfl, entm⟩
end
end Go.Proofs.YtggnbdeokmdjbaaGreat
