/-
  Parts of the proof, merged: what the statement leans on.
-/
import Derived.Test.YtflalhdofhobmaaGreatZHdD
/-
  Roots: a Create's steps.
-/
set_option linter.unusedVariables false
set_option linter.unusedSimpArgs false
namespace Go.Proofs.YtflalhdofhobmaaGreat
open Go
attribute [local irreducible] Sx Cx Rx Fx Krg Ksq Kbl Klp Kr
section
variable {L F G : St}
/-- Its Pop is done. -/
theorem crPopped_ {b r sp p : Nat} {k : Sk} {cl : Nat} {c : CreS} {n1 n2 n3 : Value} {cnt : Int} (hcnt : cnt = ((c.cnt + 1 : Nat) : Int)) (h0 : c.at_ = 0) (hd : c.done = false) {q : PopS} (hq : q.done = true) (hl : q.got.length ≤ 8) :
    Fx Tryz.prog 165 [.pointer (some ⟨b, 0, none⟩)] (crB b r .nilFunc n1 n2 n3 (.pointer (some ⟨p, 0, none⟩)) cl cnt c.slot c.point (c.rt cl) c.code :: pt (some ⟨p, 0, none⟩) (PopO sp k q) :: G)
      (fun v L' => L' = pt (some ⟨b, 0, none⟩) (CreO r sp k cl (crPopped { c with cnt := c.cnt + 1, q := q })) :: G) := by
  subst hcnt
  refine Fx.mk Tryz.func165 k165 (Nat.le_of_ble_eq_true rfl) ?_
  dsimp only [c165, envOf, Nat.reduceAdd]
  refine go ?_
  refine Sx.ca rfl (machCount (b := b)) ?_
  rintro v L' ⟨rfl, rfl⟩
  refine go ?_
  refine Sx.ca rfl (popGot (b := p) (sb := sp) (k := k) (q := q) hq) ?_
  rintro v L' ⟨ro, co, rfl, rfl⟩
  refine go ?_
  cases hg : q.got with
  | nil =>
    have e : crPopped { c with cnt := c.cnt + 1, q := q } = { c with cnt := c.cnt + 1, q := q, point := c.cnt + 1, code := 7, done := true } := by unfold crPopped; rw [hg]
    rw [e]
    refine go ?_
    refine Kr.none (.inr rfl) ?_ rfl
    refine Ent.trans (Ent.take (a := some ⟨b, 0, none⟩)) ?_
    refine Ent.trans (CreO.closeD (b := b) (r := r) (sp := sp) (k := k) (cl := cl) (rt := c.rt cl) { c with cnt := c.cnt + 1, q := q, point := c.cnt + 1, code := 7, done := true } rfl rfl rfl rfl rfl rfl) (Ent.cons ?_)
    exact ent
  | cons y l =>
    have e : crPopped { c with cnt := c.cnt + 1, q := q } = { c with cnt := c.cnt + 1, q := q, point := c.cnt + 1, slot := y, at_ := 1 } := by unfold crPopped; rw [hg]
    rw [e]
    rw [hg] at hl
    simp only [List.length_cons] at hl ⊢
    refine Cx.cno rfl (decide_eq_false (by omega)) ?_
    refine Cx.rowkey (a := ro) fun hx0 hn0 hc0 hk0 => ?_
    obtain ⟨rg, rfl⟩ : ∃ g, ro = some ⟨g, 0, none⟩ := by
      rcases hk0 with h | h
      · omega
      · exact h
    refine go ?_
    refine Sx.pv rfl ⟨by omega, by omega⟩ ?_
    refine Sx.ldr (b := rg) rfl (v := .int .i64 y) rfl ?_
    refine go ?_
    refine Sx.ca rfl (machGo (b := b)) ?_
    rintro v L' ⟨rfl, rfl⟩
    refine go ?_
    refine Kr.none (.inl rfl) ?_ rfl
    refine Ent.trans (Ent.take (a := some ⟨b, 0, none⟩)) ?_
    refine Ent.trans (CreO.closeL (b := b) (r := r) (sp := sp) (k := k) (cl := cl) (rt := c.rt cl) { c with cnt := c.cnt + 1, q := q, point := c.cnt + 1, slot := y, at_ := 1 } hd rfl rfl rfl rfl ?_ rfl) (Ent.cons ?_)
    · unfold CreS.rt; dsimp only; rw [if_neg (by omega), if_neg (by omega)]
    · exact ent
theorem crLoad_ {b r mp sp : Nat} {x : Cn} {m : Mm} {cl : Nat} {c : CreS} {n1 n2 n3 pp : Value} {cnt : Int} (hcnt : cnt = ((c.cnt + 1 : Nat) : Int)) (h1 : c.at_ = 1) (hd : c.done = false) (hx : x.ok) (hm : m.ok) (hl : x.len ≤ m.ws.length) (hs : 0 ≤ c.slot ∧ c.slot < x.sl) :
    Fx Tryz.prog 224 [.pointer (some ⟨b, 0, none⟩)] (crB b r .nilFunc n1 n2 n3 pp cl cnt c.slot c.point (c.rt cl) c.code :: pt (some ⟨r, 0, none⟩) (RoO mp sp x) :: pt (some ⟨mp, 0, none⟩) (MemO m) :: G)
      (fun v L' => L' = pt (some ⟨b, 0, none⟩) (CreO r sp x.spare cl { c with cnt := c.cnt + 1, was := m.at_ (x.root + c.slot.toNat), at_ := 2 }) :: pt (some ⟨mp, 0, none⟩) (MemO m.tick) :: pt (some ⟨r, 0, none⟩) (RoO mp sp x) :: G) := by
  subst hcnt
  obtain ⟨s, hs1⟩ : ∃ s : Nat, c.slot = s := ⟨c.slot.toNat, by omega⟩
  rw [hs1, Int.toNat_natCast]
  refine Fx.mk Tryz.func224 k224 (Nat.le_of_ble_eq_true rfl) ?_
  dsimp only [c224, envOf, Nat.reduceAdd]
  refine Cx.sq ?_
  refine Cx.rd ?_
  refine Rx.pvs rfl ?_
  refine Rx.ldbK 0 rfl rfl rfl (by rfl) rfl rfl ?_
  refine Rx.pvs rfl ?_
  refine Rx.ldbK 0 rfl rfl rfl (by rfl) rfl rfl ?_
  refine Rx.pvs rfl ?_
  refine Rx.two rfl rfl rfl ?_ ?_
  · refine Sx.ca rfl (rootsLoad (g := r) (mp := mp) (sb := sp) (x := x) (m := m) s (by omega) hx hm hl) ?_
    rintro v L' ⟨rfl, rfl⟩
    refine Sx.nil ⟨⟨⟨trivial, Has.cell rfl⟩, Has.cell rfl⟩, ?_⟩
    refine Rx.pvs rfl ?_
    refine Rx.one rfl rfl rfl ?_
    refine Sx.al fun q => ?_
    refine Sx.nil ⟨⟨⟨trivial, Has.cell rfl⟩, Has.cell rfl⟩, ?_⟩
    refine Rx.pvs rfl ?_
    refine Rx.one rfl rfl rfl ?_
    refine Sx.st (b := q) rfl rfl rfl rfl rfl rfl ?_
    refine Sx.re (rtL (rtOf (m.at_ (x.root + s)))) rfl ?_
    refine Sx.nil ⟨⟨⟨trivial, Has.cell rfl⟩, Has.cell rfl⟩, ?_⟩
    refine Rx.nil ?_
    refine go ?_
    refine Sx.ca rfl (crNext (b := b) (r := r) (cl := cl) (rtOf (m.at_ (x.root + s))) (rtOf_gen (Mm.at_lt hm _))) ?_
    rintro v L' ⟨rfl, rfl⟩
    refine go ?_
    refine Sx.st (b := b) rfl rfl rfl rfl rfl rfl ?_
    refine Sx.re [.nilFunc, n1, n2, n3, .int .i64 ((c.cnt + 1 : Nat) : Int), .pointer (some ⟨r, 0, none⟩), .int .i64 cl, pp, .int .i64 (s : Nat), .int .i64 (c.point : Nat), .int .i64 ((nextRt cl (m.at_ (x.root + s))).gen : Nat), .int .i64 ((nextRt cl (m.at_ (x.root + s))).mrk : Nat), .int .i64 ((nextRt cl (m.at_ (x.root + s))).cl : Nat), .int .i64 ((nextRt cl (m.at_ (x.root + s))).off : Nat), .int .i64 (c.code : Nat)] rfl ?_
    refine go ?_
    refine Sx.ca rfl (machGo (b := b)) ?_
    rintro v L' ⟨rfl, rfl⟩
    refine go ?_
    refine Kr.none (.inl rfl) ?_ rfl
    refine Ent.trans (Ent.take (a := some ⟨b, 0, none⟩)) ?_
    refine Ent.trans (CreO.closeS (b := b) (r := r) (sp := sp) (k := x.spare) (cl := cl) (rt := nextRt cl (m.at_ (x.root + s))) { c with cnt := c.cnt + 1, slot := (s : Int), was := m.at_ (x.root + s), at_ := 2 } hd rfl rfl rfl rfl ?_ rfl) (Ent.cons ?_)
    · unfold CreS.rt; dsimp only; rw [if_pos rfl]
    · exact ent
  · refine Sx.al fun q => ?_
    refine Sx.nil ⟨⟨⟨trivial, Has.cell rfl⟩, Has.cell rfl⟩, ?_⟩
    refine Rx.pvs rfl ?_
    refine Rx.one rfl rfl rfl ?_
    refine Sx.ca rfl (rootsLoad (g := r) (mp := mp) (sb := sp) (x := x) (m := m) s (by omega) hx hm hl) ?_
    rintro v L' ⟨rfl, rfl⟩
    refine Sx.nil ⟨⟨⟨trivial, Has.cell rfl⟩, Has.cell rfl⟩, ?_⟩
    refine Rx.pvs rfl ?_
    refine Rx.one rfl rfl rfl ?_
    refine Sx.st (b := q) rfl rfl rfl rfl rfl rfl ?_
    refine Sx.re (rtL (rtOf (m.at_ (x.root + s)))) rfl ?_
    refine Sx.nil ⟨⟨⟨trivial, Has.cell rfl⟩, Has.cell rfl⟩, ?_⟩
    refine Rx.nil ?_
    refine go ?_
    refine Sx.ca rfl (crNext (b := b) (r := r) (cl := cl) (rtOf (m.at_ (x.root + s))) (rtOf_gen (Mm.at_lt hm _))) ?_
    rintro v L' ⟨rfl, rfl⟩
    refine go ?_
    refine Sx.st (b := b) rfl rfl rfl rfl rfl rfl ?_
    refine Sx.re [.nilFunc, n1, n2, n3, .int .i64 ((c.cnt + 1 : Nat) : Int), .pointer (some ⟨r, 0, none⟩), .int .i64 cl, pp, .int .i64 (s : Nat), .int .i64 (c.point : Nat), .int .i64 ((nextRt cl (m.at_ (x.root + s))).gen : Nat), .int .i64 ((nextRt cl (m.at_ (x.root + s))).mrk : Nat), .int .i64 ((nextRt cl (m.at_ (x.root + s))).cl : Nat), .int .i64 ((nextRt cl (m.at_ (x.root + s))).off : Nat), .int .i64 (c.code : Nat)] rfl ?_
    refine go ?_
    refine Sx.ca rfl (machGo (b := b)) ?_
    rintro v L' ⟨rfl, rfl⟩
    refine go ?_
    refine Kr.none (.inl rfl) ?_ rfl
    refine Ent.trans (Ent.take (a := some ⟨b, 0, none⟩)) ?_
    refine Ent.trans (CreO.closeS (b := b) (r := r) (sp := sp) (k := x.spare) (cl := cl) (rt := nextRt cl (m.at_ (x.root + s))) { c with cnt := c.cnt + 1, slot := (s : Int), was := m.at_ (x.root + s), at_ := 2 } hd rfl rfl rfl rfl ?_ rfl) (Ent.cons ?_)
    · unfold CreS.rt; dsimp only; rw [if_pos rfl]
    · exact ent
theorem crStore_ {b r mp sp : Nat} {x : Cn} {m : Mm} {cl : Nat} {c : CreS} {n1 n2 n3 pp : Value} {cnt : Int} (hcnt : cnt = ((c.cnt + 1 : Nat) : Int)) (h2 : c.at_ = 2) (hcl : cl ≤ 3) (hx : x.ok) (hw : c.was < 18446744073709551616) (hl : x.len ≤ m.ws.length) (hs : 0 ≤ c.slot ∧ c.slot < x.sl) :
    Fx Tryz.prog 252 [.pointer (some ⟨b, 0, none⟩)] (crB b r .nilFunc n1 n2 n3 pp cl cnt c.slot c.point (c.rt cl) c.code :: pt (some ⟨r, 0, none⟩) (RoO mp sp x) :: pt (some ⟨mp, 0, none⟩) (MemO m) :: G)
      (fun v L' => L' = pt (some ⟨b, 0, none⟩) (CreO r sp x.spare cl { c with cnt := c.cnt + 1, done := true }) :: pt (some ⟨mp, 0, none⟩) (MemO (m.put (x.root + c.slot.toNat) (nextRt cl c.was).w)) :: pt (some ⟨r, 0, none⟩) (RoO mp sp x) :: G) := by
  subst hcnt
  have hsz : x.root + x.sl ≤ x.len := by unfold Cn.root Cn.len; omega
  have hrt : c.rt cl = nextRt cl c.was := by unfold CreS.rt; rw [if_pos h2]
  have hnk := nextRt_ok hw hcl
  obtain ⟨s, hs1⟩ : ∃ s : Nat, c.slot = s := ⟨c.slot.toNat, by omega⟩
  rw [hs1, Int.toNat_natCast, hrt]
  obtain ⟨R, hR⟩ : ∃ R, nextRt cl c.was = R := ⟨_, rfl⟩
  rw [hR] at hnk ⊢
  refine Fx.mk Tryz.func252 k252 (Nat.le_of_ble_eq_true rfl) ?_
  dsimp only [c252, envOf, Nat.reduceAdd]
  refine go ?_
  refine Sx.ca rfl (putRoot R hnk) ?_
  rintro v L' ⟨rfl, rfl⟩
  refine go ?_
  refine Cx.orde rfl (by kernel_rfl) ?_
  refine ge ?_
  refine Ev.cakH (by kernel_rfl) rfl rfl (layRootN hx s (by omega)) ?_
  refine ge ?_
  refine Ev.caH (by kernel_rfl) rfl rfl (cellsStore (b := mp) (m := m) (x.root + s) R.w (by omega) (Rt.w_lt hnk)) (Pres.deps (by kernel_rfl)) ?_
  rintro v L' ⟨rfl, rfl⟩
  refine ge ?_
  refine Kr.none (.inl rfl) ?_ rfl
  refine Ent.trans (Ent.take (a := some ⟨b, 0, none⟩)) ?_
  refine Ent.trans (CreO.closeD (b := b) (r := r) (sp := sp) (k := x.spare) (cl := cl) (rt := R) { c with cnt := c.cnt + 1, slot := (s : Int), done := true } rfl rfl rfl rfl (by rw [← hR, ← hrt]; rfl) rfl) (Ent.cons ?_)
  exact ent
theorem cr_l {k : Sk} {m : Mm} {q : PopS} (h : q.ok k) {len : Nat} (hk : k.ok len) (hm : m.ok) : (popStep k m q).1.got.length ≤ 8 := (popStep_ok hk hm h).len
/-- One access of a Create. -/
theorem crStepC {b r mp sp : Nat} {x : Cn} {m : Mm} {cl : Nat} {c : CreS} {F1 F2 F3 : St} (hx : x.ok) (hl : x.len ≤ m.ws.length) (hcl : cl ≤ 3) (hc : c.ok x.spare)
    [t1 : Take L (some ⟨b, 0, none⟩) (CreO r sp x.spare cl c) F1] [t2 : Take F1 (some ⟨mp, 0, none⟩) (MemO m) F2] [t3 : Take F2 (some ⟨r, 0, none⟩) (RoO mp sp x) F3] [t4 : Take F3 (some ⟨sp, 0, none⟩) (SkO mp x.spare) G] :
    Fx Tryz.prog 86 [.pointer (some ⟨b, 0, none⟩)] L
      (fun v L' => v = .bool (!c.done) ∧ L' = pt (some ⟨b, 0, none⟩) (CreO r sp x.spare cl (crStep x.spare x.root cl m c).1) :: pt (some ⟨mp, 0, none⟩) (MemO (crStep x.spare x.root cl m c).2) :: F2) := by
  have hback : Ent (pt (some ⟨r, 0, none⟩) (RoO mp sp x) :: pt (some ⟨sp, 0, none⟩) (SkO mp x.spare) :: G) F2 := Ent.trans (Ent.cons (Ent.of t4.back)) (Ent.of t3.back)
  obtain ⟨ha, hq0, hw, hs, hn⟩ := hc
  refine Fx.mk Tryz.func86 k86 (Nat.le_of_ble_eq_true rfl) ?_
  dsimp only [c86, envOf, Nat.reduceAdd]
  refine Cx.ent (Ent.trans (Ent.of t1.out) (Ent.cons (Ent.trans (Ent.of t2.out) (Ent.cons (Ent.trans (Ent.of t3.out) (Ent.cons (Ent.of t4.out))))))) ?_
  refine Cx.pure (memKey (b := mp) (m := m)) fun hm => ?_
  have hk := hx.spare (n := m.ws.length) hl hm.2
  cases hd : c.done with
  | true =>
    have e1 : crStep x.spare x.root cl m c = (c, m) := by unfold crStep; rw [hd]; rfl
    rw [e1]
    refine Cx.openp (a := some ⟨b, 0, none⟩) (CreO.d hd) ?_
    rintro ⟨n1, n2, n3, pp⟩
    simp only [crSL, List.cons_append, List.nil_append]
    refine go ?_
    refine Sx.ca rfl (machStepDone (b := b)) ?_
    rintro v L' ⟨rfl, rfl⟩
    refine go ?_
    exact Kr.one (.inr rfl) rfl (Ent.trans (CreO.closeD c hd rfl rfl rfl rfl rfl) (Ent.cons (Ent.cons hback))) ⟨rfl, rfl⟩
  | false =>
    rcases (show c.at_ = 0 ∨ c.at_ = 1 ∨ c.at_ = 2 by omega) with h0 | h0 | h0
    · refine Cx.openp (a := some ⟨b, 0, none⟩) (CreO.p hd h0) ?_
      intro p
      simp only [crPL, List.cons_append, List.nil_append]
      have hlen := cr_l (m := m) hq0 hk hm.1
      cases hq : (popStep x.spare m c.q).1.done with
      | true =>
        have e1 : crStep x.spare x.root cl m c = (crPopped { c with cnt := c.cnt + 1, q := (popStep x.spare m c.q).1 }, (popStep x.spare m c.q).2) := by unfold crStep; rw [hd, h0]; simp only [Bool.false_eq_true, if_false, hq, if_true]
        rw [e1]
        refine go ?_
        refine Sx.ca rfl (machStep (b := b) (by kernel_rfl) (machGoes (b := b) (by kernel_rfl) (popStepC (b := p) (mp := mp) (sb := sp) (k := x.spare) (m := m) (q := c.q) hk)
          (R2 := fun v L' => v = .tuple #[] ∧ ∃ w : Value, L' = pt (some ⟨b, 0, none⟩) (CreO r sp x.spare cl (crPopped { c with cnt := c.cnt + 1, q := (popStep x.spare m c.q).1 })) :: pt (some ⟨mp, 0, none⟩) (MemO (popStep x.spare m c.q).2) :: pt (some ⟨r, 0, none⟩) (RoO mp sp x) :: pt (some ⟨sp, 0, none⟩) (SkO mp x.spare) :: G) ?_)) ?_
        · rintro v L1 ⟨rfl, rfl⟩
          have hon := machOnYes (b := b) (by kernel_rfl) (fd := 164) (ft := 165) (w := .pointer (some ⟨p, 0, none⟩)) (u := .pointer (some ⟨b, 0, none⟩))
            (L := pt (some ⟨p, 0, none⟩) (PopO sp x.spare (popStep x.spare m c.q).1) :: pt (some ⟨mp, 0, none⟩) (MemO (popStep x.spare m c.q).2) :: crB b r .nilFunc (mth 163 p) (mth 164 p) (mth 165 b) (.pointer (some ⟨p, 0, none⟩)) cl (IntKind.i64.wrap ((c.cnt : Int) + 1)) c.slot c.point (c.rt cl) c.code :: pt (some ⟨r, 0, none⟩) (RoO mp sp x) :: pt (some ⟨sp, 0, none⟩) (SkO mp x.spare) :: G)
            ((popDoneC (b := p) (sb := sp) (k := x.spare) (q := (popStep x.spare m c.q).1)).mono (by rintro v L' ⟨rfl, rfl⟩; exact ⟨by rw [hq], rfl⟩)) (by kernel_rfl)
            (Fx.ent (M := crB b r .nilFunc (mth 163 p) (mth 164 p) (mth 165 b) (.pointer (some ⟨p, 0, none⟩)) cl (IntKind.i64.wrap ((c.cnt : Int) + 1)) c.slot c.point (c.rt cl) c.code :: pt (some ⟨p, 0, none⟩) (PopO sp x.spare (popStep x.spare m c.q).1) :: pt (some ⟨mp, 0, none⟩) (MemO (popStep x.spare m c.q).2) :: pt (some ⟨r, 0, none⟩) (RoO mp sp x) :: pt (some ⟨sp, 0, none⟩) (SkO mp x.spare) :: G) (by exact ent)
              (crPopped_ (b := b) (r := r) (sp := sp) (p := p) (k := x.spare) (cl := cl) (c := c) (cntW hn) h0 hd hq hlen))
          refine hon.mono ?_
          rintro v L' ⟨rfl, w, rfl⟩
          exact ⟨rfl, .tuple #[], rfl⟩
        · rintro v L' ⟨rfl, w, _, w2, _, w3, rfl⟩
          refine go ?_
          exact Kr.one (.inr rfl) rfl (Ent.cons (Ent.cons hback)) ⟨rfl, rfl⟩
      | false =>
        have e1 : crStep x.spare x.root cl m c = ({ c with cnt := c.cnt + 1, q := (popStep x.spare m c.q).1 }, (popStep x.spare m c.q).2) := by unfold crStep; rw [hd, h0]; simp only [Bool.false_eq_true, if_false, hq]
        rw [e1]
        refine go ?_
        refine Sx.ca rfl (machStep (b := b) (by kernel_rfl) (machGoes (b := b) (by kernel_rfl) (popStepC (b := p) (mp := mp) (sb := sp) (k := x.spare) (m := m) (q := c.q) hk)
          (R2 := fun v L' => v = .tuple #[] ∧ L' = crB b r (mth 232 b) (mth 163 p) (mth 164 p) (mth 165 b) (.pointer (some ⟨p, 0, none⟩)) cl (IntKind.i64.wrap ((c.cnt : Int) + 1)) c.slot c.point (c.rt cl) c.code ::
            pt (some ⟨p, 0, none⟩) (PopO sp x.spare (popStep x.spare m c.q).1) :: pt (some ⟨mp, 0, none⟩) (MemO (popStep x.spare m c.q).2) :: pt (some ⟨r, 0, none⟩) (RoO mp sp x) :: pt (some ⟨sp, 0, none⟩) (SkO mp x.spare) :: G) ?_)) ?_
        · rintro v L1 ⟨rfl, rfl⟩
          refine (machOnNo (b := b) (by kernel_rfl) ((popDoneC (b := p) (sb := sp) (k := x.spare) (q := (popStep x.spare m c.q).1)).mono (by rintro v L' ⟨rfl, rfl⟩; exact ⟨by rw [hq], rfl⟩))).mono ?_
          rintro v L' ⟨rfl, rfl⟩
          exact ⟨rfl, rfl⟩
        · rintro v L' ⟨rfl, w, _, w2, _, rfl⟩
          refine go ?_
          refine Kr.one (.inr rfl) rfl ?_ ⟨rfl, rfl⟩
          refine Ent.trans (CreO.closeP (p := p) { c with cnt := c.cnt + 1, q := (popStep x.spare m c.q).1 } hd h0 (cntW hn) rfl rfl rfl rfl rfl) (Ent.cons ?_)
          exact Ent.cons hback
    · refine Cx.openp (a := some ⟨b, 0, none⟩) (CreO.l hd h0) ?_
      rintro ⟨n1, n2, n3, pp⟩
      simp only [crSL, List.cons_append, List.nil_append]
      have e1 : crStep x.spare x.root cl m c = ({ c with cnt := c.cnt + 1, was := m.at_ (x.root + c.slot.toNat), at_ := 2 }, m.tick) := by unfold crStep; rw [hd, h0]; rfl
      rw [e1]
      refine Cx.ent (M := crB b r (mth 224 b) n1 n2 n3 pp cl c.cnt c.slot c.point (c.rt cl) c.code :: pt (some ⟨r, 0, none⟩) (RoO mp sp x) :: pt (some ⟨mp, 0, none⟩) (MemO m) :: pt (some ⟨sp, 0, none⟩) (SkO mp x.spare) :: G) (by exact ent) ?_
      refine go ?_
      refine Sx.ca rfl (machStep (b := b) (by kernel_rfl) (crLoad_ (b := b) (r := r) (mp := mp) (sp := sp) (x := x) (m := m) (cl := cl) (c := c) (cntW hn) h0 hd hx hm.1 hl (hs (by omega)))) ?_
      rintro v L' ⟨rfl, w, rfl⟩
      refine go ?_
      exact Kr.one (.inr rfl) rfl (Ent.cons (Ent.cons hback)) ⟨rfl, rfl⟩
    · refine Cx.openp (a := some ⟨b, 0, none⟩) (CreO.s hd h0) ?_
      rintro ⟨n1, n2, n3, pp⟩
      simp only [crSL, List.cons_append, List.nil_append]
      have e1 : crStep x.spare x.root cl m c = ({ c with cnt := c.cnt + 1, done := true }, m.put (x.root + c.slot.toNat) (nextRt cl c.was).w) := by unfold crStep; rw [hd, h0]; rfl
      rw [e1]
      refine Cx.ent (M := crB b r (mth 252 b) n1 n2 n3 pp cl c.cnt c.slot c.point (c.rt cl) c.code :: pt (some ⟨r, 0, none⟩) (RoO mp sp x) :: pt (some ⟨mp, 0, none⟩) (MemO m) :: pt (some ⟨sp, 0, none⟩) (SkO mp x.spare) :: G) (by exact ent) ?_
      refine go ?_
      refine Sx.ca rfl (machStep (b := b) (by kernel_rfl) (crStore_ (b := b) (r := r) (mp := mp) (sp := sp) (x := x) (m := m) (cl := cl) (c := c) (cntW hn) h0 hcl hx hw hl (hs (by omega)))) ?_
      rintro v L' ⟨rfl, w, rfl⟩
      refine go ?_
      exact Kr.one (.inr rfl) rfl (Ent.cons (Ent.cons hback)) ⟨rfl, rfl⟩
theorem crDone {b r sp : Nat} {k : Sk} {cl : Nat} {c : CreS} {F1 : St} (hd : c.done = true) [t1 : Take L (some ⟨b, 0, none⟩) (CreO r sp k cl c) F1] : Fx Tryz.prog 89 [.pointer (some ⟨b, 0, none⟩)] L (fun v L' => v = .bool true ∧ L = L') := by
  refine Fx.kept (t := t1) ?_
  refine Fx.mk Tryz.func89 k89 (Nat.le_of_ble_eq_true rfl) ?_
  dsimp only [c89, envOf, Nat.reduceAdd]
  refine Cx.ent (Ent.of t1.out) ?_
  refine Cx.openp (a := some ⟨b, 0, none⟩) (CreO.d hd) ?_
  rintro ⟨n1, n2, n3, pp⟩
  simp only [crSL, List.cons_append, List.nil_append]
  refine go ?_
  refine Sx.ca rfl (machDoneYes (b := b)) ?_
  rintro v L' ⟨rfl, rfl⟩
  refine go ?_
  exact Kr.one (.inr rfl) rfl (CreO.closeD c hd rfl rfl rfl rfl rfl) ⟨rfl, rfl⟩
theorem crCode {b r sp : Nat} {k : Sk} {cl : Nat} {c : CreS} {F1 : St} (hd : c.done = true) [t1 : Take L (some ⟨b, 0, none⟩) (CreO r sp k cl c) F1] : Fx Tryz.prog 90 [.pointer (some ⟨b, 0, none⟩)] L (fun v L' => v = .int .i64 (c.code : Nat) ∧ L = L') := by
  refine Fx.kept (t := t1) ?_
  refine Fx.mk Tryz.func90 k90 (Nat.le_of_ble_eq_true rfl) ?_
  dsimp only [c90, envOf, Nat.reduceAdd]
  refine Cx.ent (Ent.of t1.out) ?_
  refine Cx.openp (a := some ⟨b, 0, none⟩) (CreO.d hd) ?_
  rintro ⟨n1, n2, n3, pp⟩
  simp only [crSL, List.cons_append, List.nil_append]
  refine go ?_
  exact Kr.one (.inr rfl) rfl (CreO.closeD c hd rfl rfl rfl rfl rfl) ⟨rfl, rfl⟩
/-- The region that was made. -/
theorem crRegion {b r sp : Nat} {k : Sk} {cl : Nat} {c : CreS} {F1 : St} (hd : c.done = true) (h2 : c.at_ = 2) (h0 : c.code = 0) [t1 : Take L (some ⟨b, 0, none⟩) (CreO r sp k cl c) F1] : Fx Tryz.prog 88 [.pointer (some ⟨b, 0, none⟩)] L
    (fun v L' => v = .tuple #[.int .i64 c.slot, .int .i64 (laterT (rtOf c.was).gen : Nat)] ∧ L = L') := by
  refine Fx.kept (t := t1) ?_
  have hrt : c.rt cl = nextRt cl c.was := by unfold CreS.rt; rw [if_pos h2]
  refine Fx.mk Tryz.func88 k88 (Nat.le_of_ble_eq_true rfl) ?_
  dsimp only [c88, envOf, Nat.reduceAdd]
  refine Cx.ent (Ent.of t1.out) ?_
  refine go ?_
  refine Sx.ca rfl (crDone (b := b) (r := r) (sp := sp) (k := k) (cl := cl) (c := c) hd) ?_
  rintro v L' ⟨rfl, rfl⟩
  refine Sx.openp (a := some ⟨b, 0, none⟩) (CreO.d hd) ?_
  rintro ⟨n1, n2, n3, pp⟩
  simp only [crSL, List.cons_append, List.nil_append]
  rw [h0]
  refine go ?_
  refine Cx.ordc rfl (by kernel_rfl) ?_
  refine ge ?_
  refine go ?_
  refine Kr.two (.inr rfl) rfl rfl (CreO.closeD c hd rfl rfl rfl rfl h0.symm) ⟨?_, rfl⟩
  rw [hrt]; rfl
end
end Go.Proofs.YtflalhdofhobmaaGreat

/-
  The document's roots; its Create.
-/
set_option linter.unusedVariables false
set_option linter.unusedSimpArgs false
namespace Go.Proofs.YtflalhdofhobmaaGreat
open Go
attribute [local irreducible] Sx Cx Rx Fx Krg Ksq Kbl Klp Kr
section
variable {L F G : St}
theorem refRootAt {x : Cn} (hx : x.ok) (i : Nat) (hi : i < x.sl) : Fx Tryz.prog 97 [x.v, .int .i64 i] L (fun v L' => v = .int .i64 ((x.root + i : Nat) : Int) ∧ L = L') := by
  obtain ⟨b1, b2, b3, b4, b5, b6, b7⟩ := hx.b
  refine Fx.mk Tryz.func97 k97 (Nat.le_of_ble_eq_true rfl) ?_
  dsimp only [c97, envOf, Nat.reduceAdd]
  refine Cx.sq ?_
  refine Cx.rg ?_
  refine Sx.bx rfl rfl fun g => ?_
  refine go ?_
  rw [w64 (n := (3 : Int) + x.w) (by omega) (by omega)]
  refine Sx.ca rfl (refAt hx ((3 : Int) + x.w) x.sl i hi (by omega) (by omega)) ?_
  rintro v L' ⟨rfl, rfl⟩
  refine go ?_
  refine Kr.one (.inr rfl) rfl Ent.drop ⟨congrArg (Value.int .i64) ?_, rfl⟩
  unfold Cn.root; omega
theorem refGetRoot (w : Nat) (hw : w < 18446744073709551616) : Fx Tryz.prog 100 [wd w] L (fun v L' => v = rtV (rtOf w) ∧ L = L') := by
  refine Fx.mk Tryz.func100 k100 (Nat.le_of_ble_eq_true rfl) ?_
  dsimp only [c100, envOf, Nat.reduceAdd]
  refine Cx.sq ?_
  refine Cx.rg ?_
  refine Sx.al fun g => ?_
  refine gg ?_
  have h1 := rtOf_gen hw
  have h2 := rtOf_mrk w
  have h3 := rtOf_cl w
  have h4 := rtOf_off w
  have d1 : (w : Int).tdiv 4294967296 = ((w / 4294967296 : Nat) : Int) := rfl
  have d2 : (w : Int).tdiv 65536 = ((w / 65536 : Nat) : Int) := rfl
  have d3 : (w : Int).tdiv 4096 = ((w / 4096 : Nat) : Int) := rfl
  have d4 : ((w / 65536 : Nat) : Int).tmod 65536 = ((w / 65536 % 65536 : Nat) : Int) := rfl
  have d5 : ((w / 4096 : Nat) : Int).tmod 16 = ((w / 4096 % 16 : Nat) : Int) := rfl
  have d6 : (w : Int).tmod 4096 = ((w % 4096 : Nat) : Int) := rfl
  rw [d1, d2, d3, d6, wrap64 (n := w / 4294967296) (by omega), wrap64 (n := w / 65536) (by omega), wrap64 (n := w / 4096) (by omega), d4, d5]
  rw [show w / 4294967296 = (rtOf w).gen from rfl, show w / 65536 % 65536 = (rtOf w).mrk from rfl, show w / 4096 % 16 = (rtOf w).cl from rfl, show w % 4096 = (rtOf w).off from rfl]
  rw [w64 (n := ((rtOf w).gen : Int)) (by omega) (by omega), w64 (n := ((rtOf w).mrk : Int)) (by omega) (by omega), w64 (n := ((rtOf w).cl : Int)) (by omega) (by omega), w64 (n := ((rtOf w).off : Int)) (by omega) (by omega)]
  refine Sx.st (b := g) rfl rfl rfl rfl rfl rfl ?_
  dsimp only [lay]
  refine go ?_
  exact Kr_cell (b := g) (.inr rfl) rfl rfl (L' := L) Ent.drop ⟨rfl, rfl⟩
theorem refLater (n : Nat) (h : n < 4294967296) : Fx Tryz.prog 169 [.int .i64 n] L (fun v L' => v = .int .i64 (laterT n : Nat) ∧ L = L') := by
  refine Fx.mk Tryz.func169 k169 (Nat.le_of_ble_eq_true rfl) ?_
  dsimp only [c169, envOf, Nat.reduceAdd]
  repeat' (first|refine Zo0 rfl ?_|refine Zo1 ?_|refine Zo2 ?_|refine Zo3 ?_|refine Zo4 ?_|refine Zo5 ?_|refine Zo6 ?_|refine Zo7 ?_|refine Zo8 rfl ?_|refine Zo9 rfl ?_|refine Zoa ?_|refine Zob ?_|refine Zoc ?_|refine Zod ?_|refine Zoe ?_|refine Zof ?_|refine Zog ?_|refine Zoh ?_|refine Zom rfl (by rfl) ?_|refine Zon rfl rfl ?_|refine Zoo rfl rfl rfl rfl (by rfl) (by rfl) ?_|refine Zop rfl trivial ?_|refine Zoq rfl rfl rfl ?_)
  refine Cx.ifp rfl (fun h => ?_) (fun h => ?_)
  · refine go ?_
    refine Kr.one (.inr rfl) rfl (Ent.refl _) ⟨by unfold laterT; rw [if_neg (by omega)]; rfl, rfl⟩
  · refine go ?_
    rw [w64 (n := (n : Int) + 1) (by omega) (by omega)]
    refine Kr.one (.inr rfl) rfl (Ent.refl _) ⟨by unfold laterT; rw [if_pos (by omega)]; rfl, rfl⟩
set_option maxHeartbeats 1000000 in
theorem refPutRoot (r : Rt) (h : r.ok) : Fx Tryz.prog 101 [rtV r] L (fun v L' => v = .tuple #[wd r.w, .bool true] ∧ L = L') := by
  obtain ⟨h1, h2, h3, h4⟩ := h
  refine Fx.mk Tryz.func101 k101 (Nat.le_of_ble_eq_true rfl) ?_
  dsimp only [c101, envOf, Nat.reduceAdd]
  refine Cx.sq ?_
  refine Cx.rg ?_
  refine Sx.bx rfl rfl fun g => ?_
  refine go ?_
  refine Sx.ca rfl (in_ (r.gen : Int) 0 4294967295) ?_
  rintro v L' ⟨rfl, rfl⟩
  rw [decide_eq_true (show (0 : Int) ≤ r.gen ∧ (r.gen : Int) ≤ 4294967295 by omega)]
  refine go ?_
  refine Sx.ca rfl (in_ (r.mrk : Int) 0 4097) ?_
  rintro v L' ⟨rfl, rfl⟩
  rw [decide_eq_true (show (0 : Int) ≤ r.mrk ∧ (r.mrk : Int) ≤ 4097 by omega)]
  refine go ?_
  refine Sx.ca rfl (in_ (r.cl : Int) 0 3) ?_
  rintro v L' ⟨rfl, rfl⟩
  rw [decide_eq_true (show (0 : Int) ≤ r.cl ∧ (r.cl : Int) ≤ 3 by omega)]
  refine go ?_
  refine Sx.ca rfl (in_ (r.off : Int) 0 1024) ?_
  rintro v L' ⟨rfl, rfl⟩
  rw [decide_eq_true (show (0 : Int) ≤ r.off ∧ (r.off : Int) ≤ 1024 by omega)]
  refine go ?_
  refine Kr.two (.inr rfl) rfl rfl Ent.drop ⟨?_, rfl⟩
  rw [wrap64 (n := r.gen) (by omega), wrap64 (n := r.mrk) (by omega), wrap64 (n := r.cl) (by omega), wrap64 (n := r.off) (by omega)]
  rw [wu64 (n := (r.gen : Int) * 4294967296) (by omega) (by omega), wu64 (n := (r.mrk : Int) * 65536) (by omega) (by omega), wu64 (n := (r.cl : Int) * 4096) (by omega) (by omega),
    wu64 (n := (r.gen : Int) * 4294967296 + r.mrk * 65536) (by omega) (by omega), wu64 (n := (r.gen : Int) * 4294967296 + r.mrk * 65536 + r.cl * 4096) (by omega) (by omega), wu64 (n := (r.gen : Int) * 4294967296 + r.mrk * 65536 + r.cl * 4096 + r.off) (by omega) (by omega)]
  rw [show (r.gen : Int) * 4294967296 + r.mrk * 65536 + r.cl * 4096 + r.off = ((r.w : Nat) : Int) by unfold Rt.w; omega]
/-! The document's Create. -/
def CreS.rslot (c : CreS) : Int := if c.at_ = 0 then 0 else c.slot
def CreS.rgen (c : CreS) : Nat := if c.done = true ∧ c.at_ = 2 then laterT (rtOf c.was).gen else 0
abbrev rcrV (w cl at_ : Nat) (cnt : Int) (point : Nat) (slot : Int) (gen p : Nat) (rt : Rt) (code : Nat) (d : Bool) : List Value :=
  [.pointer (some ⟨w, 0, none⟩), .int .i64 (cl : Nat), .int .i64 (at_ : Nat), .int .i64 cnt, .int .i64 (point : Nat), .int .i64 slot, .int .i64 (gen : Nat), .pointer (some ⟨p, 0, none⟩), .int .i64 (rt.gen : Nat), .int .i64 (rt.mrk : Nat), .int .i64 (rt.cl : Nat), .int .i64 (rt.off : Nat), .int .i64 (code : Nat), .bool d]
def rcrL (T : TypeId) (w rs cl : Nat) (c : CreS) (a : Option Addr) (p : Nat) : St :=
  [pt a (Blk T [.pointer (some ⟨w, 0, none⟩), .int .i64 (cl : Nat), .int .i64 (c.at_ : Nat), .int .i64 (c.cnt : Nat), .int .i64 (c.point : Nat), .int .i64 c.rslot, .int .i64 (c.rgen : Nat), .pointer (some ⟨p, 0, none⟩), .int .i64 ((rtOf c.was).gen : Nat), .int .i64 ((rtOf c.was).mrk : Nat), .int .i64 ((rtOf c.was).cl : Nat), .int .i64 ((rtOf c.was).off : Nat), .int .i64 (c.code : Nat), .bool c.done]), pt (some ⟨p, 0, none⟩) (RPopO rs c.q)]
def RCreT (T : TypeId) (w rs cl : Nat) (c : CreS) (a : Option Addr) : As := exs (rcrL T w rs cl c a)
abbrev RCreO := RCreT 164
theorem RCreO.close {b w rs cl p at_ point gen code : Nat} {cnt slot : Int} {rt : Rt} {d : Bool} {q : PopS} (c : CreS) (e1 : at_ = c.at_) (e2 : cnt = (c.cnt : Nat)) (e3 : point = c.point) (e4 : slot = c.rslot) (e5 : gen = c.rgen) (e6 : rt = rtOf c.was) (e7 : code = c.code) (e8 : d = c.done) (e9 : q = c.q) :
    Ent (pt (some ⟨b, 0, none⟩) (Blk 164 (rcrV w cl at_ cnt point slot gen p rt code d)) :: pt (some ⟨p, 0, none⟩) (RPopO rs q) :: G) (pt (some ⟨b, 0, none⟩) (RCreO w rs cl c) :: G) := by
  subst e1 e2 e3 e4 e5 e6 e7 e8 e9
  exact Ent.close (f := rcrL 164 w rs cl c (some ⟨b, 0, none⟩)) rfl p
theorem refCreate {w rm rp rs re : Nat} {x : Cn} (cl : Nat) (hcl : cl ≤ 3) [c : Take L (some ⟨w, 0, none⟩) (RWO x rm rp rs re) F] {F2 : St} [s : Take F (some ⟨rs, 0, none⟩) (RSkO rm x.spare) F2] :
    Fx Tryz.prog 85 [.pointer (some ⟨w, 0, none⟩), .int .i64 cl] L (fun v L' => ∃ b, v = .pointer (some ⟨b, 0, none⟩) ∧ L' = pt (some ⟨b, 0, none⟩) (RCreO w rs cl CreS.init) :: L) := by
  refine Fx.mk Tryz.func85 k85 (Nat.le_of_ble_eq_true rfl) ?_
  dsimp only [c85, envOf, Nat.reduceAdd]
  refine Cx.ent (Ent.trans (Ent.of c.out) (Ent.cons (Ent.of s.out))) ?_
  refine go ?_
  have e1 : (bif true then (if (cl : Int) < 0 then (0 : Int) else (cl : Int)) else (if (0 : Int) < (cl : Int) then (0 : Int) else (cl : Int))) = cl := by
    rw [cond_true, if_neg (by omega)]
  have e2 : (bif false then (if (cl : Int) < 3 then (3 : Int) else (cl : Int)) else (if (3 : Int) < (cl : Int) then (3 : Int) else (cl : Int))) = cl := by
    rw [cond_false, if_neg (by omega)]
  rw [e1, e2]
  refine Sx.ca rfl (refPopNew (sb := rs) (rm := rm) (k := x.spare) 1) ?_
  rintro v L' ⟨p, rfl, rfl⟩
  refine go ?_
  refine Sx.bx rfl rfl fun b => ?_
  refine Sx.re (rcrV w cl 0 0 0 0 0 p ⟨0, 0, 0, 0⟩ 0 false) rfl ?_
  refine go ?_
  refine Kr.one (.inr rfl) rfl ?_ ⟨b, rfl, rfl⟩
  refine Ent.trans (RCreO.close (b := b) (w := w) (rs := rs) (cl := cl) (p := p) CreS.init rfl rfl rfl rfl rfl rfl rfl rfl rfl) (Ent.cons ?_)
  exact Ent.trans (Ent.cons (Ent.of s.back)) (Ent.of c.back)
set_option maxHeartbeats 2000000 in
/-- One access of the document's Create. -/
theorem refCrStep {b w rm rp rs re : Nat} {x : Cn} {m : Mm} {cl : Nat} {c : CreS} {F1 F2 F3 : St} (hx : x.ok) (hl : x.len ≤ m.ws.length) (hcl : cl ≤ 3) (hc : c.ok x.spare)
    [t1 : Take L (some ⟨b, 0, none⟩) (RCreO w rs cl c) F1] [t2 : Take F1 (some ⟨rm, 0, none⟩) (RMemO m) F2] [t3 : Take F2 (some ⟨w, 0, none⟩) (RWO x rm rp rs re) F3] [t4 : Take F3 (some ⟨rs, 0, none⟩) (RSkO rm x.spare) G] :
    Fx Tryz.prog 87 [.pointer (some ⟨b, 0, none⟩)] L
      (fun v L' => v = .bool (!c.done) ∧ L' = pt (some ⟨b, 0, none⟩) (RCreO w rs cl (crStep x.spare x.root cl m c).1) :: pt (some ⟨rm, 0, none⟩) (RMemO (crStep x.spare x.root cl m c).2) :: F2) := by
  have hsz : x.root + x.sl ≤ x.len := by unfold Cn.root Cn.len; omega
  have hback : Ent (pt (some ⟨w, 0, none⟩) (RWO x rm rp rs re) :: pt (some ⟨rs, 0, none⟩) (RSkO rm x.spare) :: G) F2 := Ent.trans (Ent.cons (Ent.of t4.back)) (Ent.of t3.back)
  obtain ⟨ha, hq0, hw, hs, hn⟩ := hc
  refine Fx.mk Tryz.func87 k87 (Nat.le_of_ble_eq_true rfl) ?_
  dsimp only [c87, envOf, Nat.reduceAdd]
  refine Cx.ent (Ent.trans (Ent.of t1.out) (Ent.cons (Ent.trans (Ent.of t2.out) (Ent.cons (Ent.trans (Ent.of t3.out) (Ent.cons (Ent.of t4.out))))))) ?_
  refine Cx.pure (rmemKey (rm := rm) (m := m)) fun hm => ?_
  have hk := hx.spare (n := m.ws.length) hl hm.2
  refine Cx.openp (a := some ⟨b, 0, none⟩) rfl ?_
  intro p
  simp only [rcrL, List.cons_append, List.nil_append]
  cases hd : c.done with
  | true =>
    have e1 : crStep x.spare x.root cl m c = (c, m) := by unfold crStep; rw [hd]; rfl
    rw [e1]
    refine go ?_
    refine Kr.one (.inr rfl) rfl (Ent.trans (RCreO.close (w := w) (rs := rs) (rt := rtOf c.was) (d := true) c rfl rfl rfl rfl rfl rfl rfl hd.symm rfl) (Ent.cons (Ent.cons hback))) ⟨rfl, rfl⟩
  | false =>
    refine go ?_
    rw [cntW hn]
    refine go ?_
    rcases (show c.at_ = 0 ∨ c.at_ = 1 ∨ c.at_ = 2 by omega) with h0 | h0 | h0
    · rw [h0]
      refine go ?_
      have hlen := cr_l (m := m) hq0 hk hm.1
      refine Sx.ca rfl (refPopStep (b := p) (sb := rs) (rm := rm) (k := x.spare) (m := m) (q := c.q) hk hq0) ?_
      rintro v L' ⟨rfl, rfl⟩
      refine go ?_
      obtain ⟨Q, hQ⟩ : ∃ Q, Q = (popStep x.spare m c.q).1 := ⟨_, rfl⟩
      rw [← hQ] at hlen ⊢
      refine Sx.openp (a := some ⟨p, 0, none⟩) rfl ?_
      rintro ⟨ro, co⟩
      simp only [rpopL, List.cons_append, List.nil_append]
      cases hq : Q.done with
      | false =>
        have e1 : crStep x.spare x.root cl m c = ({ c with cnt := c.cnt + 1, q := Q }, (popStep x.spare m c.q).2) := by unfold crStep; rw [hd, h0, hQ]; rw [hQ] at hq; simp only [Bool.false_eq_true, if_false, hq]
        rw [e1]
        refine go ?_
        refine Kr.one (.inr rfl) rfl ?_ ⟨rfl, rfl⟩
        refine Ent.trans (RPopO.close (sb := rs) (a := some ⟨p, 0, none⟩) (r := ro) Q rfl rfl rfl rfl rfl rfl (by rw [hq]) rfl) ?_
        refine Ent.trans (Ent.take (a := some ⟨b, 0, none⟩)) ?_
        refine Ent.trans (RCreO.close (w := w) (rs := rs) (rt := rtOf c.was) (d := false) { c with cnt := c.cnt + 1, q := Q } h0.symm rfl rfl rfl ?_ rfl rfl hd.symm rfl) (Ent.cons (Ent.cons hback))
        rfl
      | true =>
        have e1 : crStep x.spare x.root cl m c = (crPopped { c with cnt := c.cnt + 1, q := Q }, (popStep x.spare m c.q).2) := by unfold crStep; rw [hd, h0, hQ]; rw [hQ] at hq; simp only [Bool.false_eq_true, if_false, hq, if_true]
        rw [e1]
        refine go ?_
        refine Sx.ent (Ent.trans (RPopO.close (sb := rs) (a := some ⟨p, 0, none⟩) (r := ro) Q rfl rfl rfl rfl rfl rfl (by rw [hq]) rfl) (Ent.refl _)) ?_
        refine Sx.ca rfl (refPopGot (b := p) (sb := rs) (rm := rm) (k := x.spare) (q := Q) hq hlen) ?_
        rintro v L' ⟨r1, c1, rfl, rfl⟩
        refine go ?_
        cases hg : Q.got with
        | nil =>
          have e2 : crPopped { c with cnt := c.cnt + 1, q := Q } = { c with cnt := c.cnt + 1, q := Q, point := c.cnt + 1, code := 7, done := true } := by unfold crPopped; rw [hg]
          rw [e2]
          refine go ?_
          refine Kr.one (.inr rfl) rfl ?_ ⟨rfl, rfl⟩
          refine Ent.trans (Ent.take (a := some ⟨b, 0, none⟩)) ?_
          refine Ent.trans (Ent.cons (Ent.take (a := some ⟨p, 0, none⟩))) ?_
          refine Ent.trans (RCreO.close (w := w) (rs := rs) (rt := rtOf c.was) (d := true) { c with cnt := c.cnt + 1, q := Q, point := c.cnt + 1, code := 7, done := true } h0.symm rfl rfl rfl ?_ rfl rfl rfl rfl) (Ent.cons ?_)
          · unfold CreS.rgen
            dsimp only
            rw [if_neg (by simp [hd]), if_neg (by simp [h0])]
          · refine Ent.trans (Ent.take (a := some ⟨rm, 0, none⟩)) (Ent.cons ?_)
            refine Ent.trans ?_ hback
            exact ent
        | cons y l =>
          have e2 : crPopped { c with cnt := c.cnt + 1, q := Q } = { c with cnt := c.cnt + 1, q := Q, point := c.cnt + 1, slot := y, at_ := 1 } := by unfold crPopped; rw [hg]
          rw [e2]
          rw [hg] at hlen
          simp only [List.length_cons] at hlen ⊢
          refine Cx.cno rfl (decide_eq_false (by omega)) ?_
          refine Cx.rowkey (a := r1) fun hx0 hn0 hc0 hk0 => ?_
          obtain ⟨rg, rfl⟩ : ∃ g, r1 = some ⟨g, 0, none⟩ := by
            rcases hk0 with h | h
            · omega
            · exact h
          refine go ?_
          refine Sx.pv rfl ⟨by omega, by omega⟩ ?_
          refine Sx.ldr (b := rg) rfl (v := .int .i64 y) rfl ?_
          refine go ?_
          refine Kr.one (.inr rfl) rfl ?_ ⟨rfl, rfl⟩
          refine Ent.trans (Ent.take (a := some ⟨b, 0, none⟩)) ?_
          refine Ent.trans (Ent.cons (Ent.take (a := some ⟨p, 0, none⟩))) ?_
          refine Ent.trans (RCreO.close (w := w) (rs := rs) (rt := rtOf c.was) (d := false) { c with cnt := c.cnt + 1, q := Q, point := c.cnt + 1, slot := y, at_ := 1 } rfl rfl rfl rfl ?_ rfl rfl hd.symm rfl) (Ent.cons ?_)
          · unfold CreS.rgen
            dsimp only
            rw [if_neg (by simp [hd]), if_neg (by simp [hd])]
          · refine Ent.trans ?_ (Ent.cons hback)
            exact ent
    · have e1 : crStep x.spare x.root cl m c = ({ c with cnt := c.cnt + 1, was := m.at_ (x.root + c.slot.toNat), at_ := 2 }, m.tick) := by unfold crStep; rw [hd, h0]; rfl
      have hs' := hs (by omega)
      have hs2 : c.slot < x.sl := hs'.2
      obtain ⟨s, hs1⟩ : ∃ s : Nat, c.slot = s := ⟨c.slot.toNat, by omega⟩
      have er : c.rslot = s := by unfold CreS.rslot; rw [if_neg (by omega), hs1]
      rw [e1, h0, er, hs1, Int.toNat_natCast]
      refine go ?_
      refine Cx.ordc rfl (by kernel_rfl) ?_
      refine ge ?_
      refine Ev.cakH (by kernel_rfl) rfl rfl (refRootAt hx s (by omega)) ?_
      refine ge ?_
      refine Ev.caH (by kernel_rfl) rfl rfl (refLoad (rm := rm) (m := m) (x.root + s) (by omega)) (Pres.deps (by kernel_rfl)) ?_
      rintro v L' ⟨rfl, rfl⟩
      refine ge ?_
      have hwl := Mm.at_lt hm.1 (x.root + s)
      refine Ev.cakH (by kernel_rfl) rfl rfl (refGetRoot (m.at_ (x.root + s)) hwl) ?_
      refine ge ?_
      refine Ev.stnH (b := b) (rcrV w cl 1 ((c.cnt + 1 : Nat) : Int) c.point s c.rgen p (rtOf (m.at_ (x.root + s))) c.code false) (by kernel_rfl) rfl rfl rfl rfl rfl rfl rfl rfl (Pres.deps (by kernel_rfl)) ?_
      refine ge ?_
      refine go ?_
      refine Kr.one (.inr rfl) rfl ?_ ⟨rfl, rfl⟩
      refine Ent.trans (Ent.take (a := some ⟨b, 0, none⟩)) ?_
      refine Ent.trans (Ent.cons (Ent.take (a := some ⟨p, 0, none⟩))) ?_
      refine Ent.trans (RCreO.close (w := w) (rs := rs) (rt := rtOf (m.at_ (x.root + s))) (d := false) { c with cnt := c.cnt + 1, slot := (s : Int), was := m.at_ (x.root + s), at_ := 2 } rfl rfl rfl rfl ?_ rfl rfl hd.symm rfl) (Ent.cons ?_)
      · unfold CreS.rgen
        dsimp only
        rw [if_neg (by simp [hd]), if_neg (by simp [hd])]
      · refine Ent.trans ?_ (Ent.cons hback)
        exact ent
    · have e1 : crStep x.spare x.root cl m c = ({ c with cnt := c.cnt + 1, done := true }, m.put (x.root + c.slot.toNat) (nextRt cl c.was).w) := by unfold crStep; rw [hd, h0]; rfl
      have hs' := hs (by omega)
      have hs2 : c.slot < x.sl := hs'.2
      obtain ⟨s, hs1⟩ : ∃ s : Nat, c.slot = s := ⟨c.slot.toNat, by omega⟩
      have er : c.rslot = s := by unfold CreS.rslot; rw [if_neg (by omega), hs1]
      have hnk := nextRt_ok (cl := cl) hw hcl
      rw [e1, h0, er, hs1, Int.toNat_natCast]
      refine go ?_
      refine Sx.ca rfl (refLater (rtOf c.was).gen (rtOf_gen hw)) ?_
      rintro v L' ⟨rfl, rfl⟩
      refine go ?_
      refine Cx.ordc rfl (by kernel_rfl) ?_
      refine ge ?_
      refine Ev.cakH (by kernel_rfl) rfl rfl (refPutRoot (nextRt cl c.was) hnk) ?_
      refine ge ?_
      refine go ?_
      refine Cx.ordc rfl (by kernel_rfl) ?_
      refine ge ?_
      refine Ev.cakH (by kernel_rfl) rfl rfl (refRootAt hx s (by omega)) ?_
      refine ge ?_
      refine Ev.caH (by kernel_rfl) rfl rfl (refStore (rm := rm) (m := m) (x.root + s) (nextRt cl c.was).w (by omega) (Rt.w_lt hnk)) (Pres.deps (by kernel_rfl)) ?_
      rintro v L' ⟨rfl, rfl⟩
      refine ge ?_
      refine go ?_
      refine Kr.one (.inr rfl) rfl ?_ ⟨rfl, rfl⟩
      refine Ent.trans (Ent.take (a := some ⟨b, 0, none⟩)) ?_
      refine Ent.trans (Ent.cons (Ent.take (a := some ⟨p, 0, none⟩))) ?_
      refine Ent.trans (RCreO.close (w := w) (rs := rs) (rt := rtOf c.was) (d := true) { c with at_ := 2, cnt := c.cnt + 1, slot := (s : Int), done := true } rfl rfl rfl rfl ?_ rfl rfl rfl rfl) (Ent.cons ?_)
      · unfold CreS.rgen
        dsimp only
        rw [if_pos ⟨rfl, rfl⟩]
      · refine Ent.trans ?_ (Ent.cons hback)
        exact ent
end
end Go.Proofs.YtflalhdofhobmaaGreat

/-
  Stacks: a Push, one access at a time.
-/
set_option linter.unusedVariables false
set_option linter.unusedSimpArgs false
namespace Go.Proofs.YtflalhdofhobmaaGreat
open Go
attribute [local irreducible] Sx Cx Rx Fx Krg Ksq Kbl Klp Kr
theorem itI_some {l : List Int} {i : Nat} (h : i < l.length) : (ints l)[i]? = some (.int .i64 (itI l i)) := by simp [ints, itI, h]
section
variable {L F G : St}
theorem Rd.pre {a : Option Addr} {n m : Nat} {vs : List Value} (h : Rd L 1 a n vs) (hm : m ≤ n) : Rd L 1 a m (vs.take m) := by
  obtain ⟨h1, h2⟩ := h
  refine ⟨by rw [List.length_take]; omega, ?_⟩
  rcases h2 with h0 | ⟨b, o, rfl, hh⟩
  · left; omega
  · right
    have := hh.sub (i := 0) (n := m)
    exact ⟨b, o, rfl, by simpa using this⟩
theorem Rd.get1 {a : Option Addr} {n i : Nat} {vs : List Value} {v : Value} (h : Rd L 1 a n vs) (hv : vs[i]? = some v) : ∃ b o, a = some ⟨b, o, none⟩ ∧ Has L b (o + i) [v] := by
  have hlt := (List.getElem?_eq_some_iff.1 hv).1
  obtain ⟨h1, h0 | ⟨b, o, rfl, h2⟩⟩ := h
  · omega
  · exact ⟨b, o, rfl, (h2.sub (i := i) (n := 1)).one (take_one hv)⟩
theorem sliceIndex {a : Option Addr} {n c : Nat} {xs : List Int} (x : Int) (hr : Rd L 1 a n (ints xs)) (hn : n ≤ 1000000000) :
    Fx Tryz.prog 269 [.slice a n c, .int .i64 x] L (fun v L' => (∃ i : Int, v = .int .i64 i ∧ (0 ≤ i ↔ x ∈ xs)) ∧ L = L') := by
  have hl : xs.length = n := by have := hr.1; simpa [ints] using this
  refine Fx.mk Tryz.func269 k269 (Nat.le_of_ble_eq_true rfl) ?_
  dsimp only [c269, envOf, Nat.reduceAdd]
  refine go ?_
  refine Cx.lp (α := {i : Nat // i ≤ n ∧ x ∉ xs.take i}) (fun i => [(0, .slice a n c), (1, .int .i64 x), (7, .int .i64 n), (8, .int .i64 i.1)]) (fun _ => L) (fun i => n - i.1) ⟨0, by omega, by simp⟩ (sub.cons rfl (sub.cons rfl (sub.cons rfl (sub.cons rfl sub.nil)))) (Ent.refl _) ?_
  rintro ⟨i, hi, hni⟩
  dsimp only
  refine go ?_
  refine Cx.ifp rfl (fun h => ?_) (fun h => ?_)
  · have hv := itI_some (l := xs) (i := i) (by omega)
    obtain ⟨b, o, rfl, hh⟩ := hr.get1 hv
    refine go ?_
    refine Sx.pv rfl ⟨by omega, by omega⟩ ?_
    refine Sx.ld rfl (by simpa using hh) rfl ?_
    refine go ?_
    refine Cx.ifp rfl (fun e => ?_) (fun e => ?_)
    · refine go ?_
      refine Kr.one (.inr rfl) rfl (Ent.refl _) ⟨⟨i, rfl, fun _ => ?_, fun _ => by omega⟩, rfl⟩
      rw [e]
      exact itI_mem (by omega)
    · refine go ?_
      rw [w64 (by omega) (by omega)]
      refine Klp.nm ⟨i + 1, by omega, ?_⟩ (sub.cons rfl (sub.cons rfl (sub.cons rfl (sub.cons rfl sub.nil)))) (Ent.refl _) (by dsimp only; omega)
      rw [List.take_succ_eq_append_getElem (by omega), List.mem_append]
      rintro (h1 | h1)
      · exact hni h1
      · rw [List.mem_singleton] at h1
        exact e (h1.trans (by simp [itI, show i < xs.length by omega]))
  · obtain rfl : i = n := by omega
    rw [← hl, List.take_length] at hni
    refine go ?_
    exact Kr.one (.inr rfl) rfl (Ent.refl _) ⟨⟨-1, rfl, by simp [hni]⟩, rfl⟩
theorem sliceContains {a : Option Addr} {n c : Nat} {xs : List Int} (x : Int) (hr : Rd L 1 a n (ints xs)) (hn : n ≤ 1000000000) :
    Fx Tryz.prog 265 [.slice a n c, .int .i64 x] L (fun v L' => v = .bool (decide (x ∈ xs)) ∧ L = L') := by
  refine Fx.mk Tryz.func265 k265 (Nat.le_of_ble_eq_true rfl) ?_
  dsimp only [c265, envOf, Nat.reduceAdd]
  refine go ?_
  refine Sx.ca rfl (sliceIndex (a := a) (n := n) (c := c) (xs := xs) x hr hn) ?_
  rintro v L' ⟨⟨i, rfl, hi⟩, rfl⟩
  refine go ?_
  exact Kr.one (.inr rfl) rfl (Ent.refl _) ⟨congrArg Value.bool (decide_eq_decide.2 hi), rfl⟩
/-- A Push. -/
def pushI (p : PushS) : Nat := min p.at_ (p.l.length - 1)
def pushFn (p : PushS) : FuncId := if p.at_ + 1 < p.l.length then 267 else if p.at_ + 1 = p.l.length then 266 else if p.at_ = p.l.length then 270 else 272
def pushNx (a : Option Addr) (p : PushS) : Value := bif p.done then .nilFunc else .func (.func (pushFn p)) #[.pointer a] #[]
def pushL (T : TypeId) (sb : Nat) (k : Sk) (p : PushS) (a : Option Addr) (y : (Option Addr × Nat) × Int) : St :=
  [lift (p.ok k), pt a (Blk T [pushNx a p, .nilFunc, .nilFunc, .nilFunc, .int .i64 y.2, .pointer (some ⟨sb, 0, none⟩), .slice y.1.1 p.l.length y.1.2, .int .i64 (pushI p : Nat), wd p.was]), pt y.1.1 (Row 3 1 p.l.length y.1.2 (ints p.l))]
def PushT (T : TypeId) (sb : Nat) (k : Sk) (p : PushS) (a : Option Addr) : As := exs (pushL T sb k p a)
abbrev PushO := PushT 296
theorem PushO.close {T : TypeId} {sb : Nat} {k : Sk} {a r : Option Addr} {c n : Nat} {cnt : Int} {v0 v1 v2 : Value} {w : List Value} {F G : St} (p : PushS) (hp : p.ok k)
    [t : Take L a (Blk T [v0, .nilFunc, .nilFunc, .nilFunc, .int .i64 cnt, .pointer (some ⟨sb, 0, none⟩), .slice r n c, v1, v2]) F] [u : Take F r (Row 3 1 n c w) G]
    (h0 : v0 = pushNx a p) (h1 : v1 = .int .i64 (pushI p : Nat)) (h2 : v2 = wd p.was) (hn : n = p.l.length) (hw : w = ints p.l) : Ent L (pt a (PushT T sb k p) :: G) := by
  subst h0; subst h1; subst h2; subst hn; subst hw
  refine Ent.trans (Ent.take1 (t := t) (Ent.of u.out)) ?_
  refine Ent.trans (Ent.lift hp (Ent.refl _)) ?_
  exact Ent.close (f := pushL T sb k p a) rfl ((r, c), cnt)
set_option maxHeartbeats 2000000 in
theorem stackPush {sb mp : Nat} {k : Sk} {a : Option Addr} {n c : Nat} {l : List Int} (hr : Rd L 1 a n (ints l)) (hc : n ≤ c) (hn : n ≤ 1000000000) [s : Take L (some ⟨sb, 0, none⟩) (SkO mp k) F] :
    Fx Tryz.prog 258 [.pointer (some ⟨sb, 0, none⟩), .slice a n c] L (fun v L' =>
      (¬ (l.Nodup ∧ ∀ x ∈ l, 0 ≤ x ∧ x < k.n) ∧ v = .tuple #[.pointer none, .int .i64 1] ∧ L = L') ∨
      ((l.Nodup ∧ ∀ x ∈ l, 0 ≤ x ∧ x < k.n) ∧ ∃ g, v = .tuple #[.pointer (some ⟨g, 0, none⟩), .int .i64 0] ∧ L' = pt (some ⟨g, 0, none⟩) (PushO sb k (PushS.init l)) :: L)) := by
  have hl : l.length = n := by have := hr.1; simpa [ints] using this
  refine Fx.mk Tryz.func258 k258 (Nat.le_of_ble_eq_true rfl) ?_
  dsimp only [c258, envOf, Nat.reduceAdd]
  refine go ?_
  refine Cx.lp (α := {i : Nat // i ≤ n ∧ (l.take i).Nodup ∧ ∀ x ∈ l.take i, 0 ≤ x ∧ x < k.n}) (fun i => [(0, .pointer (some ⟨sb, 0, none⟩)), (1, .slice a n c), (9, .slice a n c), (10, .int .i64 n), (11, .int .i64 i.1)]) (fun _ => L) (fun i => n - i.1)
    ⟨0, by omega, by simp, by simp⟩ (sub.cons rfl (sub.cons rfl (sub.cons rfl (sub.cons rfl (sub.cons rfl sub.nil))))) (Ent.refl _) ?_
  rintro ⟨i, hi, hnd, hrg⟩
  dsimp only
  refine go ?_
  refine Cx.ifp rfl (fun h => ?_) (fun h => ?_)
  · have hv := itI_some (l := l) (i := i) (by omega)
    obtain ⟨b, o, rfl, hh⟩ := hr.get1 hv
    have hmem := itI_mem (l := l) (i := i) (by omega)
    have hbad : ∀ (hb : ¬ ((0 ≤ itI l i ∧ itI l i < k.n) ∧ itI l i ∉ l.take i)), ¬ (l.Nodup ∧ ∀ x ∈ l, 0 ≤ x ∧ x < k.n) := by
      rintro hb ⟨g1, g2⟩
      refine hb ⟨g2 _ hmem, fun hin => ?_⟩
      obtain ⟨j, hj, e⟩ := List.getElem_of_mem hin
      have hj' : j < i := by rw [List.length_take] at hj; omega
      rw [List.getElem_take] at e
      have e2 : itI l i = l[i]'(by omega) := by simp [itI, show i < l.length by omega]
      have := (List.getElem_inj g1).1 (e.trans e2)
      omega
    refine go ?_
    refine Sx.pv rfl ⟨by omega, by omega⟩ ?_
    refine Sx.ld rfl (by simpa using hh) rfl ?_
    refine go ?_
    refine Sx.ifp rfl (fun h1 => ?_) (fun h1 => ?_)
    · refine go ?_
      exact Kr.two (.inr rfl) rfl rfl (Ent.refl _) (.inl ⟨hbad fun hg => by omega, rfl, rfl⟩)
    · refine go ?_
      refine Sx.ifp rfl (fun h2 => ?_) (fun h2 => ?_)
      · refine go ?_
        exact Kr.two (.inr rfl) rfl rfl (Ent.refl _) (.inl ⟨hbad fun hg => by omega, rfl, rfl⟩)
      · refine go ?_
        refine Sx.pv rfl ⟨by omega, by omega⟩ ?_
        refine go ?_
        have hpre : Rd L 1 (some ⟨b, o, none⟩) (i : Int).toNat (ints (l.take i)) := by
          have := hr.pre (m := i) (by omega)
          rw [show (i : Int).toNat = i by omega]
          rwa [show (ints l).take i = ints (l.take i) by simp [ints]] at this
        refine Sx.ca rfl (sliceContains (xs := l.take i) (itI l i) hpre (by omega)) ?_
        rintro v L' ⟨rfl, rfl⟩
        refine go ?_
        refine Cx.ifp rfl (fun h3 => ?_) (fun h3 => ?_)
        · refine go ?_
          exact Kr.two (.inr rfl) rfl rfl (Ent.refl _) (.inl ⟨hbad fun hg => hg.2 h3, rfl, rfl⟩)
        · refine go ?_
          rw [w64 (by omega) (by omega)]
          have ht : l.take (i + 1) = l.take i ++ [itI l i] := by
            rw [List.take_succ_eq_append_getElem (by omega)]; simp [itI, show i < l.length by omega]
          refine Klp.nm ⟨i + 1, by omega, ?_, ?_⟩ (sub.cons rfl (sub.cons rfl (sub.cons rfl (sub.cons rfl (sub.cons rfl sub.nil))))) (Ent.refl _) (by dsimp only; omega)
          · rw [ht, List.nodup_append]
            refine ⟨hnd, by simp, ?_⟩
            intro x hx y hy e
            rw [List.mem_singleton] at hy
            exact h3 (by rw [← hy, ← e]; exact hx)
          · rw [ht]
            intro x hx
            rcases List.mem_append.1 hx with hx | hx
            · exact hrg x hx
            · rw [List.mem_singleton] at hx
              subst hx
              omega
  · obtain rfl : i = n := by omega
    rw [← hl, List.take_length] at hnd hrg
    refine go ?_
    refine Sx.ca rfl (clone hr (ones_ints _) hn) ?_
    rintro v L' ⟨ra, ca, rfl, rfl⟩
    refine go ?_
    refine Sx.bx rfl rfl fun g => ?_
    refine go ?_
    have hok : (PushS.init l).ok k := PushS.ok_init hrg
    refine Cx.ifp rfl (fun h0 => ?_) (fun h0 => ?_)
    · refine go ?_
      refine Kr.two (.inr rfl) rfl rfl ?_ (.inr ⟨⟨hnd, hrg⟩, g, rfl, rfl⟩)
      have hl0 : l = [] := List.length_eq_zero_iff.1 (by omega)
      refine Ent.trans (PushO.close (a := some ⟨g, 0, none⟩) (r := ra) (sb := sb) (k := k) (PushS.init l) hok ?_ ?_ rfl hl.symm rfl) ?_
      · simp [pushNx, PushS.init, hl0]
      · simp [pushI, PushS.init, hl0]
      · exact ent
    · refine go ?_
      refine Cx.ifp rfl (fun h1 => ?_) (fun h1 => ?_)
      · refine go ?_
        refine Sx.ca rfl (machGo (b := g)) ?_
        rintro v L' ⟨rfl, rfl⟩
        refine go ?_
        refine Kr.two (.inr rfl) rfl rfl ?_ (.inr ⟨⟨hnd, hrg⟩, g, rfl, rfl⟩)
        have hl0 : l ≠ [] := fun e => by subst e; simp at hl; omega
        refine Ent.trans (PushO.close (a := some ⟨g, 0, none⟩) (r := ra) (sb := sb) (k := k) (PushS.init l) hok ?_ ?_ rfl hl.symm rfl) ?_
        · simp [pushNx, pushFn, PushS.init, hl0, hl, show i = 1 by omega]
        · simp [pushI, PushS.init]
        · exact ent
      · refine go ?_
        refine Sx.ca rfl (machGo (b := g)) ?_
        rintro v L' ⟨rfl, rfl⟩
        refine go ?_
        refine Kr.two (.inr rfl) rfl rfl ?_ (.inr ⟨⟨hnd, hrg⟩, g, rfl, rfl⟩)
        have hl0 : l ≠ [] := fun e => by subst e; simp at hl; omega
        refine Ent.trans (PushO.close (a := some ⟨g, 0, none⟩) (r := ra) (sb := sb) (k := k) (PushS.init l) hok ?_ ?_ rfl hl.symm rfl) ?_
        · simp [pushNx, pushFn, PushS.init, hl0, hl, show 1 < i by omega]
        · simp [pushI, PushS.init]
        · exact ent
end
end Go.Proofs.YtflalhdofhobmaaGreat

/-
  Stacks: a Push's accesses.
-/
set_option linter.unusedVariables false
set_option linter.unusedSimpArgs false
namespace Go.Proofs.YtflalhdofhobmaaGreat
open Go
attribute [local irreducible] Sx Cx Rx Fx Krg Ksq Kbl Klp Kr
section
variable {L F G : St}
/-- The frame of a Push's access. -/
abbrev pushF (b sb mp : Nat) (k : Sk) (m : Mm) (p : PushS) (r : Option Addr) (c : Nat) (cnt : Int) (G : St) : St :=
  pt (some ⟨b, 0, none⟩) (Blk 296 [.nilFunc, .nilFunc, .nilFunc, .nilFunc, .int .i64 cnt, .pointer (some ⟨sb, 0, none⟩), .slice r p.l.length c, .int .i64 (pushI p : Nat), wd p.was]) ::
  pt r (Row 3 1 p.l.length c (ints p.l)) :: pt (some ⟨mp, 0, none⟩) (MemO m) :: pt (some ⟨sb, 0, none⟩) (SkO mp k) :: G
abbrev pushR (b sb mp : Nat) (k : Sk) (m : Mm) (p : PushS) (G : St) (v : Value) (L' : St) : Prop :=
  L' = pt (some ⟨b, 0, none⟩) (PushO sb k (pushStep k m p).1) :: pt (some ⟨mp, 0, none⟩) (MemO (pushStep k m p).2) :: pt (some ⟨sb, 0, none⟩) (SkO mp k) :: G
theorem wrapS {x : Int} (h1 : 0 ≤ x) (h2 : x ≤ 9223372036854775807) : IntKind.u64.wrap (IntKind.i64.wrap x) = ((x.toNat : Nat) : Int) := by
  rw [w64 (by omega) h2, wu64 h1 (by omega)]; omega
theorem push_link_ {b sb mp : Nat} {k : Sk} {m : Mm} {p : PushS} {r : Option Addr} {c : Nat} {cnt : Int} (hm : m.ok) (hk : k.ok m.ws.length) (hp : p.ok k) (ha : p.at_ + 1 < p.l.length) (hd : p.done = false) :
    Fx Tryz.prog 267 [.pointer (some ⟨b, 0, none⟩)] (pushF b sb mp k m p r c cnt G) (pushR b sb mp k m p G) := by
  have hok := pushStep_ok (k := k) hm hp
  have e : pushStep k m p = ({ p with at_ := p.at_ + 1 }, m.put (k.links + (itI p.l p.at_).toNat) (itI p.l (p.at_ + 1) + 1).toNat) := by
    unfold pushStep; rw [hd]; simp only [Bool.false_eq_true, if_false]; rw [if_pos ha]
  have hI : pushI p = p.at_ := by unfold pushI; omega
  have hv1 := itI_some (l := p.l) (i := p.at_) (by omega)
  have hv2 := itI_some (l := p.l) (i := p.at_ + 1) (by omega)
  have hr1 := hp.g _ (itI_mem (l := p.l) (i := p.at_) (by omega))
  have hr2 := hp.g _ (itI_mem (l := p.l) (i := p.at_ + 1) (by omega))
  obtain ⟨k1, k2, k3, k4, k5, k6⟩ := hk
  obtain ⟨x, hx⟩ : ∃ x : Nat, itI p.l p.at_ = x := ⟨(itI p.l p.at_).toNat, by omega⟩
  obtain ⟨y, hy⟩ : ∃ y : Nat, itI p.l (p.at_ + 1) = y := ⟨(itI p.l (p.at_ + 1)).toNat, by omega⟩
  have e' : pushStep k m p = ({ p with at_ := p.at_ + 1 }, m.put (k.links + x) (y + 1)) := by rw [e, hx, hy]; rfl
  rw [hx] at hr1 hv1
  rw [hy] at hr2 hv2
  refine Fx.mk Tryz.func267 k267 (Nat.le_of_ble_eq_true rfl) ?_
  dsimp only [c267, envOf, Nat.reduceAdd]
  unfold pushF
  rw [hI]
  refine Cx.rowkey (a := r) fun hxl hc1 hc2 hkr => ?_
  have hc3 : c ≤ 18446744073709551616 := by have := hc2; unfold maxLen at this; omega
  obtain ⟨rg, rfl⟩ : ∃ g, r = some ⟨g, 0, none⟩ := by
    rcases hkr with h | h
    · omega
    · exact h
  have hlm : p.l.length ≤ 9223372036854775807 := by unfold maxLen at hc2; omega
  refine go ?_
  refine Cx.ordc rfl (by kernel_rfl) ?_
  refine ge ?_
  refine Ev.ldrH (b := rg) (by kernel_rfl) rfl rfl (v := .int .i64 (x : Nat)) (by rw [show 0 + ((p.at_ : Int)).toNat * 1 = p.at_ by omega]; exact hv1) ?_
  refine ge ?_
  rw [w64 (n := (p.at_ : Int) + 1) (by omega) (by omega)]
  refine Ev.pvH (by kernel_rfl) rfl rfl ⟨by omega, by omega⟩ ?_
  refine Ev.ldrH (b := rg) (by kernel_rfl) rfl rfl (v := .int .i64 (y : Nat)) (by rw [show 0 + ((p.at_ : Int) + 1).toNat * 1 = p.at_ + 1 by omega]; exact hv2) ?_
  refine ge ?_
  rw [w64 (n := (k.links : Int) + x) (by omega) (by omega), show (k.links : Int) + x = ((k.links + x : Nat) : Int) by omega, wrapS (x := (y : Int) + 1) (by omega) (by omega), show ((y : Int) + 1).toNat = y + 1 by omega]
  refine Ev.caH (by kernel_rfl) rfl rfl (cellsStore (b := mp) (m := m) (k.links + x) (y + 1) (by omega) (by omega)) (Pres.deps (by kernel_rfl)) ?_
  rintro v L' ⟨rfl, rfl⟩
  refine ge ?_
  refine go ?_
  rw [w64 (n := (p.at_ : Int) + 1) (by omega) (by omega)]
  refine go ?_
  refine Cx.ordc rfl (by kernel_rfl) ?_
  refine ge ?_
  rw [w64 (n := (p.l.length : Int) - 1) (by omega) (by omega)]
  rw [e'] at hok
  have hI2 : pushI { p with at_ := p.at_ + 1 } = p.at_ + 1 := by unfold pushI; dsimp only; omega
  refine Cx.ifp rfl (fun h => ?_) (fun h => ?_)
  · refine go ?_
    refine Sx.ca rfl (machGo (b := b)) ?_
    rintro v L' ⟨rfl, rfl⟩
    refine go ?_
    refine Kr.none (.inl rfl) ?_ rfl
    rw [e']
    refine Ent.trans (PushO.close (a := some ⟨b, 0, none⟩) (r := some ⟨rg, 0, none⟩) (sb := sb) (k := k) _ hok ?_ ?_ rfl rfl rfl) ?_
    · simp [pushNx, pushFn, hd, show p.at_ + 1 + 1 < p.l.length by omega]
    · rw [hI2]; rfl
    · exact ent
  · refine go ?_
    refine Sx.ca rfl (machGo (b := b)) ?_
    rintro v L' ⟨rfl, rfl⟩
    refine go ?_
    refine Kr.none (.inl rfl) ?_ rfl
    rw [e']
    refine Ent.trans (PushO.close (a := some ⟨b, 0, none⟩) (r := some ⟨rg, 0, none⟩) (sb := sb) (k := k) _ hok ?_ ?_ rfl rfl rfl) ?_
    · simp [pushNx, pushFn, hd, show ¬ p.at_ + 1 + 1 < p.l.length by omega, show p.at_ + 1 + 1 = p.l.length by omega]
    · rw [hI2]; rfl
    · exact ent
theorem push_load_ {b sb mp : Nat} {k : Sk} {m : Mm} {p : PushS} {r : Option Addr} {c : Nat} {cnt : Int} (hm : m.ok) (hk : k.ok m.ws.length) (hp : p.ok k) (ha : p.at_ + 1 = p.l.length) (hd : p.done = false) :
    Fx Tryz.prog 266 [.pointer (some ⟨b, 0, none⟩)] (pushF b sb mp k m p r c cnt G) (pushR b sb mp k m p G) := by
  have hok := pushStep_ok (k := k) hm hp
  have e : pushStep k m p = ({ p with at_ := p.at_ + 1, was := m.at_ k.head }, m.tick) := by
    unfold pushStep; rw [hd]; simp only [Bool.false_eq_true, if_false]; rw [if_neg (by omega), if_pos ha]
  rw [e] at hok
  have hI : pushI p = p.at_ := by unfold pushI; omega
  obtain ⟨k1, k2, k3, k4, k5, k6⟩ := hk
  refine Fx.mk Tryz.func266 k266 (Nat.le_of_ble_eq_true rfl) ?_
  dsimp only [c266, envOf, Nat.reduceAdd]
  unfold pushF
  rw [hI]
  refine go ?_
  refine Cx.ordc rfl (by kernel_rfl) ?_
  refine ge ?_
  refine Ev.caH (by kernel_rfl) rfl rfl (cellsLoad (b := mp) (m := m) k.head k3) (Pres.deps (by kernel_rfl)) ?_
  rintro v L' ⟨rfl, rfl⟩
  refine ge ?_
  refine Ev.stbH (b := b) (by kernel_rfl) rfl rfl rfl rfl rfl (by rfl) rfl (Pres.deps (by kernel_rfl)) ?_
  refine ge ?_
  refine go ?_
  refine Sx.ca rfl (machGo (b := b)) ?_
  rintro v L' ⟨rfl, rfl⟩
  refine go ?_
  refine Kr.none (.inl rfl) ?_ rfl
  rw [e]
  refine Ent.trans (PushO.close (a := some ⟨b, 0, none⟩) (r := r) (sb := sb) (k := k) _ hok ?_ ?_ rfl rfl rfl) ?_
  · simp [pushNx, pushFn, hd, ha]
  · rw [show pushI { p with at_ := p.at_ + 1, was := m.at_ k.head } = p.at_ by unfold pushI; dsimp only; omega]
  · exact ent
theorem push_last_ {b sb mp : Nat} {k : Sk} {m : Mm} {p : PushS} {r : Option Addr} {c : Nat} {cnt : Int} (hm : m.ok) (hk : k.ok m.ws.length) (hp : p.ok k) (ha : p.at_ = p.l.length) (hd : p.done = false) :
    Fx Tryz.prog 270 [.pointer (some ⟨b, 0, none⟩)] (pushF b sb mp k m p r c cnt G) (pushR b sb mp k m p G) := by
  have hok := pushStep_ok (k := k) hm hp
  have hlp := List.length_pos_iff.2 (hp.ne hd)
  have hv1 := itI_some (l := p.l) (i := p.l.length - 1) (by omega)
  have hr1 := hp.g _ (itI_mem (l := p.l) (i := p.l.length - 1) (by omega))
  have ht1 := k.top_ge p.was
  have ht2 := k.top_lt p.was
  obtain ⟨k1, k2, k3, k4, k5, k6⟩ := hk
  obtain ⟨x, hx⟩ : ∃ x : Nat, itI p.l (p.l.length - 1) = x := ⟨(itI p.l (p.l.length - 1)).toNat, by omega⟩
  have e : pushStep k m p = ({ p with at_ := p.at_ + 1 }, m.put (k.links + x) (k.top p.was + 1).toNat) := by
    unfold pushStep; rw [hd]; simp only [Bool.false_eq_true, if_false]; rw [if_neg (by omega), if_neg (by omega), if_pos ha, hx]; rfl
  rw [e] at hok
  rw [hx] at hr1 hv1
  have hI : pushI p = p.l.length - 1 := by unfold pushI; omega
  refine Fx.mk Tryz.func270 k270 (Nat.le_of_ble_eq_true rfl) ?_
  dsimp only [c270, envOf, Nat.reduceAdd]
  unfold pushF
  rw [hI]
  refine Cx.rowkey (a := r) fun hxl hc1 hc2 hkr => ?_
  obtain ⟨rg, rfl⟩ : ∃ g, r = some ⟨g, 0, none⟩ := by
    rcases hkr with h | h
    · omega
    · exact h
  have hlm : p.l.length ≤ 9223372036854775807 := by unfold maxLen at hc2; omega
  refine go ?_
  refine Cx.ordc rfl (by kernel_rfl) ?_
  refine ge ?_
  rw [w64 (n := (p.l.length : Int) - 1) (by omega) (by omega)]
  refine Ev.pvH (by kernel_rfl) rfl rfl ⟨by omega, by omega⟩ ?_
  refine Ev.ldrH (b := rg) (by kernel_rfl) rfl rfl (v := .int .i64 (x : Nat)) (by rw [show 0 + ((p.l.length : Int) - 1).toNat * 1 = p.l.length - 1 by omega]; exact hv1) ?_
  refine ge ?_
  refine Ev.cakH (by kernel_rfl) rfl rfl (stackTop (sb := sb) (mp := mp) (k := k) p.was hp.w) ?_
  refine ge ?_
  rw [w64 (n := (k.links : Int) + x) (by omega) (by omega), show (k.links : Int) + x = ((k.links + x : Nat) : Int) by omega, wrapS (x := k.top p.was + 1) (by omega) (by omega)]
  refine Ev.caH (by kernel_rfl) rfl rfl (cellsStore (b := mp) (m := m) (k.links + x) (k.top p.was + 1).toNat (by omega) (by omega)) (Pres.deps (by kernel_rfl)) ?_
  rintro v L' ⟨rfl, rfl⟩
  refine ge ?_
  refine go ?_
  refine Sx.ca rfl (machGo (b := b)) ?_
  rintro v L' ⟨rfl, rfl⟩
  refine go ?_
  refine Kr.none (.inl rfl) ?_ rfl
  rw [e]
  refine Ent.trans (PushO.close (a := some ⟨b, 0, none⟩) (r := some ⟨rg, 0, none⟩) (sb := sb) (k := k) _ hok ?_ ?_ rfl rfl rfl) ?_
  · (unfold pushNx pushFn; dsimp only; rw [hd]; (first | rw [if_pos (by omega)] | rw [if_neg (by omega), if_pos (by omega)] | rw [if_neg (by omega), if_neg (by omega), if_pos (by omega)] | rw [if_neg (by omega), if_neg (by omega), if_neg (by omega)]); rfl)
  · rw [show pushI { p with at_ := p.at_ + 1 } = p.l.length - 1 by unfold pushI; dsimp only; omega]
  · exact ent
theorem push_cas_ {b sb mp : Nat} {k : Sk} {m : Mm} {p : PushS} {r : Option Addr} {c : Nat} {cnt : Int} (hm : m.ok) (hk : k.ok m.ws.length) (hp : p.ok k) (ha : p.at_ = p.l.length + 1) (hd : p.done = false) :
    Fx Tryz.prog 272 [.pointer (some ⟨b, 0, none⟩)] (pushF b sb mp k m p r c cnt G) (pushR b sb mp k m p G) := by
  have hok := pushStep_ok (k := k) hm hp
  have hlp := List.length_pos_iff.2 (hp.ne hd)
  have hv1 := itI_some (l := p.l) (i := 0) (by omega)
  have hr1 := hp.g _ (itI_mem (l := p.l) (i := 0) (by omega))
  have e : pushStep k m p = ({ p with at_ := p.l.length - 1, done := decide (m.at_ k.head = p.was) }, m.cas k.head p.was (nextW p.was (itI p.l 0))) := by
    unfold pushStep; rw [hd]; simp only [Bool.false_eq_true, if_false]; rw [if_neg (by omega), if_neg (by omega), if_neg (by omega)]
  rw [e] at hok
  have hI : pushI p = p.l.length - 1 := by unfold pushI; omega
  refine Fx.mk Tryz.func272 k272 (Nat.le_of_ble_eq_true rfl) ?_
  dsimp only [c272, envOf, Nat.reduceAdd]
  unfold pushF
  rw [hI]
  refine Cx.rowkey (a := r) fun hxl hc1 hc2 hkr => ?_
  obtain ⟨rg, rfl⟩ : ∃ g, r = some ⟨g, 0, none⟩ := by
    rcases hkr with h | h
    · omega
    · exact h
  refine go ?_
  refine Cx.ordc rfl (by kernel_rfl) ?_
  refine ge ?_
  refine Ev.ldrH (b := rg) (by kernel_rfl) rfl rfl (v := .int .i64 (itI p.l 0)) hv1 ?_
  refine ge ?_
  refine Ev.caH (by kernel_rfl) rfl rfl (stackExchange (sb := sb) (mp := mp) (k := k) (m := m) p.was (itI p.l 0) hk hp.w (by omega) hr1.2) (Pres.deps (by kernel_rfl)) ?_
  rintro v L' ⟨rfl, rfl⟩
  refine ge ?_
  have hI2 : ∀ d, pushI { p with at_ := p.l.length - 1, done := d } = p.l.length - 1 := fun d => by unfold pushI; dsimp only; omega
  refine Cx.ifn rfl (fun h => ?_) (fun h => ?_)
  · rw [decide_eq_false h] at e hok
    refine go ?_
    refine Sx.ca rfl (machGo (b := b)) ?_
    rintro v L' ⟨rfl, rfl⟩
    refine go ?_
    refine Kr.none (.inl rfl) ?_ rfl
    rw [e]
    refine Ent.trans (PushO.close (a := some ⟨b, 0, none⟩) (r := some ⟨rg, 0, none⟩) (sb := sb) (k := k) _ hok ?_ ?_ rfl rfl rfl) ?_
    · simp [pushNx, pushFn, show ¬ p.l.length - 1 + 1 < p.l.length by omega, show p.l.length - 1 + 1 = p.l.length by omega]
    · rw [hI2]
    · exact ent
  · rw [decide_eq_true h] at e hok
    refine go ?_
    refine Kr.none (.inl rfl) ?_ rfl
    rw [e]
    refine Ent.trans (PushO.close (a := some ⟨b, 0, none⟩) (r := some ⟨rg, 0, none⟩) (sb := sb) (k := k) _ hok ?_ ?_ rfl rfl rfl) ?_
    · simp [pushNx]
    · rw [hI2]
    · exact ent
/-- One access of a Push. -/
theorem pushStepC {b sb mp : Nat} {k : Sk} {m : Mm} {p : PushS} {F1 F2 : St} (hk : k.ok m.ws.length) [tp : Take L (some ⟨b, 0, none⟩) (PushO sb k p) F1] [t : Take F1 (some ⟨mp, 0, none⟩) (MemO m) F2] [s : Take F2 (some ⟨sb, 0, none⟩) (SkO mp k) G] :
    Fx Tryz.prog 239 [.pointer (some ⟨b, 0, none⟩)] L (fun v L' => v = .bool (!p.done) ∧ L' = pt (some ⟨b, 0, none⟩) (PushO sb k (pushStep k m p).1) :: pt (some ⟨mp, 0, none⟩) (MemO (pushStep k m p).2) :: F2) := by
  refine Fx.mk Tryz.func239 k239 (Nat.le_of_ble_eq_true rfl) ?_
  dsimp only [c239, envOf, Nat.reduceAdd]
  refine Cx.ent (Ent.trans (Ent.of tp.out) (Ent.cons (Ent.trans (Ent.of t.out) (Ent.cons (Ent.of s.out))))) ?_
  refine Cx.pure (memKey (b := mp) (m := m)) fun hm => ?_
  refine Cx.openp (a := some ⟨b, 0, none⟩) rfl ?_
  rintro ⟨⟨r, c⟩, cnt⟩
  simp only [pushL, List.cons_append, List.nil_append]
  refine Cx.liftp fun hp => ?_
  cases hd : p.done with
  | true =>
    have e : pushStep k m p = (p, m) := by unfold pushStep; rw [hd]; rfl
    rw [e, show pushNx (some ⟨b, 0, none⟩) p = .nilFunc by simp [pushNx, hd]]
    refine go ?_
    refine Sx.ca rfl (machStepDone (b := b)) ?_
    rintro v L' ⟨rfl, rfl⟩
    refine go ?_
    refine Kr.one (.inr rfl) rfl ?_ ⟨rfl, rfl⟩
    refine Ent.trans (PushO.close (a := some ⟨b, 0, none⟩) (r := r) (sb := sb) (k := k) p hp ?_ rfl rfl rfl rfl) (Ent.cons (Ent.cons (Ent.of s.back)))
    simp [pushNx, hd]
  | false =>
    have hcase := hp.a
    rcases (show p.at_ + 1 < p.l.length ∨ p.at_ + 1 = p.l.length ∨ p.at_ = p.l.length ∨ p.at_ = p.l.length + 1 by omega) with ha | ha | ha | ha
    · rw [show pushNx (some ⟨b, 0, none⟩) p = .func (.func 267) #[.pointer (some ⟨b, 0, none⟩)] #[] by (unfold pushNx pushFn; rw [hd]; (first | rw [if_pos (by omega)] | rw [if_neg (by omega), if_pos (by omega)] | rw [if_neg (by omega), if_neg (by omega), if_pos (by omega)] | rw [if_neg (by omega), if_neg (by omega), if_neg (by omega)]); rfl)]
      refine go ?_
      refine Sx.ca rfl (machStep (b := b) (by kernel_rfl) (push_link_ (G := G) hm.1 hk hp ha hd)) ?_
      rintro v L' ⟨rfl, u, rfl⟩
      refine go ?_
      exact Kr.one (.inr rfl) rfl (Ent.cons (Ent.cons (Ent.of s.back))) ⟨rfl, rfl⟩
    · rw [show pushNx (some ⟨b, 0, none⟩) p = .func (.func 266) #[.pointer (some ⟨b, 0, none⟩)] #[] by (unfold pushNx pushFn; rw [hd]; (first | rw [if_pos (by omega)] | rw [if_neg (by omega), if_pos (by omega)] | rw [if_neg (by omega), if_neg (by omega), if_pos (by omega)] | rw [if_neg (by omega), if_neg (by omega), if_neg (by omega)]); rfl)]
      refine go ?_
      refine Sx.ca rfl (machStep (b := b) (by kernel_rfl) (push_load_ (G := G) hm.1 hk hp ha hd)) ?_
      rintro v L' ⟨rfl, u, rfl⟩
      refine go ?_
      exact Kr.one (.inr rfl) rfl (Ent.cons (Ent.cons (Ent.of s.back))) ⟨rfl, rfl⟩
    · rw [show pushNx (some ⟨b, 0, none⟩) p = .func (.func 270) #[.pointer (some ⟨b, 0, none⟩)] #[] by (unfold pushNx pushFn; rw [hd]; (first | rw [if_pos (by omega)] | rw [if_neg (by omega), if_pos (by omega)] | rw [if_neg (by omega), if_neg (by omega), if_pos (by omega)] | rw [if_neg (by omega), if_neg (by omega), if_neg (by omega)]); rfl)]
      refine go ?_
      refine Sx.ca rfl (machStep (b := b) (by kernel_rfl) (push_last_ (G := G) hm.1 hk hp ha hd)) ?_
      rintro v L' ⟨rfl, u, rfl⟩
      refine go ?_
      exact Kr.one (.inr rfl) rfl (Ent.cons (Ent.cons (Ent.of s.back))) ⟨rfl, rfl⟩
    · rw [show pushNx (some ⟨b, 0, none⟩) p = .func (.func 272) #[.pointer (some ⟨b, 0, none⟩)] #[] by (unfold pushNx pushFn; rw [hd]; (first | rw [if_pos (by omega)] | rw [if_neg (by omega), if_pos (by omega)] | rw [if_neg (by omega), if_neg (by omega), if_pos (by omega)] | rw [if_neg (by omega), if_neg (by omega), if_neg (by omega)]); rfl)]
      refine go ?_
      refine Sx.ca rfl (machStep (b := b) (by kernel_rfl) (push_cas_ (G := G) hm.1 hk hp ha hd)) ?_
      rintro v L' ⟨rfl, u, rfl⟩
      refine go ?_
      exact Kr.one (.inr rfl) rfl (Ent.cons (Ent.cons (Ent.of s.back))) ⟨rfl, rfl⟩
theorem pushDoneC {b sb : Nat} {k : Sk} {p : PushS} {F1 : St} [tp : Take L (some ⟨b, 0, none⟩) (PushO sb k p) F1] : Fx Tryz.prog 240 [.pointer (some ⟨b, 0, none⟩)] L (fun v L' => v = .bool p.done ∧ L = L') := by
  refine Fx.kept (t := tp) ?_
  refine Fx.mk Tryz.func240 k240 (Nat.le_of_ble_eq_true rfl) ?_
  dsimp only [c240, envOf, Nat.reduceAdd]
  refine Cx.openp (t := tp) rfl ?_
  rintro ⟨⟨r, c⟩, cnt⟩
  simp only [pushL, List.cons_append, List.nil_append]
  refine Cx.liftp fun hp => ?_
  cases hd : p.done with
  | true =>
    have e : pushNx (some ⟨b, 0, none⟩) p = .nilFunc := by simp [pushNx, hd]
    rw [e]
    refine go ?_
    refine Sx.ca rfl (machDoneYes (b := b)) ?_
    rintro v L' ⟨rfl, rfl⟩
    refine go ?_
    exact Kr.one (.inr rfl) rfl (PushO.close (a := some ⟨b, 0, none⟩) (r := r) (sb := sb) (k := k) p hp e.symm rfl rfl rfl rfl) ⟨rfl, rfl⟩
  | false =>
    have e : pushNx (some ⟨b, 0, none⟩) p = .func (.func (pushFn p)) #[.pointer (some ⟨b, 0, none⟩)] #[] := by simp [pushNx, hd]
    rw [e]
    refine go ?_
    refine Sx.ca rfl (machDoneNo (b := b)) ?_
    rintro v L' ⟨rfl, rfl⟩
    refine go ?_
    exact Kr.one (.inr rfl) rfl (PushO.close (a := some ⟨b, 0, none⟩) (r := r) (sb := sb) (k := k) p hp e.symm rfl rfl rfl rfl) ⟨rfl, rfl⟩
end
end Go.Proofs.YtflalhdofhobmaaGreat

/-
  Supplies: a Give is a Push; all, what is over.
-/
set_option linter.unusedVariables false
set_option linter.unusedSimpArgs false
namespace Go.Proofs.YtflalhdofhobmaaGreat
open Go
attribute [local irreducible] Sx Cx Rx Fx Krg Ksq Kbl Klp Kr
open Classical in
noncomputable def giveInit (k : Sk) (l : List Int) : PushS := if l.Nodup ∧ ∀ x ∈ l, 0 ≤ x ∧ x < k.n then PushS.init l else ⟨l, 0, 0, true⟩
theorem giveInit_yes {k : Sk} {l : List Int} (h : l.Nodup ∧ ∀ x ∈ l, 0 ≤ x ∧ x < k.n) : giveInit k l = PushS.init l := if_pos h
theorem giveInit_no {k : Sk} {l : List Int} (h : ¬ (l.Nodup ∧ ∀ x ∈ l, 0 ≤ x ∧ x < k.n)) : giveInit k l = ⟨l, 0, 0, true⟩ := if_neg h
theorem pushStep_l (k : Sk) (m : Mm) (p : PushS) : (pushStep k m p).1.l = p.l := by
  unfold pushStep
  (repeat' split) <;> rfl
section
variable {L F G : St}
abbrev gvB (b : Nat) (nx n1 n2 n3 : Value) (cnt : Int) (sl : Value) : As := pt (some ⟨b, 0, none⟩) (Blk 248 [nx, n1, n2, n3, .int .i64 cnt, sl])
def giveDL (T : TypeId) (a : Option Addr) (y : Value × Value × Value × Int × Value) : St := [pt a (Blk T [.nilFunc, y.1, y.2.1, y.2.2.1, .int .i64 y.2.2.2.1, y.2.2.2.2])]
def givePL (T : TypeId) (pb : Nat) (k : Sk) (p : PushS) (a : Option Addr) (y : Nat × Int × (Option Addr × Nat)) : St :=
  [pt a (Blk T [.func (.func 232) #[.pointer a] #[], mth 239 y.1, mth 240 y.1, .func (.func 261) #[.pointer a] #[], .int .i64 y.2.1, .slice y.2.2.1 p.l.length y.2.2.2]),
   pt (some ⟨y.1, 0, none⟩) (PushO pb k p), pt y.2.2.1 (Row 3 1 p.l.length y.2.2.2 (ints p.l))]
def GiveT (T : TypeId) (pb : Nat) (k : Sk) (p : PushS) (a : Option Addr) : As := bif p.done then exs (giveDL T a) else exs (givePL T pb k p a)
abbrev GiveO := GiveT 248
theorem GiveO.d {T : TypeId} {pb : Nat} {k : Sk} {p : PushS} {a : Option Addr} (h : p.done = true) : GiveT T pb k p a = exs (giveDL T a) := by unfold GiveT; rw [h]; rfl
theorem GiveO.p {T : TypeId} {pb : Nat} {k : Sk} {p : PushS} {a : Option Addr} (h : p.done = false) : GiveT T pb k p a = exs (givePL T pb k p a) := by unfold GiveT; rw [h]; rfl
theorem GiveO.closeD {b pb : Nat} {k : Sk} (p : PushS) (h : p.done = true) {n1 n2 n3 sl : Value} {cnt : Int} : Ent (gvB b .nilFunc n1 n2 n3 cnt sl :: G) (pt (some ⟨b, 0, none⟩) (GiveO pb k p) :: G) :=
  Ent.close (f := giveDL 248 (some ⟨b, 0, none⟩)) (GiveO.d h) (n1, n2, n3, cnt, sl)
theorem GiveO.closeP {b pb g : Nat} {k : Sk} {r : Option Addr} {c n : Nat} {vs : List Value} {q : PushS} (p : PushS) (h : p.done = false) {cnt : Int} (hq : q = p) (hn : n = p.l.length) (hv : vs = ints p.l) :
    Ent (gvB b (mth 232 b) (mth 239 g) (mth 240 g) (mth 261 b) cnt (.slice r n c) :: pt (some ⟨g, 0, none⟩) (PushO pb k q) :: pt r (Row 3 1 n c vs) :: G) (pt (some ⟨b, 0, none⟩) (GiveO pb k p) :: G) := by
  subst hq; subst hn; subst hv
  exact Ent.close (f := givePL 248 pb k q (some ⟨b, 0, none⟩)) (GiveO.p h) (g, cnt, r, c)
theorem giveEnd {v : Value} : Fx Tryz.prog 261 [v] L (fun v L' => v = .tuple #[] ∧ L = L') := by
  refine Fx.mk Tryz.func261 k261 (Nat.le_of_ble_eq_true rfl) ?_
  dsimp only [c261, envOf, Nat.reduceAdd]
  refine Cx.sk ?_
  exact Kr.none (.inl rfl) (Ent.refl _) ⟨rfl, rfl⟩
theorem supGive {u mp pb : Nat} {x : Cn} {s : SupS} {l : List Int} {r : Option Addr} {n c : Nat} {F : St} (hl : n = l.length) (hn : n ≤ 1000000000) [t : Take L (some ⟨u, 0, none⟩) (SupO mp pb x s) F] [tr : Take F r (Row 3 1 n c (ints l)) G] {F3 : St} [tb : Take G (some ⟨pb, 0, none⟩) (SkO mp x.pool) F3] :
    Fx Tryz.prog 245 [.pointer (some ⟨u, 0, none⟩), .slice r n c] L (fun v L' => ∃ b, v = .pointer (some ⟨b, 0, none⟩) ∧ L' = pt (some ⟨b, 0, none⟩) (GiveO pb x.pool (giveInit x.pool l)) :: pt (some ⟨u, 0, none⟩) (SupO mp pb x s) :: G) := by
  subst hl
  refine Fx.mk Tryz.func245 k245 (Nat.le_of_ble_eq_true rfl) ?_
  dsimp only [c245, envOf, Nat.reduceAdd]
  refine Cx.ent (Ent.trans (Ent.of t.out) (Ent.cons (Ent.of tr.out))) ?_
  refine Cx.openp (a := some ⟨u, 0, none⟩) rfl ?_
  rintro ⟨sh, lm⟩
  simp only [supL, List.cons_append, List.nil_append]
  refine Cx.rowkey (a := r) fun hxl hc1 _ hkr => ?_
  refine go ?_
  refine Sx.bx rfl rfl fun b => ?_
  refine go ?_
  refine Sx.ca rfl (stackPush (sb := pb) (mp := mp) (k := x.pool) (l := l) (Rd.any (a := r) hxl (hkr.imp (fun h => h.2.1) id)) hc1 hn) ?_
  rintro v L' (⟨hno, rfl, rfl⟩ | ⟨hyes, g, rfl, rfl⟩)
  · rw [giveInit_no hno]
    refine go ?_
    refine Kr.one (.inr rfl) rfl ?_ ⟨b, rfl, rfl⟩
    refine Ent.trans (GiveO.closeD ⟨l, 0, 0, true⟩ rfl) (Ent.cons ?_)
    refine Ent.trans (SupO.close (a := some ⟨u, 0, none⟩) (sh := sh) (lm := lm) (mp := mp) (pb := pb) (x := x) s rfl rfl rfl) (Ent.cons ?_)
    exact ent
  · rw [giveInit_yes hyes]
    refine go ?_
    by_cases hl0 : l = []
    · have hd : (PushS.init l).done = true := by simp [PushS.init, hl0]
      refine Sx.ca rfl (machThrough (b := b) (machOnYes (b := b) (by kernel_rfl) ((pushDoneC (b := g) (sb := pb) (k := x.pool) (p := PushS.init l)).mono (by rintro v L' ⟨rfl, rfl⟩; exact ⟨by rw [hd], rfl⟩)) (by kernel_rfl) giveEnd)) ?_
      rintro v L' ⟨rfl, w, rfl, w2, rfl, rfl⟩
      refine go ?_
      refine Kr.one (.inr rfl) rfl ?_ ⟨b, rfl, rfl⟩
      refine Ent.trans (GiveO.closeD (PushS.init l) hd) (Ent.cons ?_)
      refine Ent.trans Ent.drop ?_
      refine Ent.trans (SupO.close (a := some ⟨u, 0, none⟩) (sh := sh) (lm := lm) (mp := mp) (pb := pb) (x := x) s rfl rfl rfl) (Ent.cons ?_)
      exact ent
    · have hd : (PushS.init l).done = false := by simp [PushS.init, hl0]
      refine Sx.ca rfl (machThrough (b := b) (machOnNo (b := b) (by kernel_rfl) ((pushDoneC (b := g) (sb := pb) (k := x.pool) (p := PushS.init l)).mono (by rintro v L' ⟨rfl, rfl⟩; exact ⟨by rw [hd], rfl⟩)))) ?_
      rintro v L' ⟨rfl, w, rfl, rfl⟩
      refine go ?_
      refine Kr.one (.inr rfl) rfl ?_ ⟨b, rfl, rfl⟩
      refine Ent.trans (Ent.cons (Ent.cons (Ent.take (a := r)))) ?_
      refine Ent.trans (GiveO.closeP (PushS.init l) hd rfl rfl rfl) (Ent.cons ?_)
      refine Ent.trans (SupO.close (a := some ⟨u, 0, none⟩) (sh := sh) (lm := lm) (mp := mp) (pb := pb) (x := x) s rfl rfl rfl) (Ent.cons ?_)
      exact ent
/-- What is over. -/
theorem supSpill {u mp pb : Nat} {x : Cn} {s : SupS} {F : St} (hn : s.xs.length ≤ 1000000000) (hm : 0 ≤ s.most) (hm2 : s.most ≤ 64) [t : Take L (some ⟨u, 0, none⟩) (SupO mp pb x s) F] {F3 : St} [tb : Take F (some ⟨pb, 0, none⟩) (SkO mp x.pool) F3] :
    Fx Tryz.prog 207 [.pointer (some ⟨u, 0, none⟩)] L (fun v L' => ∃ b, v = .pointer (some ⟨b, 0, none⟩) ∧ L' = pt (some ⟨b, 0, none⟩) (GiveO pb x.pool (giveInit x.pool (s.xs.take (overK s.most s.xs)))) :: pt (some ⟨u, 0, none⟩) (SupO mp pb x { s with xs := s.xs.drop (overK s.most s.xs) }) :: F) := by
  have hov : overK s.most s.xs ≤ s.xs.length := by unfold overK; omega
  refine Fx.mk Tryz.func207 k207 (Nat.le_of_ble_eq_true rfl) ?_
  dsimp only [c207, envOf, Nat.reduceAdd]
  refine Cx.ent (Ent.of t.out) ?_
  refine Cx.openp (a := some ⟨u, 0, none⟩) rfl ?_
  rintro ⟨sh, lm⟩
  simp only [supL, List.cons_append, List.nil_append]
  refine go ?_
  refine Sx.ca rfl (stashOver (b := sh) (most := s.most) (xs := s.xs) hn hm hm2) ?_
  rintro v L' ⟨r, c, rfl, rfl⟩
  refine Sx.ent (Ent.trans (Ent.cons (SupO.close (a := some ⟨u, 0, none⟩) (sh := sh) (lm := lm) (mp := mp) (pb := pb) (x := x) { s with xs := s.xs.drop (overK s.most s.xs) } rfl rfl rfl)) Ent.swap) ?_
  refine go ?_
  refine Sx.ca rfl (supGive (u := u) (mp := mp) (pb := pb) (x := x) (s := { s with xs := s.xs.drop (overK s.most s.xs) }) (l := s.xs.take (overK s.most s.xs)) (r := r) (by rw [List.length_take]; omega) (by omega)) ?_
  rintro v L' ⟨b, rfl, rfl⟩
  refine go ?_
  exact Kr.one (.inr rfl) rfl (Ent.refl _) ⟨b, rfl, rfl⟩
/-- One access of a Give. -/
theorem giveStep {b mp pb : Nat} {k : Sk} {m : Mm} {p : PushS} {F1 F2 : St} (hk : k.ok m.ws.length) [t1 : Take L (some ⟨b, 0, none⟩) (GiveO pb k p) F1] [t2 : Take F1 (some ⟨mp, 0, none⟩) (MemO m) F2] [t3 : Take F2 (some ⟨pb, 0, none⟩) (SkO mp k) G] :
    Fx Tryz.prog 208 [.pointer (some ⟨b, 0, none⟩)] L (fun v L' => v = .bool (!p.done) ∧ L' = pt (some ⟨b, 0, none⟩) (GiveO pb k (pushStep k m p).1) :: pt (some ⟨mp, 0, none⟩) (MemO (pushStep k m p).2) :: F2) := by
  refine Fx.mk Tryz.func208 k208 (Nat.le_of_ble_eq_true rfl) ?_
  dsimp only [c208, envOf, Nat.reduceAdd]
  refine Cx.ent (Ent.trans (Ent.of t1.out) (Ent.cons (Ent.trans (Ent.of t2.out) (Ent.cons (Ent.of t3.out))))) ?_
  cases hd : p.done with
  | true =>
    have e : pushStep k m p = (p, m) := by unfold pushStep; rw [hd]; rfl
    rw [e]
    refine Cx.openp (a := some ⟨b, 0, none⟩) (GiveO.d hd) ?_
    rintro ⟨n1, n2, n3, cnt, sl⟩
    simp only [giveDL, List.cons_append, List.nil_append]
    refine go ?_
    refine Sx.ca rfl (machStepDone (b := b)) ?_
    rintro v L' ⟨rfl, rfl⟩
    refine go ?_
    exact Kr.one (.inr rfl) rfl (Ent.trans (GiveO.closeD p hd) (Ent.cons (Ent.cons (Ent.of t3.back)))) ⟨rfl, rfl⟩
  | false =>
    refine Cx.openp (a := some ⟨b, 0, none⟩) (GiveO.p hd) ?_
    rintro ⟨g, cnt, r, c⟩
    simp only [givePL, List.cons_append, List.nil_append]
    have hpl := pushStep_l k m p
    cases hq : (pushStep k m p).1.done with
    | true =>
      refine go ?_
      refine Sx.ca rfl (machStep (b := b) (by kernel_rfl) (machGoes (b := b) (by kernel_rfl) (pushStepC (b := g) (mp := mp) (sb := pb) (k := k) (m := m) (p := p) hk) (R2 := fun v L' => v = .tuple #[] ∧ ∃ w : Value, w = .tuple #[] ∧ pt (some ⟨g, 0, none⟩) (PushO pb k (pushStep k m p).1) :: pt (some ⟨mp, 0, none⟩) (MemO (pushStep k m p).2) :: gvB b .nilFunc (mth 239 g) (mth 240 g) (mth 261 b) (IntKind.i64.wrap (cnt + 1)) (.slice r p.l.length c) :: pt r (Row 3 1 p.l.length c (ints p.l)) :: pt (some ⟨pb, 0, none⟩) (SkO mp k) :: G = L') ?_)) ?_
      · rintro v L1 ⟨rfl, rfl⟩
        exact machOnYes (b := b) (by kernel_rfl) ((pushDoneC (b := g) (sb := pb) (k := k) (p := (pushStep k m p).1)).mono (by rintro v L' ⟨rfl, rfl⟩; exact ⟨by rw [hq], rfl⟩)) (by kernel_rfl) giveEnd
      · rintro v L' ⟨rfl, w, rfl, w2, _, w3, _, rfl⟩
        refine go ?_
        refine Kr.one (.inr rfl) rfl ?_ ⟨rfl, rfl⟩
        refine Ent.trans (Ent.take (a := some ⟨b, 0, none⟩)) ?_
        refine Ent.trans (GiveO.closeD (pushStep k m p).1 hq) (Ent.cons ?_)
        refine Ent.trans (Ent.take (a := some ⟨mp, 0, none⟩)) (Ent.cons ?_)
        refine Ent.trans ?_ (Ent.of t3.back)
        exact ent
    | false =>
      refine go ?_
      refine Sx.ca rfl (machStep (b := b) (by kernel_rfl) (machGoes (b := b) (by kernel_rfl) (pushStepC (b := g) (mp := mp) (sb := pb) (k := k) (m := m) (p := p) hk) (R2 := fun v L' => v = .tuple #[] ∧ L' = gvB b (mth 232 b) (mth 239 g) (mth 240 g) (mth 261 b) (IntKind.i64.wrap (cnt + 1)) (.slice r p.l.length c) ::
          pt (some ⟨g, 0, none⟩) (PushO pb k (pushStep k m p).1) :: pt (some ⟨mp, 0, none⟩) (MemO (pushStep k m p).2) :: pt r (Row 3 1 p.l.length c (ints p.l)) :: pt (some ⟨pb, 0, none⟩) (SkO mp k) :: G) ?_)) ?_
      · rintro v L1 ⟨rfl, rfl⟩
        refine (machOnNo (b := b) (by kernel_rfl) ((pushDoneC (b := g) (sb := pb) (k := k) (p := (pushStep k m p).1)).mono (by rintro v L' ⟨rfl, rfl⟩; exact ⟨by rw [hq], rfl⟩))).mono ?_
        rintro v L' ⟨rfl, rfl⟩
        exact ⟨rfl, rfl⟩
      · rintro v L' ⟨rfl, w, _, w2, _, rfl⟩
        refine go ?_
        refine Kr.one (.inr rfl) rfl ?_ ⟨rfl, rfl⟩
        refine Ent.trans (Ent.cons (Ent.cons (Ent.take (a := r)))) ?_
        refine Ent.trans (GiveO.closeP (pushStep k m p).1 hq rfl (by rw [hpl]) (by rw [hpl])) (Ent.cons ?_)
        refine Ent.cons ?_
        exact Ent.of t3.back
theorem giveDone {b pb : Nat} {k : Sk} {p : PushS} {F1 : St} [t1 : Take L (some ⟨b, 0, none⟩) (GiveO pb k p) F1] : Fx Tryz.prog 188 [.pointer (some ⟨b, 0, none⟩)] L (fun v L' => v = .bool p.done ∧ L = L') := by
  refine Fx.kept (t := t1) ?_
  refine Fx.mk Tryz.func188 k188 (Nat.le_of_ble_eq_true rfl) ?_
  dsimp only [c188, envOf, Nat.reduceAdd]
  refine Cx.ent (Ent.of t1.out) ?_
  cases hd : p.done with
  | true =>
    refine Cx.openp (a := some ⟨b, 0, none⟩) (GiveO.d hd) ?_
    rintro ⟨n1, n2, n3, cnt, sl⟩
    simp only [giveDL, List.cons_append, List.nil_append]
    refine go ?_
    refine Sx.ca rfl (machDoneYes (b := b)) ?_
    rintro v L' ⟨rfl, rfl⟩
    refine go ?_
    exact Kr.one (.inr rfl) rfl (GiveO.closeD p hd) ⟨rfl, rfl⟩
  | false =>
    refine Cx.openp (a := some ⟨b, 0, none⟩) (GiveO.p hd) ?_
    rintro ⟨g, cnt, r, c⟩
    simp only [givePL, List.cons_append, List.nil_append]
    refine go ?_
    refine Sx.ca rfl (machDoneNo (b := b)) ?_
    rintro v L' ⟨rfl, rfl⟩
    refine go ?_
    exact Kr.one (.inr rfl) rfl (GiveO.closeP p hd rfl rfl rfl) ⟨rfl, rfl⟩
end
end Go.Proofs.YtflalhdofhobmaaGreat

/-
  A Create alone; an Alloc, one access at a time.
-/
set_option linter.unusedVariables false
set_option linter.unusedSimpArgs false
namespace Go.Proofs.YtflalhdofhobmaaGreat
theorem crIt_idle {k : Sk} {ro cl : Nat} {r : CreS × Mm} {j : Nat} (h : (crIt k ro cl j r).1.done = true) : ∀ i, crIt k ro cl (j + i) r = crIt k ro cl j r
  | 0 => rfl
  | i + 1 => by
    show crStep k ro cl (crIt k ro cl (j + i) r).2 (crIt k ro cl (j + i) r).1 = _
    rw [crIt_idle h i]
    unfold crStep
    rw [if_pos h]
theorem cr_pop {k : Sk} {ro cl : Nat} {m : Mm} : ∀ j, (∀ i, i ≤ j → (popIt k i (PopS.init 1, m)).1.done = false) →
    crIt k ro cl j (CreS.init, m) = ({ CreS.init with cnt := j, q := (popIt k j (PopS.init 1, m)).1 }, (popIt k j (PopS.init 1, m)).2)
  | 0, _ => rfl
  | j + 1, h => by
    have ih := cr_pop (k := k) (ro := ro) (cl := cl) (m := m) j (fun i hi => h i (by omega))
    have hd := h (j + 1) (Nat.le_refl _)
    rw [popIt_succ] at hd
    show crStep k ro cl (crIt k ro cl j (CreS.init, m)).2 (crIt k ro cl j (CreS.init, m)).1 = _
    rw [ih, popIt_succ]
    unfold crStep
    simp only [CreS.init, Bool.false_eq_true, if_false, hd]
/-- A Create alone. -/
theorem cr_alone {k : Sk} {ro cl len : Nat} {m : Mm} {l : List Int} {s : Int} (hk : k.ok len) (hml : m.ws.length = len) (hm : m.ok) (hp : Pool k m (s :: l)) (hr : ro + k.n ≤ k.links) (hrh : k.head < ro) (hcl : cl ≤ 3) :
    ∃ c m', crIt k ro cl 10 (CreS.init, m) = (c, m') ∧ c.done = true ∧ c.code = 0 ∧ c.slot = s ∧ c.at_ = 2 ∧ c.was = m.at_ (ro + s.toNat) ∧ m'.n = m.n + 5 ∧ m'.ws.length = len ∧ m'.ok ∧ Pool k m' l ∧
      m'.at_ (ro + s.toNat) = (nextRt cl (m.at_ (ro + s.toNat))).w ∧ (∀ a, a ≠ k.head → a ≠ ro + s.toNat → m'.at_ a = m.at_ a) := by
  obtain ⟨hs0, hs1, hs2, hs3⟩ := hp.c
  obtain ⟨m1, e1, n1, l1, p1, a1, d1⟩ := pop_alone hk hml hp 1 (by omega) (by omega) (by simp) 1 (by simp; omega)
  simp only [List.drop_succ_cons, List.drop_zero, List.take_succ_cons, List.take_zero] at e1 p1
  have hl := hk.l
  have hok1 : m1.ok := by
    have : ∀ j, (popIt k j (PopS.init 1, m)).2.ok ∧ (popIt k j (PopS.init 1, m)).1.ok k := by
      intro j
      induction j with
      | zero => exact ⟨hm, PopS.ok_init hk.n1 1⟩
      | succ j ih =>
        rw [popIt_succ]
        exact ⟨(popStep_mem hk ih.1 ih.2).1, popStep_ok hk ih.1 ih.2⟩
    have := (this (1 + 2)).1
    rw [e1] at this
    exact this
  have hw1 := Mm.at_lt hok1 (ro + s.toNat)
  have c2 := cr_pop (k := k) (ro := ro) (cl := cl) (m := m) 2 (fun i hi => d1 i (by omega))
  have c3 : crIt k ro cl 3 (CreS.init, m) = (⟨1, 3, s, 3, 0, 0, (popIt k 3 (PopS.init 1, m)).1, false⟩, m1) := by
    show crStep k ro cl (crIt k ro cl 2 (CreS.init, m)).2 (crIt k ro cl 2 (CreS.init, m)).1 = _
    have e2 : popStep k (popIt k 2 (PopS.init 1, m)).2 (popIt k 2 (PopS.init 1, m)).1 = (⟨1, 0, l.headD (-1), m.at_ k.head, [s], true⟩, m1) := by rw [← popIt_succ]; exact e1
    rw [c2]
    unfold crStep
    simp only [CreS.init, Bool.false_eq_true, if_false, e2, if_true, crPopped]
    rw [show (1 + 2 : Nat) = 3 from rfl] at e1
    rw [e1]
  have c4 : crIt k ro cl 4 (CreS.init, m) = (⟨2, 4, s, 3, m1.at_ (ro + s.toNat), 0, (popIt k 3 (PopS.init 1, m)).1, false⟩, m1.tick) := by
    show crStep k ro cl (crIt k ro cl 3 (CreS.init, m)).2 (crIt k ro cl 3 (CreS.init, m)).1 = _
    rw [c3]; rfl
  have c5 : crIt k ro cl 5 (CreS.init, m) = (⟨2, 5, s, 3, m1.at_ (ro + s.toNat), 0, (popIt k 3 (PopS.init 1, m)).1, true⟩, m1.tick.put (ro + s.toNat) (nextRt cl (m1.at_ (ro + s.toNat))).w) := by
    show crStep k ro cl (crIt k ro cl 4 (CreS.init, m)).2 (crIt k ro cl 4 (CreS.init, m)).1 = _
    rw [c4]; rfl
  have hin : ro + s.toNat < m1.tick.ws.length := by show _ < m1.ws.length; omega
  have hro : m1.at_ (ro + s.toNat) = m.at_ (ro + s.toNat) := a1 _ (by omega)
  have hput : ∀ a v, (m1.tick.put (ro + s.toNat) v).at_ a = if ro + s.toNat = a then v else m1.at_ a := fun a v => Mm.at_put a hin
  refine ⟨_, _, (crIt_idle (by rw [c5]) 5).trans c5, rfl, rfl, rfl, rfl, hro, ?_, ?_, ?_, ⟨?_, p1.nd⟩, ?_, ?_⟩
  · show m1.n + 1 + 1 = _; omega
  · rw [Mm.len_put]; exact l1
  · exact Mm.ok_put (Mm.ok_tick hok1) (Rt.w_lt (nextRt_ok hw1 hcl))
  · rw [hput, if_neg (by omega)]
    refine p1.c.congr fun y hy => ?_
    have := p1.c.mem y hy
    rw [hput, if_neg (by omega)]
  · rw [hput, if_pos rfl, hro]
  · intro a h1 h2
    rw [hput, if_neg (fun h => h2 h.symm)]
    exact a1 a h1
/-! An Alloc. -/
structure AlP where
  k : Sk
  ro : Nat
  wo : Nat
  wd : Nat
  ba : Int
  slot : Nat
  gen : Int
  n : Nat
abbrev gNone : PushS := ⟨[], 0, 0, true⟩
def TakeS.zero : TakeS := ⟨0, 0, false, 0, PopS.init 1, true⟩
noncomputable def alClose (k : Sk) (s : SupS) (v : AlV) (t : TakeS) (code : Nat) (o : Hd) : SupS × AlS :=
  let s1 := if 0 ≤ v.hand then s.give [v.hand] else s
  let g := giveInit k (s1.xs.take (overK s1.most s1.xs))
  ({ s1 with xs := s1.xs.drop (overK s1.most s1.xs) }, ⟨6, { v with code := code, obj := o, point := v.cnt, ends := true, hand := -1 }, t, g, g.done⟩)
def alTaken (v : AlV) (t : TakeS) : AlS := if t.is_ then ⟨3, { v with hand := t.chunk }, t, gNone, false⟩ else ⟨0, v, t, gNone, false⟩
noncomputable def alSeen (p : AlP) (s : SupS) (v : AlV) (t : TakeS) : SupS × AlS :=
  if (rtOf v.was).live p.gen then
    let v1 : AlV := { v with need := roundS (rtOf v.was).cl p.n }
    if 2 ≤ (rtOf v.was).mrk ∧ fitsS p.wd (rtOf v.was).off (roundS (rtOf v.was).cl p.n) then (s, ⟨1, v1, t, gNone, false⟩)
    else if 0 ≤ v.hand then (s, ⟨4, v1, t, gNone, false⟩)
    else if v.asked then alClose p.k s v1 t 6 Hd.zero
    else if (takeInit p.ba s).2.done then ((takeInit p.ba s).1, alTaken { v1 with asked := true } (takeInit p.ba s).2)
    else ((takeInit p.ba s).1, ⟨2, { v1 with asked := true }, (takeInit p.ba s).2, gNone, false⟩)
  else alClose p.k s v t 3 Hd.zero
noncomputable def alStep (p : AlP) (m : Mm) (s : SupS) (a : AlS) : Mm × SupS × AlS :=
  if a.done then (m, s, a) else
  let v : AlV := { a.v with cnt := a.v.cnt + 1 }
  let w := rtOf a.v.was
  match a.at_ with
  | 0 => (m.tick, alSeen p s { v with was := m.at_ (p.ro + p.slot) } a.t)
  | 1 => if m.at_ (p.ro + p.slot) = a.v.was then (m.put (p.ro + p.slot) (Rt.w ⟨w.gen, w.mrk, w.cl, w.off + v.need⟩), alClose p.k s v a.t 0 ⟨p.slot, p.gen, w.chunk, w.off, p.n⟩) else (m.tick, s, ⟨0, v, a.t, gNone, false⟩)
  | 2 => ((takeStep p.k p.ba m s a.t).1, (takeStep p.k p.ba m s a.t).2.1, if (takeStep p.k p.ba m s a.t).2.2.done then alTaken v (takeStep p.k p.ba m s a.t).2.2 else ⟨2, v, (takeStep p.k p.ba m s a.t).2.2, gNone, false⟩)
  | 3 => (m.put (p.wo + v.hand.toNat * p.wd + v.zat) 0, s, ⟨if v.zat + 1 < p.wd then 3 else 4, { v with zat := v.zat + 1 }, a.t, gNone, false⟩)
  | 4 => (m.put (p.k.links + v.hand.toNat) (w.chunk + 1).toNat, s, ⟨5, v, a.t, gNone, false⟩)
  | 5 => if m.at_ (p.ro + p.slot) = a.v.was then (m.put (p.ro + p.slot) (Rt.w ⟨w.gen, 2 + v.hand.toNat, w.cl, afterS p.wd v.need⟩), alClose p.k s { v with hand := -1 } a.t 0 ⟨p.slot, p.gen, v.hand, 0, p.n⟩) else (m.tick, s, ⟨0, v, a.t, gNone, false⟩)
  | _ => ((pushStep p.k m a.g).2, s, ⟨6, v, a.t, (pushStep p.k m a.g).1, (pushStep p.k m a.g).1.done⟩)
def AlS.init : AlS := ⟨0, AlV.init, TakeS.zero, gNone, false⟩
noncomputable def alIt (p : AlP) : Nat → Mm × SupS × AlS → Mm × SupS × AlS
  | 0, r => r
  | j + 1, r => alStep p (alIt p j r).1 (alIt p j r).2.1 (alIt p j r).2.2
end Go.Proofs.YtflalhdofhobmaaGreat

/-
  Supplies: a Take begins; the chapter's example.
-/
set_option linter.unusedVariables false
set_option linter.unusedSimpArgs false
namespace Go.Proofs.YtflalhdofhobmaaGreat
open Go
attribute [local irreducible] Sx Cx Rx Fx Krg Ksq Kbl Klp Kr
section
variable {L F G : St}
end
end Go.Proofs.YtflalhdofhobmaaGreat

/-
  Grants: an Alloc; its end begins.
-/
set_option linter.unusedVariables false
set_option linter.unusedSimpArgs false
namespace Go.Proofs.YtflalhdofhobmaaGreat
open Go
attribute [local irreducible] Sx Cx Rx Fx Krg Ksq Kbl Klp Kr
section
variable {L F G : St}
abbrev Cn.al (x : Cn) (slot : Nat) (gen : Int) (n : Nat) : AlP := ⟨x.pool, x.root, x.word, x.wd, x.ba, slot, gen, n⟩
abbrev alF (nx n1 n2 n3 : Value) (g u slot : Nat) (gen : Int) (n : Nat) (cnt : Int) (v : AlV) (rt : Rt) (tp gp : Value) : List Value :=
  [nx, n1, n2, n3, .int .i64 cnt, .pointer (some ⟨g, 0, none⟩), .pointer (some ⟨u, 0, none⟩), .int .i64 (slot : Nat), .int .i64 gen, .int .i64 (n : Nat), .int .i64 v.hand, .int .i64 (v.zat : Nat), .bool v.asked, .bool v.ends, .int .i64 (v.need : Nat), .int .i64 (v.point : Nat), wd v.was,
   .int .i64 (rt.gen : Nat), .int .i64 (rt.mrk : Nat), .int .i64 (rt.cl : Nat), .int .i64 (rt.off : Nat), tp, gp, .int .i64 (v.code : Nat), .int .i64 v.obj.slot, .int .i64 v.obj.gen, .int .i64 v.obj.chunk, .int .i64 v.obj.off, .int .i64 v.obj.len]
abbrev alB (b : Nat) (nx n1 n2 n3 : Value) (g u slot : Nat) (gen : Int) (n : Nat) (cnt : Int) (v : AlV) (rt : Rt) (tp gp : Value) : As := pt (some ⟨b, 0, none⟩) (Blk 152 (alF nx n1 n2 n3 g u slot gen n cnt v rt tp gp))
def alFn : Nat → FuncId
  | 0 => 80
  | 1 => 156
  | 3 => 221
  | 4 => 157
  | _ => 215
def alSL (f : FuncId) (T : TypeId) (g u slot : Nat) (gen : Int) (n : Nat) (s : AlS) (a : Option Addr) (y : Value × Value × Value × Value) : St :=
  [pt a (Blk T (alF (.func (.func f) #[.pointer a] #[]) y.1 y.2.1 y.2.2.1 g u slot gen n (s.v.cnt : Nat) s.v (rtOf s.v.was) y.2.2.2 (.pointer none)))]
def alTL (T : TypeId) (g u pb : Nat) (x : Cn) (slot : Nat) (gen : Int) (n : Nat) (s : AlS) (a : Option Addr) (y : Nat) : St :=
  [pt a (Blk T (alF (.func (.func 232) #[.pointer a] #[]) (mth 159 y) (mth 160 y) (.func (.func 161) #[.pointer a] #[]) g u slot gen n (s.v.cnt : Nat) s.v (rtOf s.v.was) (.pointer (some ⟨y, 0, none⟩)) (.pointer none))),
   pt (some ⟨y, 0, none⟩) (TakeO u pb x.pool s.t)]
def alGL (T : TypeId) (g u pb : Nat) (x : Cn) (slot : Nat) (gen : Int) (n : Nat) (s : AlS) (a : Option Addr) (y : Nat × Value) : St :=
  [pt a (Blk T (alF (.func (.func 232) #[.pointer a] #[]) (mth 208 y.1) (mth 188 y.1) (.func (.func 209) #[.pointer a] #[]) g u slot gen n (s.v.cnt : Nat) s.v (rtOf s.v.was) y.2 (.pointer (some ⟨y.1, 0, none⟩)))),
   pt (some ⟨y.1, 0, none⟩) (GiveO pb x.pool s.g)]
def alDL (T : TypeId) (g u pb : Nat) (x : Cn) (slot : Nat) (gen : Int) (n : Nat) (s : AlS) (a : Option Addr) (y : Nat × Value × Value × Value × Value) : St :=
  [pt a (Blk T (alF .nilFunc y.2.1 y.2.2.1 y.2.2.2.1 g u slot gen n (s.v.cnt : Nat) s.v (rtOf s.v.was) y.2.2.2.2 (.pointer (some ⟨y.1, 0, none⟩)))), pt (some ⟨y.1, 0, none⟩) (GiveO pb x.pool s.g)]
def AlT (T : TypeId) (g u pb : Nat) (x : Cn) (slot : Nat) (gen : Int) (n : Nat) (s : AlS) (a : Option Addr) : As := bif s.done then exs (alDL T g u pb x slot gen n s a) else match s.at_ with
  | 2 => exs (alTL T g u pb x slot gen n s a) | 6 => exs (alGL T g u pb x slot gen n s a) | k => exs (alSL (alFn k) T g u slot gen n s a)
abbrev AlO := AlT 152
section
variable {T : TypeId} {g u pb : Nat} {x : Cn} {slot : Nat} {gen : Int} {n : Nat} {s : AlS} {a : Option Addr}
theorem AlO.dd_ (h : s.done = true) : AlT T g u pb x slot gen n s a = exs (alDL T g u pb x slot gen n s a) := by unfold AlT; rw [h]; rfl
theorem AlO.gg_ (h : s.done = false) (h0 : s.at_ = 6) : AlT T g u pb x slot gen n s a = exs (alGL T g u pb x slot gen n s a) := by unfold AlT; rw [h, h0]; rfl
theorem AlO.ss_ (h : s.done = false) (h2 : s.at_ ≠ 2) (h6 : s.at_ ≠ 6) : AlT T g u pb x slot gen n s a = exs (alSL (alFn s.at_) T g u slot gen n s a) := by
  unfold AlT
  rw [h]
  split
  · exact absurd ‹_› h2
  · exact absurd ‹_› h6
  · rfl
end
theorem AlO.closeS {b g u pb : Nat} {x : Cn} {slot : Nat} {gen : Int} {n : Nat} {n1 n2 n3 tp : Value} {cnt : Int} {v : AlV} {rt : Rt} {f : FuncId} (s : AlS) (h : s.done = false) (h2' : Nat.beq s.at_ 2 = false) (h6' : Nat.beq s.at_ 6 = false) (hf : f = alFn s.at_) (hc : cnt = (s.v.cnt : Nat)) (hv : { v with cnt := s.v.cnt } = s.v) (hr : rt = rtOf s.v.was) :
    Ent (alB b (mth f b) n1 n2 n3 g u slot gen n cnt v rt tp (.pointer none) :: G) (pt (some ⟨b, 0, none⟩) (AlO g u pb x slot gen n s) :: G) := by
  subst hf hc hr
  have h2 : s.at_ ≠ 2 := fun e => by rw [e] at h2'; cases h2'
  have h6 : s.at_ ≠ 6 := fun e => by rw [e] at h6'; cases h6'
  obtain ⟨a1, v0, t0, g0, d0⟩ := s
  obtain ⟨c1, c2, c3, c4, c5, c6, c7, c8, c9, c10⟩ := v0
  obtain ⟨e1, e2, e3, e4, e5, e6, e7, e8, e9, e10⟩ := v
  dsimp only at hv
  cases hv
  exact Ent.close (f := alSL (alFn a1) 152 g u slot gen n _ (some ⟨b, 0, none⟩)) (AlO.ss_ h h2 h6) (n1, n2, n3, tp)
theorem AlO.closeG {b g u pb q : Nat} {x : Cn} {slot : Nat} {gen : Int} {n : Nat} {tp : Value} {cnt : Int} {v : AlV} {rt : Rt} {p : PushS} (s : AlS) (h : s.done = false) (h2 : s.at_ = 6) (hc : cnt = (s.v.cnt : Nat)) (hv : { v with cnt := s.v.cnt } = s.v) (hr : rt = rtOf s.v.was) (ht : p = s.g) :
    Ent (alB b (mth 232 b) (mth 208 q) (mth 188 q) (mth 209 b) g u slot gen n cnt v rt tp (.pointer (some ⟨q, 0, none⟩)) :: pt (some ⟨q, 0, none⟩) (GiveO pb x.pool p) :: G) (pt (some ⟨b, 0, none⟩) (AlO g u pb x slot gen n s) :: G) := by
  subst hc hr ht
  obtain ⟨a1, v0, t0, g0, d0⟩ := s
  obtain ⟨c1, c2, c3, c4, c5, c6, c7, c8, c9, c10⟩ := v0
  obtain ⟨e1, e2, e3, e4, e5, e6, e7, e8, e9, e10⟩ := v
  dsimp only at hv
  cases hv
  exact Ent.close (f := alGL 152 g u pb x slot gen n _ (some ⟨b, 0, none⟩)) (AlO.gg_ h h2) (q, tp)
theorem AlO.closeD {b g u pb q : Nat} {x : Cn} {slot : Nat} {gen : Int} {n : Nat} {n1 n2 n3 tp : Value} {cnt : Int} {v : AlV} {rt : Rt} {p : PushS} (s : AlS) (h : s.done = true) (hc : cnt = (s.v.cnt : Nat)) (hv : { v with cnt := s.v.cnt } = s.v) (hr : rt = rtOf s.v.was) (ht : p = s.g) :
    Ent (alB b .nilFunc n1 n2 n3 g u slot gen n cnt v rt tp (.pointer (some ⟨q, 0, none⟩)) :: pt (some ⟨q, 0, none⟩) (GiveO pb x.pool p) :: G) (pt (some ⟨b, 0, none⟩) (AlO g u pb x slot gen n s) :: G) := by
  subst hc hr ht
  obtain ⟨a1, v0, t0, g0, d0⟩ := s
  obtain ⟨c1, c2, c3, c4, c5, c6, c7, c8, c9, c10⟩ := v0
  obtain ⟨e1, e2, e3, e4, e5, e6, e7, e8, e9, e10⟩ := v
  dsimp only at hv
  cases hv
  exact Ent.close (f := alDL 152 g u pb x slot gen n _ (some ⟨b, 0, none⟩)) (AlO.dd_ h) (q, n1, n2, n3, tp)
end
end Go.Proofs.YtflalhdofhobmaaGreat

/-
  Grants: an Alloc comes to its end.
-/
set_option linter.unusedVariables false
set_option linter.unusedSimpArgs false
namespace Go.Proofs.YtflalhdofhobmaaGreat
open Go
attribute [local irreducible] Sx Cx Rx Fx Krg Ksq Kbl Klp Kr
section
variable {L F G : St}
end
end Go.Proofs.YtflalhdofhobmaaGreat

/-
  Grants: an Alloc looks at the root.
-/
set_option linter.unusedVariables false
set_option linter.unusedSimpArgs false
namespace Go.Proofs.YtflalhdofhobmaaGreat
open Go
attribute [local irreducible] Sx Cx Rx Fx Krg Ksq Kbl Klp Kr
section
variable {L F G : St}
end
end Go.Proofs.YtflalhdofhobmaaGreat

/-
  Grants: an Alloc's accesses.
-/
set_option linter.unusedVariables false
set_option linter.unusedSimpArgs false
namespace Go.Proofs.YtflalhdofhobmaaGreat
open Go
attribute [local irreducible] Sx Cx Rx Fx Krg Ksq Kbl Klp Kr
section
variable {L F G : St}
end
end Go.Proofs.YtflalhdofhobmaaGreat

/-
  Grants: an Alloc's exchanges.
-/
set_option linter.unusedVariables false
set_option linter.unusedSimpArgs false
namespace Go.Proofs.YtflalhdofhobmaaGreat
open Go
attribute [local irreducible] Sx Cx Rx Fx Krg Ksq Kbl Klp Kr
section
variable {L F G : St}
end
end Go.Proofs.YtflalhdofhobmaaGreat

/-
  Grants: an Alloc, one access at a time.
-/
set_option linter.unusedVariables false
set_option linter.unusedSimpArgs false
namespace Go.Proofs.YtflalhdofhobmaaGreat
open Go
attribute [local irreducible] Sx Cx Rx Fx Krg Ksq Kbl Klp Kr
/-- What may be of an Alloc. -/
structure AlOk (x : Cn) (a : AlS) : Prop where
  o0 : a.at_ ≤ 6
  o1 : a.v.cnt ≤ 1000000
  o2 : -1 ≤ a.v.hand
  o3 : a.v.hand < x.c
  o4 : (rtOf a.v.was).ok
  o5 : a.at_ = 1 → (rtOf a.v.was).off + a.v.need ≤ x.wd
  o6 : a.at_ = 5 → 1 ≤ a.v.need ∧ a.v.need ≤ x.wd
  o7 : a.at_ = 3 ∨ a.at_ = 4 ∨ a.at_ = 5 → 0 ≤ a.v.hand
  o8 : a.at_ = 3 → a.v.zat < x.wd
  o9 : a.at_ = 2 → a.t.ok
section
variable {L F G : St}
end
end Go.Proofs.YtflalhdofhobmaaGreat

/-
  grant's statements: the memory, the workers' supplies, the document's beside.
-/
set_option linter.unusedVariables false
set_option linter.unusedSimpArgs false
namespace Go.Proofs.YtflalhdofhobmaaGreat
open Go
attribute [local irreducible] Sx Cx Rx Fx Krg Ksq Kbl Klp Kr
section
variable {L F G : St}
/-- All spare, all in the pool. -/
def allM (x : Cn) : Mm := fillM x.spare (poolM x)
theorem allM_len (x : Cn) : (allM x).ws.length = x.len := by unfold allM; rw [fillM_len, poolM_len]
theorem zeroM_at (x : Cn) (a : Nat) : (zeroM x).at_ a = 0 := by
  unfold zeroM Mm.at_
  rw [List.getD_eq_getElem?_getD, List.getElem?_replicate]
  split <;> rfl
theorem allM_at {x : Cn} (hx : x.ok) {a : Nat} (h0 : a ≠ 0) (h1 : a ≠ 1) (hs : ¬ (x.slot ≤ a ∧ a < x.slot + x.sl)) (hl : ¬ (x.link ≤ a ∧ a < x.link + x.c)) : (allM x).at_ a = 0 := by
  have hlen := hx.len_le
  unfold allM
  rw [(fill_pool (hx.spare (n := x.len) (Nat.le_refl _) hlen) (poolM_len x)).2 a h1 (fun j hj => by have : j < x.sl := hj; show a ≠ x.slot + j; omega)]
  unfold poolM
  rw [(fill_pool (hx.pool (n := x.len) (Nat.le_refl _) hlen) (zeroM_len x)).2 a h0 (fun j hj => by have : j < x.c := hj; show a ≠ x.link + j; omega)]
  exact zeroM_at x a
theorem allM_ok {x : Cn} (hx : x.ok) : (allM x).ok := by
  obtain ⟨b1, b2, b3, b4, b5, b6, b7⟩ := hx.b
  refine fillM_ok (fillM_ok (fun w hw => ?_) (by show x.c ≤ 4096; omega)) (by show x.sl ≤ 4096; omega)
  simp only [zeroM] at hw; rw [List.eq_of_mem_replicate hw]; omega
theorem allM_pool {x : Cn} (hx : x.ok) : Pool x.pool (allM x) (iotaI x.c) := by
  have hlen := hx.len_le
  have hsp := hx.spare (n := x.len) (Nat.le_refl _) hlen
  have h1 := (fill_pool (hx.pool (n := x.len) (Nat.le_refl _) hlen) (zeroM_len x)).1
  have h2 := (fill_pool hsp (poolM_len x)).2
  have g : x.slot + x.sl = x.link := by unfold Cn.slot Cn.link; omega
  have g3 : 3 ≤ x.slot := by unfold Cn.slot; omega
  unfold allM
  refine ⟨?_, h1.nd⟩
  rw [h2 _ (by show (0 : Nat) ≠ 1; omega) (fun j hj => by have : j < x.sl := hj; show 0 ≠ x.slot + j; omega)]
  refine h1.c.congr fun z hz => ?_
  have hz2 := h1.c.mem z hz
  rw [h2 _ (by show x.link + z.toNat ≠ 1; omega) (fun j hj => by have : j < x.sl := hj; show x.link + z.toNat ≠ x.slot + j; omega)]
  rfl
theorem allM_spare {x : Cn} (hx : x.ok) : Pool x.spare (allM x) (iotaI x.sl) := (fill_pool (hx.spare (n := x.len) (Nat.le_refl _) hx.len_le) (poolM_len x)).1
/-- Where all stands. -/
structure Hn where
  a : Nat
  mp : Nat
  ro : Nat
  sp : Nat
  g : Nat
  pb : Nat
  w : Nat
  rm : Nat
  rp : Nat
  rs : Nat
  re : Nat
def updQ (Q : Nat → Who) (i : Nat) (q : Who) : Nat → Who := fun j => if j = i then q else Q j
end
end Go.Proofs.YtflalhdofhobmaaGreat

/-
  Roots: an End, one access at a time.
-/
set_option linter.unusedVariables false
set_option linter.unusedSimpArgs false
namespace Go.Proofs.YtflalhdofhobmaaGreat
open Go
attribute [local irreducible] Sx Cx Rx Fx Krg Ksq Kbl Klp Kr
section
variable {L F G : St}
abbrev enF (nx n1 n2 n3 : Value) (r slot : Nat) (gen : Int) (cnt : Int) (was : Nat) (rt : Rt) (code : Nat) (chunk : Int) (point : Nat) : List Value :=
  [nx, n1, n2, n3, .int .i64 cnt, .pointer (some ⟨r, 0, none⟩), .int .i64 (slot : Nat), .int .i64 gen, wd was, .int .i64 (rt.gen : Nat), .int .i64 (rt.mrk : Nat), .int .i64 (rt.cl : Nat), .int .i64 (rt.off : Nat), .int .i64 (code : Nat), .int .i64 chunk, .int .i64 (point : Nat)]
abbrev enB (b : Nat) (nx n1 n2 n3 : Value) (r slot : Nat) (gen : Int) (cnt : Int) (was : Nat) (rt : Rt) (code : Nat) (chunk : Int) (point : Nat) : As := pt (some ⟨b, 0, none⟩) (Blk 173 (enF nx n1 n2 n3 r slot gen cnt was rt code chunk point))
def enL (nx : Value) (T : TypeId) (r slot : Nat) (gen : Int) (e : EndS) (a : Option Addr) (y : Value × Value × Value) : St :=
  [pt a (Blk T (enF nx y.1 y.2.1 y.2.2 r slot gen (e.cnt : Nat) e.was (rtOf e.was) e.code e.chunk e.point))]
def EndT (T : TypeId) (r slot : Nat) (gen : Int) (e : EndS) (a : Option Addr) : As := bif e.done then exs (enL .nilFunc T r slot gen e a) else match e.at_ with
  | 0 => exs (enL (.func (.func 105) #[.pointer a] #[]) T r slot gen e a) | _ => exs (enL (.func (.func 176) #[.pointer a] #[]) T r slot gen e a)
abbrev EndO := EndT 173
section
variable {T : TypeId} {r slot : Nat} {gen : Int} {e : EndS} {a : Option Addr}
theorem EndO.l (h : e.done = false) (h0 : e.at_ = 0) : EndT T r slot gen e a = exs (enL (.func (.func 105) #[.pointer a] #[]) T r slot gen e a) := by unfold EndT; rw [h, h0]; rfl
theorem EndO.c (h : e.done = false) (h0 : e.at_ = 1) : EndT T r slot gen e a = exs (enL (.func (.func 176) #[.pointer a] #[]) T r slot gen e a) := by unfold EndT; rw [h, h0]; rfl
theorem EndO.d (h : e.done = true) : EndT T r slot gen e a = exs (enL .nilFunc T r slot gen e a) := by unfold EndT; rw [h]; rfl
end
section
variable {b r slot was code point : Nat} {gen cnt chunk : Int} {n1 n2 n3 : Value} {rt : Rt}
theorem EndO.closeL (e : EndS) (h : e.done = false) (h0 : e.at_ = 0) (e1 : cnt = (e.cnt : Nat)) (e2 : was = e.was) (e3 : rt = rtOf e.was) (e4 : code = e.code) (e5 : chunk = e.chunk) (e6 : point = e.point) :
    Ent (enB b (mth 105 b) n1 n2 n3 r slot gen cnt was rt code chunk point :: G) (pt (some ⟨b, 0, none⟩) (EndO r slot gen e) :: G) := by
  subst e1 e2 e3 e4 e5 e6
  exact Ent.close (f := enL (mth 105 b) 173 r slot gen e (some ⟨b, 0, none⟩)) (EndO.l h h0) (n1, n2, n3)
theorem EndO.closeC (e : EndS) (h : e.done = false) (h0 : e.at_ = 1) (e1 : cnt = (e.cnt : Nat)) (e2 : was = e.was) (e3 : rt = rtOf e.was) (e4 : code = e.code) (e5 : chunk = e.chunk) (e6 : point = e.point) :
    Ent (enB b (mth 176 b) n1 n2 n3 r slot gen cnt was rt code chunk point :: G) (pt (some ⟨b, 0, none⟩) (EndO r slot gen e) :: G) := by
  subst e1 e2 e3 e4 e5 e6
  exact Ent.close (f := enL (mth 176 b) 173 r slot gen e (some ⟨b, 0, none⟩)) (EndO.c h h0) (n1, n2, n3)
theorem EndO.closeD (e : EndS) (h : e.done = true) (e1 : cnt = (e.cnt : Nat)) (e2 : was = e.was) (e3 : rt = rtOf e.was) (e4 : code = e.code) (e5 : chunk = e.chunk) (e6 : point = e.point) :
    Ent (enB b .nilFunc n1 n2 n3 r slot gen cnt was rt code chunk point :: G) (pt (some ⟨b, 0, none⟩) (EndO r slot gen e) :: G) := by
  subst e1 e2 e3 e4 e5 e6
  exact Ent.close (f := enL .nilFunc 173 r slot gen e (some ⟨b, 0, none⟩)) (EndO.d h) (n1, n2, n3)
end
/-- What may be of an End. -/
structure EndS.ok (e : EndS) : Prop where
  a : e.at_ ≤ 1
  w : e.was < 18446744073709551616
  g : e.at_ = 1 → (rtOf e.was).mrk ≤ 4097
  n : e.cnt ≤ 1000000
theorem rootsIs {g mp sb : Nat} {x : Cn} (s : Int) [c : Take L (some ⟨g, 0, none⟩) (RoO mp sb x) F] :
    Fx Tryz.prog 104 [.pointer (some ⟨g, 0, none⟩), .int .i64 s] L (fun v L' => v = .bool (decide (0 ≤ s ∧ s < x.sl)) ∧ L = L') := by
  refine Fx.kept (t := c) ?_
  refine Fx.mk Tryz.func104 k104 (Nat.le_of_ble_eq_true rfl) ?_
  dsimp only [c104, envOf, Nat.reduceAdd]
  refine Cx.ent (Ent.of c.out) ?_
  refine go ?_
  by_cases h0 : 0 ≤ s
  · refine Sx.gyes rfl (decide_eq_true h0) ?_
    refine go ?_
    refine Kr.one (.inr rfl) rfl (Ent.refl _) ⟨?_, rfl⟩
    congr 1
    exact decide_eq_decide.2 ⟨fun h => ⟨h0, h⟩, fun h => h.2⟩
  · refine Sx.gno rfl (decide_eq_false h0) ?_
    refine go ?_
    refine Kr.one (.inr rfl) rfl (Ent.refl _) ⟨?_, rfl⟩
    rw [decide_eq_false (fun h => h0 h.1)]
theorem rootsEnd {g mp sb : Nat} {x : Cn} (slot : Nat) (gen : Int) (hs : slot < x.sl) [c : Take L (some ⟨g, 0, none⟩) (RoO mp sb x) F] :
    Fx Tryz.prog 35 [.pointer (some ⟨g, 0, none⟩), .int .i64 slot, .int .i64 gen] L (fun v L' => ∃ b, v = .tuple #[.pointer (some ⟨b, 0, none⟩), .int .i64 0] ∧ L' = pt (some ⟨b, 0, none⟩) (EndO g slot gen EndS.init) :: L) := by
  refine Fx.mk Tryz.func35 k35 (Nat.le_of_ble_eq_true rfl) ?_
  dsimp only [c35, envOf, Nat.reduceAdd]
  refine go ?_
  refine Sx.ca rfl (rootsIs (g := g) (mp := mp) (sb := sb) (x := x) (slot : Int)) ?_
  rintro v L' ⟨rfl, rfl⟩
  rw [decide_eq_true (show (0 : Int) ≤ slot ∧ (slot : Int) < x.sl by omega)]
  refine go ?_
  refine Sx.bx rfl rfl fun b => ?_
  refine Sx.re (enF .nilFunc .nilFunc .nilFunc .nilFunc g slot gen 0 0 (rtOf 0) 0 (-1) 0) rfl ?_
  refine go ?_
  refine Sx.ca rfl (machGo (b := b)) ?_
  rintro v L' ⟨rfl, rfl⟩
  refine go ?_
  refine Kr.two (.inr rfl) rfl rfl ?_ ⟨b, rfl, rfl⟩
  exact EndO.closeL (b := b) (r := g) (slot := slot) (gen := gen) (rt := rtOf 0) EndS.init rfl rfl rfl rfl rfl rfl rfl rfl
theorem rootsEndNo {g mp sb : Nat} {x : Cn} (slot gen : Int) (hs : ¬ (0 ≤ slot ∧ slot < x.sl)) [c : Take L (some ⟨g, 0, none⟩) (RoO mp sb x) F] :
    Fx Tryz.prog 35 [.pointer (some ⟨g, 0, none⟩), .int .i64 slot, .int .i64 gen] L (fun v L' => v = .tuple #[.pointer none, .int .i64 1] ∧ L = L') := by
  refine Fx.mk Tryz.func35 k35 (Nat.le_of_ble_eq_true rfl) ?_
  dsimp only [c35, envOf, Nat.reduceAdd]
  refine go ?_
  refine Sx.ca rfl (rootsIs (g := g) (mp := mp) (sb := sb) (x := x) slot) ?_
  rintro v L' ⟨rfl, rfl⟩
  rw [decide_eq_false hs]
  refine go ?_
  exact Kr.two (.inr rfl) rfl rfl (Ent.refl _) ⟨rfl, rfl⟩
/-- The root is looked at. -/
theorem endLoad_ {b r mp sp slot : Nat} {gen : Int} {x : Cn} {m : Mm} {e : EndS} {n1 n2 n3 : Value} {cnt : Int} (hcnt : cnt = ((e.cnt + 1 : Nat) : Int)) (hd : e.done = false) (hx : x.ok) (hm : m.ok) (hl : x.len ≤ m.ws.length) (hs : slot < x.sl) :
    Fx Tryz.prog 105 [.pointer (some ⟨b, 0, none⟩)] (enB b .nilFunc n1 n2 n3 r slot gen cnt e.was (rtOf e.was) e.code e.chunk e.point :: pt (some ⟨r, 0, none⟩) (RoO mp sp x) :: pt (some ⟨mp, 0, none⟩) (MemO m) :: G)
      (fun v L' => L' = pt (some ⟨b, 0, none⟩) (EndO r slot gen (if (rtOf (m.at_ (x.root + slot))).live gen then { e with cnt := e.cnt + 1, was := m.at_ (x.root + slot), at_ := 1 } else { e with cnt := e.cnt + 1, was := m.at_ (x.root + slot), code := 3, point := e.cnt + 1, done := true })) :: pt (some ⟨mp, 0, none⟩) (MemO m.tick) :: pt (some ⟨r, 0, none⟩) (RoO mp sp x) :: G) := by
  subst hcnt
  have hwl := Mm.at_lt hm (x.root + slot)
  refine Fx.mk Tryz.func105 k105 (Nat.le_of_ble_eq_true rfl) ?_
  dsimp only [c105, envOf, Nat.reduceAdd]
  refine Cx.sq ?_
  refine Cx.ordc rfl (by kernel_rfl) ?_
  refine ge ?_
  refine Ev.caH (by kernel_rfl) rfl rfl (rootsLoad (g := r) (mp := mp) (sb := sp) (x := x) (m := m) slot hs hx hm hl) (Pres.deps (by kernel_rfl)) ?_
  rintro v L' ⟨rfl, rfl⟩
  obtain ⟨W, hW⟩ : ∃ W, m.at_ (x.root + slot) = W := ⟨_, rfl⟩
  rw [hW] at hwl ⊢
  refine ge ?_
  refine Ev.stbH (b := b) (by kernel_rfl) rfl rfl rfl rfl rfl (by rfl) rfl (.keep (fun v L' ⟨_, e⟩ => by subst e; exact Has.cell rfl) (.keep (fun v L' ⟨_, e⟩ => by subst e; exact Has.cell rfl) .nil)) ?_
  refine ge ?_
  refine Ev.stnH (b := b) (enF .nilFunc n1 n2 n3 r slot gen ((e.cnt + 1 : Nat) : Int) W (rtOf W) e.code e.chunk e.point) (by kernel_rfl) rfl rfl rfl rfl rfl rfl rfl rfl (Pres.deps (by kernel_rfl)) ?_
  refine ge ?_
  refine Cx.sq ?_
  refine Cx.sq ?_
  refine Cx.ordc rfl (by kernel_rfl) ?_
  refine ge ?_
  refine Ev.cakH (by kernel_rfl) rfl rfl (wordLive (rtOf W) gen) ?_
  refine ge ?_
  by_cases hlive : (rtOf W).live gen
  case neg =>
    rw [decide_eq_false hlive, if_neg hlive]
    refine go ?_
    refine Sx.ca rfl (machCount (b := b)) ?_
    rintro v' L' ⟨rfl, rfl⟩
    refine go ?_
    refine Kr.none (.inr rfl) ?_ rfl
    refine Ent.trans (Ent.take (a := some ⟨b, 0, none⟩)) ?_
    refine Ent.trans (EndO.closeD (rt := rtOf W) { e with cnt := e.cnt + 1, was := W, code := 3, point := e.cnt + 1, done := true } rfl rfl rfl rfl rfl rfl rfl) (Ent.cons ?_)
    exact ent
  case pos =>
    rw [decide_eq_true hlive, if_pos hlive]
    refine go ?_
    refine Sx.ca rfl (machGo (b := b)) ?_
    rintro v' L' ⟨rfl, rfl⟩
    refine go ?_
    refine Kr.none (.inl rfl) ?_ rfl
    refine Ent.trans (Ent.take (a := some ⟨b, 0, none⟩)) ?_
    refine Ent.trans (EndO.closeC (rt := rtOf W) { e with cnt := e.cnt + 1, was := W, at_ := 1 } hd rfl rfl rfl rfl rfl rfl rfl) (Ent.cons ?_)
    exact ent
/-- The root is changed, if it is the one that was looked at. -/
theorem endCas_ {b r mp sp slot : Nat} {gen : Int} {x : Cn} {m : Mm} {e : EndS} {n1 n2 n3 : Value} {cnt : Int} (hcnt : cnt = ((e.cnt + 1 : Nat) : Int)) (hd : e.done = false) (h1 : e.at_ = 1) (hx : x.ok) (hl : x.len ≤ m.ws.length) (hs : slot < x.sl) (hw : e.was < 18446744073709551616) :
    Fx Tryz.prog 176 [.pointer (some ⟨b, 0, none⟩)] (enB b .nilFunc n1 n2 n3 r slot gen cnt e.was (rtOf e.was) e.code e.chunk e.point :: pt (some ⟨r, 0, none⟩) (RoO mp sp x) :: pt (some ⟨mp, 0, none⟩) (MemO m) :: G)
      (fun v L' => L' = pt (some ⟨b, 0, none⟩) (EndO r slot gen (if m.at_ (x.root + slot) = e.was then { e with cnt := e.cnt + 1, chunk := (rtOf e.was).chunk, point := e.cnt + 1, done := true } else { e with cnt := e.cnt + 1, at_ := 0 })) :: pt (some ⟨mp, 0, none⟩) (MemO (m.cas (x.root + slot) e.was (Rt.w ⟨(rtOf e.was).gen, 0, 0, 0⟩))) :: pt (some ⟨r, 0, none⟩) (RoO mp sp x) :: G) := by
  subst hcnt
  have hsz : x.root + x.sl ≤ x.len := by unfold Cn.root Cn.len; omega
  have hR : Rt.ok ⟨(rtOf e.was).gen, 0, 0, 0⟩ := ⟨rtOf_gen hw, by show 0 ≤ 4097; omega, by show 0 ≤ 3; omega, by show 0 ≤ 1024; omega⟩
  refine Fx.mk Tryz.func176 k176 (Nat.le_of_ble_eq_true rfl) ?_
  dsimp only [c176, envOf, Nat.reduceAdd]
  refine go ?_
  refine Sx.ca (vs := [rtV ⟨(rtOf e.was).gen, 0, 0, 0⟩]) rfl (putRoot ⟨(rtOf e.was).gen, 0, 0, 0⟩ hR) ?_
  rintro v L' ⟨rfl, rfl⟩
  refine go ?_
  refine Cx.ordc rfl (by kernel_rfl) ?_
  refine ge ?_
  refine Ev.cakH (by kernel_rfl) rfl rfl (layRootN hx slot hs) ?_
  refine ge ?_
  refine Ev.caH (by kernel_rfl) rfl rfl (cellsCas (b := mp) (m := m) (x.root + slot) e.was (Rt.w ⟨(rtOf e.was).gen, 0, 0, 0⟩) (by omega) (Rt.w_lt hR)) (Pres.deps (by kernel_rfl)) ?_
  rintro v L' ⟨rfl, rfl⟩
  refine ge ?_
  refine go ?_
  by_cases hc : m.at_ (x.root + slot) = e.was
  case neg =>
    rw [decide_eq_false hc, if_neg hc]
    refine go ?_
    refine Sx.ca rfl (machGo (b := b)) ?_
    rintro v' L' ⟨rfl, rfl⟩
    refine go ?_
    refine Kr.none (.inr rfl) ?_ rfl
    refine Ent.trans (Ent.take (a := some ⟨b, 0, none⟩)) ?_
    refine Ent.trans (EndO.closeL (rt := rtOf e.was) { e with cnt := e.cnt + 1, at_ := 0 } hd rfl rfl rfl rfl rfl rfl rfl) (Ent.cons ?_)
    exact ent
  case pos =>
    rw [decide_eq_true hc, if_pos hc]
    refine go ?_
    refine Cx.orde rfl (by kernel_rfl) ?_
    refine ge ?_
    refine Ev.cakH (by kernel_rfl) rfl rfl (wordChunk (rtOf e.was) (rtOf_mrk _)) ?_
    refine ge ?_
    refine Ev.cakH (by kernel_rfl) rfl rfl (machCount (b := b)) ?_
    refine ge ?_
    refine Ev.stbH (b := b) (by kernel_rfl) rfl rfl rfl rfl rfl (by rfl) rfl (.keep (fun v L' ⟨_, e⟩ => by subst e; exact machCount (b := b)) (.dep rfl (.dep rfl .nil))) ?_
    refine ge ?_
    refine Ev.stbH (b := b) (by kernel_rfl) rfl rfl rfl rfl rfl (by rfl) rfl (Pres.deps (by kernel_rfl)) ?_
    refine ge ?_
    refine Kr.none (.inl rfl) ?_ rfl
    refine Ent.trans (Ent.take (a := some ⟨b, 0, none⟩)) ?_
    refine Ent.trans (EndO.closeD (rt := rtOf e.was) { e with cnt := e.cnt + 1, chunk := (rtOf e.was).chunk, point := e.cnt + 1, done := true } rfl rfl rfl rfl rfl rfl rfl) (Ent.cons ?_)
    exact ent
/-- One access of an End. -/
theorem endStepC {b r mp sp slot : Nat} {gen : Int} {x : Cn} {m : Mm} {e : EndS} {F1 F2 : St} (hx : x.ok) (hl : x.len ≤ m.ws.length) (hs : slot < x.sl) (he : e.ok)
    [t1 : Take L (some ⟨b, 0, none⟩) (EndO r slot gen e) F1] [t2 : Take F1 (some ⟨mp, 0, none⟩) (MemO m) F2] [t3 : Take F2 (some ⟨r, 0, none⟩) (RoO mp sp x) G] :
    Fx Tryz.prog 32 [.pointer (some ⟨b, 0, none⟩)] L
      (fun v L' => v = .bool (!e.done) ∧ L' = pt (some ⟨b, 0, none⟩) (EndO r slot gen (endStep (x.root + slot) gen m e).1) :: pt (some ⟨mp, 0, none⟩) (MemO (endStep (x.root + slot) gen m e).2) :: F2) := by
  have hback : Ent (pt (some ⟨r, 0, none⟩) (RoO mp sp x) :: G) F2 := Ent.of t3.back
  obtain ⟨ha, hw, hg, hn⟩ := he
  refine Fx.mk Tryz.func32 k32 (Nat.le_of_ble_eq_true rfl) ?_
  dsimp only [c32, envOf, Nat.reduceAdd]
  refine Cx.ent (Ent.trans (Ent.of t1.out) (Ent.cons (Ent.trans (Ent.of t2.out) (Ent.cons (Ent.of t3.out))))) ?_
  refine Cx.pure (memKey (b := mp) (m := m)) fun hm => ?_
  cases hd : e.done with
  | true =>
    have e1 : endStep (x.root + slot) gen m e = (e, m) := by unfold endStep; rw [hd]; rfl
    rw [e1]
    refine Cx.openp (a := some ⟨b, 0, none⟩) (EndO.d hd) ?_
    rintro ⟨n1, n2, n3⟩
    simp only [enL, List.cons_append, List.nil_append]
    refine go ?_
    refine Sx.ca rfl (machStepDone (b := b)) ?_
    rintro v L' ⟨rfl, rfl⟩
    refine go ?_
    exact Kr.one (.inr rfl) rfl (Ent.trans (EndO.closeD e hd rfl rfl rfl rfl rfl rfl) (Ent.cons (Ent.cons hback))) ⟨rfl, rfl⟩
  | false =>
    rcases (show e.at_ = 0 ∨ e.at_ = 1 by omega) with h0 | h0
    · refine Cx.openp (a := some ⟨b, 0, none⟩) (EndO.l hd h0) ?_
      rintro ⟨n1, n2, n3⟩
      simp only [enL, List.cons_append, List.nil_append]
      have e1 : endStep (x.root + slot) gen m e = (if (rtOf (m.at_ (x.root + slot))).live gen then { e with cnt := e.cnt + 1, was := m.at_ (x.root + slot), at_ := 1 } else { e with cnt := e.cnt + 1, was := m.at_ (x.root + slot), code := 3, point := e.cnt + 1, done := true }, m.tick) := by unfold endStep; rw [hd, h0]; rfl
      rw [e1]
      refine Cx.ent (M := enB b (mth 105 b) n1 n2 n3 r slot gen (e.cnt : Nat) e.was (rtOf e.was) e.code e.chunk e.point :: pt (some ⟨r, 0, none⟩) (RoO mp sp x) :: pt (some ⟨mp, 0, none⟩) (MemO m) :: G) (by exact ent) ?_
      refine go ?_
      refine Sx.ca rfl (machStep (b := b) (by kernel_rfl) (endLoad_ (b := b) (r := r) (mp := mp) (sp := sp) (x := x) (m := m) (e := e) (cntW hn) hd hx hm.1 hl hs)) ?_
      rintro v L' ⟨rfl, w, rfl⟩
      refine go ?_
      exact Kr.one (.inr rfl) rfl (Ent.cons (Ent.cons hback)) ⟨rfl, rfl⟩
    · refine Cx.openp (a := some ⟨b, 0, none⟩) (EndO.c hd h0) ?_
      rintro ⟨n1, n2, n3⟩
      simp only [enL, List.cons_append, List.nil_append]
      have e1 : endStep (x.root + slot) gen m e = (if m.at_ (x.root + slot) = e.was then { e with cnt := e.cnt + 1, chunk := (rtOf e.was).chunk, point := e.cnt + 1, done := true } else { e with cnt := e.cnt + 1, at_ := 0 }, m.cas (x.root + slot) e.was (Rt.w ⟨(rtOf e.was).gen, 0, 0, 0⟩)) := by unfold endStep; rw [hd, h0]; rfl
      rw [e1]
      refine Cx.ent (M := enB b (mth 176 b) n1 n2 n3 r slot gen (e.cnt : Nat) e.was (rtOf e.was) e.code e.chunk e.point :: pt (some ⟨r, 0, none⟩) (RoO mp sp x) :: pt (some ⟨mp, 0, none⟩) (MemO m) :: G) (by exact ent) ?_
      refine go ?_
      refine Sx.ca rfl (machStep (b := b) (by kernel_rfl) (endCas_ (b := b) (r := r) (mp := mp) (sp := sp) (x := x) (m := m) (e := e) (cntW hn) hd h0 hx hl hs hw)) ?_
      rintro v L' ⟨rfl, w, rfl⟩
      refine go ?_
      exact Kr.one (.inr rfl) rfl (Ent.cons (Ent.cons hback)) ⟨rfl, rfl⟩
theorem EndS.ok_init : EndS.init.ok := ⟨by show 0 ≤ 1; omega, by show 0 < 18446744073709551616; omega, (fun h => by cases h), by show 0 ≤ 1000000; omega⟩
/-- Is an End done? -/
theorem endDone {b r slot : Nat} {gen : Int} {e : EndS} {F1 : St} (ha : e.at_ ≤ 1) [t1 : Take L (some ⟨b, 0, none⟩) (EndO r slot gen e) F1] : Fx Tryz.prog 34 [.pointer (some ⟨b, 0, none⟩)] L (fun v L' => v = .bool e.done ∧ L = L') := by
  refine Fx.kept (t := t1) ?_
  refine Fx.mk Tryz.func34 k34 (Nat.le_of_ble_eq_true rfl) ?_
  dsimp only [c34, envOf, Nat.reduceAdd]
  refine Cx.ent (Ent.of t1.out) ?_
  cases hd : e.done with
  | true =>
    refine Cx.openp (a := some ⟨b, 0, none⟩) (EndO.d hd) ?_
    rintro ⟨n1, n2, n3⟩
    simp only [enL, List.cons_append, List.nil_append]
    refine go ?_
    refine Sx.ca rfl (machDoneYes (b := b)) ?_
    rintro v L' ⟨rfl, rfl⟩
    refine go ?_
    exact Kr.one (.inr rfl) rfl (EndO.closeD e hd rfl rfl rfl rfl rfl rfl) ⟨rfl, rfl⟩
  | false =>
    rcases (show e.at_ = 0 ∨ e.at_ = 1 by omega) with h0 | h0
    · refine Cx.openp (a := some ⟨b, 0, none⟩) (EndO.l hd h0) ?_
      rintro ⟨n1, n2, n3⟩
      simp only [enL, List.cons_append, List.nil_append]
      refine go ?_
      refine Sx.ca rfl (machDoneNo (b := b)) ?_
      rintro v L' ⟨rfl, rfl⟩
      refine go ?_
      exact Kr.one (.inr rfl) rfl (EndO.closeL e hd h0 rfl rfl rfl rfl rfl rfl) ⟨rfl, rfl⟩
    · refine Cx.openp (a := some ⟨b, 0, none⟩) (EndO.c hd h0) ?_
      rintro ⟨n1, n2, n3⟩
      simp only [enL, List.cons_append, List.nil_append]
      refine go ?_
      refine Sx.ca rfl (machDoneNo (b := b)) ?_
      rintro v L' ⟨rfl, rfl⟩
      refine go ?_
      exact Kr.one (.inr rfl) rfl (EndO.closeC e hd h0 rfl rfl rfl rfl rfl rfl) ⟨rfl, rfl⟩
theorem endCode {b r slot : Nat} {gen : Int} {e : EndS} {F1 : St} (hd : e.done = true) [t1 : Take L (some ⟨b, 0, none⟩) (EndO r slot gen e) F1] : Fx Tryz.prog 41 [.pointer (some ⟨b, 0, none⟩)] L (fun v L' => v = .int .i64 (e.code : Nat) ∧ L = L') := by
  refine Fx.kept (t := t1) ?_
  refine Fx.mk Tryz.func41 k41 (Nat.le_of_ble_eq_true rfl) ?_
  dsimp only [c41, envOf, Nat.reduceAdd]
  refine Cx.ent (Ent.of t1.out) ?_
  refine Cx.openp (a := some ⟨b, 0, none⟩) (EndO.d hd) ?_
  rintro ⟨n1, n2, n3⟩
  simp only [enL, List.cons_append, List.nil_append]
  refine go ?_
  exact Kr.one (.inr rfl) rfl (EndO.closeD e hd rfl rfl rfl rfl rfl rfl) ⟨rfl, rfl⟩
theorem endChunk {b r slot : Nat} {gen : Int} {e : EndS} {F1 : St} (hd : e.done = true) [t1 : Take L (some ⟨b, 0, none⟩) (EndO r slot gen e) F1] : Fx Tryz.prog 43 [.pointer (some ⟨b, 0, none⟩)] L (fun v L' => v = .int .i64 e.chunk ∧ L = L') := by
  refine Fx.kept (t := t1) ?_
  refine Fx.mk Tryz.func43 k43 (Nat.le_of_ble_eq_true rfl) ?_
  dsimp only [c43, envOf, Nat.reduceAdd]
  refine Cx.ent (Ent.of t1.out) ?_
  refine Cx.openp (a := some ⟨b, 0, none⟩) (EndO.d hd) ?_
  rintro ⟨n1, n2, n3⟩
  simp only [enL, List.cons_append, List.nil_append]
  refine go ?_
  exact Kr.one (.inr rfl) rfl (EndO.closeD e hd rfl rfl rfl rfl rfl rfl) ⟨rfl, rfl⟩
end
end Go.Proofs.YtflalhdofhobmaaGreat

/-
  A Walk along a chain; a Free, one access at a time.
-/
set_option linter.unusedVariables false
set_option linter.unusedSimpArgs false
namespace Go.Proofs.YtflalhdofhobmaaGreat
/-- A Walk: what it found. -/
structure WalkS where
  l : List Int
  done : Bool
/-- What is behind a chunk; -1: none. -/
def behindN (c w : Nat) : Int := if c < w then -1 else (w : Int) - 1
def walkStep (lk c : Nat) (m : Mm) (s : WalkS) : WalkS × Mm :=
  if s.done then (s, m) else
  if 0 ≤ behindN c (m.at_ (lk + (lastI s.l).toNat)) ∧ s.l.length < c then (⟨s.l ++ [behindN c (m.at_ (lk + (lastI s.l).toNat))], false⟩, m.tick) else (⟨s.l, true⟩, m.tick)
structure WalkS.ok (c : Nat) (s : WalkS) : Prop where
  ne : s.l ≠ []
  r : ∀ z ∈ s.l, 0 ≤ z ∧ z < c
  l : s.l.length ≤ c
theorem behindN_lt {c w : Nat} (h : 0 ≤ behindN c w) : behindN c w < c := by
  unfold behindN at h ⊢
  split at h
  · omega
  · rw [if_neg (by omega)]; omega
theorem walkStep_ok {lk c : Nat} {m : Mm} {s : WalkS} (h : s.ok c) : (walkStep lk c m s).1.ok c := by
  obtain ⟨h1, h2, h3⟩ := h
  unfold walkStep
  split
  · exact ⟨h1, h2, h3⟩
  · split
    · rename_i h4
      refine ⟨by simp, fun z hz => ?_, by simp; omega⟩
      rcases List.mem_append.1 hz with hz | hz
      · exact h2 z hz
      · rw [List.mem_singleton.1 hz]
        exact ⟨h4.1, behindN_lt h4.1⟩
    · exact ⟨h1, h2, h3⟩
/-- A Free: at: 0: the End, 1: the Load of the epoch, 2: the Walk, 3: the slot's Push, 4: the Spill. -/
structure FrV where
  cnt : Nat
  tag : Int
  chunk : Int
  slot : Int
  point : Nat
  back : Nat
  code : Nat
structure FrS where
  at_ : Nat
  v : FrV
  e : EndS
  w : WalkS
  p : PushS
  g : PushS
  done : Bool
structure FrP where
  k : Sk
  sp : Sk
  ro : Nat
  lk : Nat
  c : Nat
  slot : Nat
  gen : Int
noncomputable def supRet (s : SupS) (tag : Int) (ys : List Int) : SupS := by
  classical exact if refused s.lm tag ys then s else ⟨s.most, s.xs ++ outM s.lm tag, retireM s.lm tag ys⟩
def WalkS.zero : WalkS := ⟨[], true⟩
def FrS.init : FrS := ⟨0, ⟨0, 0, -1, -1, 0, 0, 0⟩, EndS.init, WalkS.zero, gNone, gNone, false⟩
def frLeave (p : FrP) (v : FrV) (e : EndS) (w : WalkS) : FrS := ⟨3, { v with chunk := -1 }, e, w, PushS.init [(p.slot : Int)], gNone, false⟩
/-- Its End is done. -/
def frEnded (p : FrP) (v : FrV) (e : EndS) : FrS :=
  if e.code ≠ 0 then ⟨0, { v with point := v.cnt, code := e.code }, e, WalkS.zero, gNone, gNone, true⟩
  else if 0 ≤ e.chunk then ⟨1, { v with point := v.cnt, code := 0, slot := p.slot, chunk := e.chunk }, e, WalkS.zero, gNone, gNone, false⟩
  else frLeave p { v with point := v.cnt, code := 0, slot := p.slot } e WalkS.zero
noncomputable def frStep (p : FrP) (m : Mm) (s : SupS) (f : FrS) : Mm × SupS × FrS :=
  if f.done then (m, s, f) else
  let v : FrV := { f.v with cnt := f.v.cnt + 1 }
  match f.at_ with
  | 0 => ((endStep (p.ro + p.slot) p.gen m f.e).2, s, if (endStep (p.ro + p.slot) p.gen m f.e).1.done then frEnded p v (endStep (p.ro + p.slot) p.gen m f.e).1 else ⟨0, v, (endStep (p.ro + p.slot) p.gen m f.e).1, WalkS.zero, gNone, gNone, false⟩)
  | 1 => (m.tick, s, ⟨2, { v with tag := cutE (m.at_ 2) }, f.e, ⟨[v.chunk], false⟩, gNone, gNone, false⟩)
  | 2 => ((walkStep p.lk p.c m f.w).2, if (walkStep p.lk p.c m f.w).1.done then supRet s v.tag (walkStep p.lk p.c m f.w).1.l else s,
      if (walkStep p.lk p.c m f.w).1.done then frLeave p v f.e (walkStep p.lk p.c m f.w).1 else ⟨2, v, f.e, (walkStep p.lk p.c m f.w).1, gNone, gNone, false⟩)
  | 3 => ((pushStep p.sp m f.p).2, if (pushStep p.sp m f.p).1.done then { s with xs := s.xs.drop (overK s.most s.xs) } else s,
      if (pushStep p.sp m f.p).1.done then ⟨4, { v with back := v.cnt, slot := -1 }, f.e, f.w, (pushStep p.sp m f.p).1, giveInit p.k (s.xs.take (overK s.most s.xs)), (giveInit p.k (s.xs.take (overK s.most s.xs))).done⟩
      else ⟨3, v, f.e, f.w, (pushStep p.sp m f.p).1, gNone, false⟩)
  | _ => ((pushStep p.k m f.g).2, s, ⟨4, v, f.e, f.w, f.p, (pushStep p.k m f.g).1, (pushStep p.k m f.g).1.done⟩)
noncomputable def frIt (p : FrP) : Nat → Mm × SupS × FrS → Mm × SupS × FrS
  | 0, r => r
  | j + 1, r => frStep p (frIt p j r).1 (frIt p j r).2.1 (frIt p j r).2.2
end Go.Proofs.YtflalhdofhobmaaGreat

/-
  chain: a Walk.
-/
set_option linter.unusedVariables false
set_option linter.unusedSimpArgs false
namespace Go.Proofs.YtflalhdofhobmaaGreat
open Go
attribute [local irreducible] Sx Cx Rx Fx Krg Ksq Kbl Klp Kr
section
variable {L F G : St}
theorem chainIs {g mp sb : Nat} {x : Cn} (s : Int) [c : Take L (some ⟨g, 0, none⟩) (ChO mp sb x) F] :
    Fx Tryz.prog 198 [.pointer (some ⟨g, 0, none⟩), .int .i64 s] L (fun v L' => v = .bool (decide (0 ≤ s ∧ s < x.c)) ∧ L = L') := by
  refine Fx.kept (t := c) ?_
  refine Fx.mk Tryz.func198 k198 (Nat.le_of_ble_eq_true rfl) ?_
  dsimp only [c198, envOf, Nat.reduceAdd]
  refine Cx.ent (Ent.of c.out) ?_
  refine go ?_
  by_cases h0 : 0 ≤ s
  · refine Sx.gyes rfl (decide_eq_true h0) ?_
    refine go ?_
    refine Kr.one (.inr rfl) rfl (Ent.refl _) ⟨?_, rfl⟩
    congr 1
    exact decide_eq_decide.2 ⟨fun h => ⟨h0, h⟩, fun h => h.2⟩
  · refine Sx.gno rfl (decide_eq_false h0) ?_
    refine go ?_
    refine Kr.one (.inr rfl) rfl (Ent.refl _) ⟨?_, rfl⟩
    rw [decide_eq_false (fun h => h0 h.1)]
theorem chainBehind {g mp sb : Nat} {x : Cn} (w : Nat) (hw : w < 18446744073709551616) (hc : x.c ≤ 4096) [c : Take L (some ⟨g, 0, none⟩) (ChO mp sb x) F] :
    Fx Tryz.prog 199 [.pointer (some ⟨g, 0, none⟩), wd w] L (fun v L' => v = .int .i64 (behindN x.c w) ∧ L = L') := by
  refine Fx.kept (t := c) ?_
  refine Fx.mk Tryz.func199 k199 (Nat.le_of_ble_eq_true rfl) ?_
  dsimp only [c199, envOf, Nat.reduceAdd]
  refine Cx.ent (Ent.of c.out) ?_
  refine go ?_
  rw [wrap64 (n := x.c) (by omega)]
  refine Cx.ifp rfl (fun h => ?_) (fun h => ?_)
  · refine go ?_
    exact Kr.one (.inr rfl) rfl (Ent.refl _) ⟨by unfold behindN; rw [if_pos (by omega)], rfl⟩
  · refine go ?_
    rw [w64 (n := (w : Int)) (by omega) (by omega), w64 (n := (w : Int) - 1) (by omega) (by omega)]
    exact Kr.one (.inr rfl) rfl (Ent.refl _) ⟨by unfold behindN; rw [if_neg (by omega)], rfl⟩
/-! A Walk. -/
def wkNx (a : Option Addr) (s : WalkS) : Value := bif s.done then .nilFunc else .func (.func 255) #[.pointer a] #[]
def wkL (T : TypeId) (ch c : Nat) (s : WalkS) (a : Option Addr) (y : (Option Addr × Nat) × Int) : St :=
  [lift (s.ok c), pt a (Blk T [wkNx a s, .nilFunc, .nilFunc, .nilFunc, .int .i64 y.2, .pointer (some ⟨ch, 0, none⟩), .slice y.1.1 s.l.length y.1.2]), pt y.1.1 (Row 3 1 s.l.length y.1.2 (ints s.l))]
def WalkT (T : TypeId) (ch c : Nat) (s : WalkS) (a : Option Addr) : As := exs (wkL T ch c s a)
abbrev WalkO := WalkT 292
theorem WalkO.close {T : TypeId} {ch k : Nat} {a r : Option Addr} {c n : Nat} {cnt : Int} {v0 : Value} {w : List Value} {F G : St} (s : WalkS) (hs : s.ok k)
    [t : Take L a (Blk T [v0, .nilFunc, .nilFunc, .nilFunc, .int .i64 cnt, .pointer (some ⟨ch, 0, none⟩), .slice r n c]) F] [u : Take F r (Row 3 1 n c w) G]
    (h0 : v0 = wkNx a s) (hn : n = s.l.length) (hw : w = ints s.l) : Ent L (pt a (WalkT T ch k s) :: G) := by
  subst h0; subst hn; subst hw
  refine Ent.trans (Ent.take1 (t := t) (Ent.of u.out)) ?_
  refine Ent.trans (Ent.lift hs (Ent.refl _)) ?_
  exact Ent.close (f := wkL T ch k s a) rfl ((r, c), cnt)
theorem chainWalk {g mp sb : Nat} {x : Cn} (k : Int) (h0 : 0 ≤ k) (h1 : k < x.c) [c : Take L (some ⟨g, 0, none⟩) (ChO mp sb x) F] :
    Fx Tryz.prog 234 [.pointer (some ⟨g, 0, none⟩), .int .i64 k] L (fun v L' => ∃ b, v = .tuple #[.pointer (some ⟨b, 0, none⟩), .int .i64 0] ∧ L' = pt (some ⟨b, 0, none⟩) (WalkO g x.c ⟨[k], false⟩) :: L) := by
  refine Fx.mk Tryz.func234 k234 (Nat.le_of_ble_eq_true rfl) ?_
  dsimp only [c234, envOf, Nat.reduceAdd]
  refine go ?_
  refine Sx.ca rfl (chainIs (g := g) (mp := mp) (sb := sb) (x := x) k) ?_
  rintro v L' ⟨rfl, rfl⟩
  rw [decide_eq_true (show 0 ≤ k ∧ k < x.c by omega)]
  refine go ?_
  refine Sx.bs (sz := 1) rfl rfl fun q => ?_
  refine go ?_
  refine Sx.bx rfl rfl fun b => ?_
  refine Sx.re [.nilFunc, .nilFunc, .nilFunc, .nilFunc, .int .i64 0, .pointer (some ⟨g, 0, none⟩), .slice (some ⟨q, 0, none⟩) 1 1] rfl ?_
  refine go ?_
  refine Sx.ca rfl (machGo (b := b)) ?_
  rintro v L' ⟨rfl, rfl⟩
  refine go ?_
  refine Kr.two (.inr rfl) rfl rfl ?_ ⟨b, rfl, rfl⟩
  exact WalkO.close (a := some ⟨b, 0, none⟩) (r := some ⟨q, 0, none⟩) (ch := g) (k := x.c) ⟨[k], false⟩ ⟨by simp, fun z hz => by rw [List.mem_singleton.1 hz]; exact ⟨h0, h1⟩, by show 1 ≤ x.c; omega⟩ rfl rfl rfl
theorem walkLoad_ {b ch mp sb : Nat} {x : Cn} {m : Mm} {s : WalkS} {r : Option Addr} {c : Nat} {cnt : Int} (hm : m.ok) (hx : x.ok) (hl : x.len ≤ m.ws.length) (hs : s.ok x.c) (hd : s.done = false) :
    Fx Tryz.prog 255 [.pointer (some ⟨b, 0, none⟩)] (pt (some ⟨b, 0, none⟩) (Blk 292 [.nilFunc, .nilFunc, .nilFunc, .nilFunc, .int .i64 cnt, .pointer (some ⟨ch, 0, none⟩), .slice r s.l.length c]) :: pt r (Row 3 1 s.l.length c (ints s.l)) :: pt (some ⟨mp, 0, none⟩) (MemO m) :: pt (some ⟨ch, 0, none⟩) (ChO mp sb x) :: G)
      (fun v L' => L' = pt (some ⟨b, 0, none⟩) (WalkO ch x.c (walkStep x.link x.c m s).1) :: pt (some ⟨mp, 0, none⟩) (MemO (walkStep x.link x.c m s).2) :: pt (some ⟨ch, 0, none⟩) (ChO mp sb x) :: G) := by
  obtain ⟨b1, b2, b3, b4, b5, b6, b7⟩ := hx.b
  have hlen := hx.len_le
  have hok := walkStep_ok (lk := x.link) (m := m) hs
  obtain ⟨hne, hrg, hll⟩ := hs
  have hlp := List.length_pos_iff.2 hne
  have hr1 := hrg _ (lastI_mem hne)
  have hsz : x.link + x.c ≤ x.len := by unfold Cn.link Cn.len; omega
  have hx0 : (ints s.l)[s.l.length - 1]? = some (.int .i64 (lastI s.l)) := by simp only [ints, List.getElem?_map, lastI_get hne]; rfl
  obtain ⟨y, hy⟩ : ∃ y : Nat, lastI s.l = y := ⟨(lastI s.l).toNat, by omega⟩
  have hlt := Mm.at_lt hm (x.link + y)
  have hstep : walkStep x.link x.c m s = if 0 ≤ behindN x.c (m.at_ (x.link + y)) ∧ s.l.length < x.c then (⟨s.l ++ [behindN x.c (m.at_ (x.link + y))], false⟩, m.tick) else (⟨s.l, true⟩, m.tick) := by
    unfold walkStep; rw [hd, hy, Int.toNat_natCast]; simp only [Bool.false_eq_true, if_false]
  refine Fx.mk Tryz.func255 k255 (Nat.le_of_ble_eq_true rfl) ?_
  dsimp only [c255, envOf, Nat.reduceAdd]
  refine Cx.rowkey (a := r) fun hxl _ _ hkr => ?_
  obtain ⟨rg, rfl⟩ : ∃ g, r = some ⟨g, 0, none⟩ := by
    rcases hkr with h | h
    · omega
    · exact h
  refine go ?_
  refine Cx.ordc rfl (by kernel_rfl) ?_
  refine ge ?_
  rw [w64 (n := (s.l.length : Int) - 1) (by omega) (by omega)]
  refine Ev.pvH (by kernel_rfl) rfl rfl ⟨by omega, by omega⟩ ?_
  refine Ev.ldrH (b := rg) (by kernel_rfl) rfl rfl (v := .int .i64 (lastI s.l)) (by rw [show 0 + ((s.l.length : Int) - 1).toNat * 1 = s.l.length - 1 by omega]; exact hx0) ?_
  refine ge ?_
  rw [hy]
  refine Ev.cakH (by kernel_rfl) rfl rfl (layLinkN hx y (by omega)) ?_
  refine ge ?_
  refine Ev.caH (by kernel_rfl) rfl rfl (cellsLoad (b := mp) (m := m) (x.link + y) (by omega)) (Pres.deps (by kernel_rfl)) ?_
  rintro v L' ⟨rfl, rfl⟩
  refine ge ?_
  refine go ?_
  refine Sx.ca rfl (chainBehind (g := ch) (mp := mp) (sb := sb) (x := x) (m.at_ (x.link + y)) hlt b2) ?_
  rintro v L' ⟨rfl, rfl⟩
  obtain ⟨Y, hY⟩ : ∃ Y, behindN x.c (m.at_ (x.link + y)) = Y := ⟨_, rfl⟩
  rw [hY] at hstep ⊢
  refine go ?_
  refine Cx.ordc rfl (by kernel_rfl) ?_
  refine ge ?_
  have no : ¬ (0 ≤ Y ∧ s.l.length < x.c) → Ent (pt (some ⟨b, 0, none⟩) (Blk 292 [.nilFunc, .nilFunc, .nilFunc, .nilFunc, .int .i64 cnt, .pointer (some ⟨ch, 0, none⟩), .slice (some ⟨rg, 0, none⟩) s.l.length c]) :: pt (some ⟨rg, 0, none⟩) (Row 3 1 s.l.length c (ints s.l)) :: pt (some ⟨mp, 0, none⟩) (MemO m.tick) :: pt (some ⟨ch, 0, none⟩) (ChO mp sb x) :: G)
      (pt (some ⟨b, 0, none⟩) (WalkO ch x.c (walkStep x.link x.c m s).1) :: pt (some ⟨mp, 0, none⟩) (MemO (walkStep x.link x.c m s).2) :: pt (some ⟨ch, 0, none⟩) (ChO mp sb x) :: G) := fun h => by
    rw [hstep, if_neg h]
    exact WalkO.close (a := some ⟨b, 0, none⟩) (r := some ⟨rg, 0, none⟩) (ch := ch) (k := x.c) ⟨s.l, true⟩ ⟨hne, hrg, hll⟩ rfl rfl rfl
  by_cases h0 : 0 ≤ Y
  · refine Ev.yes 44 rfl (decide_eq_true h0) ?_
    refine ge ?_
    refine Cx.ifp rfl (fun h1 => ?_) (fun h1 => ?_)
    · have e : walkStep x.link x.c m s = (⟨s.l ++ [Y], false⟩, m.tick) := by rw [hstep, if_pos ⟨h0, by omega⟩]
      rw [e] at hok ⊢
      refine go ?_
      refine Sx.bs (sz := 1) rfl rfl fun g => ?_
      refine Sx.ap (ra := some ⟨rg, 0, none⟩) rfl rfl (Rd.row (b := g) (E := 3) (cap := 1) rfl) rfl (by simp [maxLen]; omega) (by omega) fun ra ca hc => ?_
      refine go ?_
      refine Sx.ca rfl (machGo (b := b)) ?_
      rintro v L' ⟨rfl, rfl⟩
      refine go ?_
      refine Kr.none (.inl rfl) ?_ rfl
      refine Ent.trans (WalkO.close (a := some ⟨b, 0, none⟩) (r := ra) (ch := ch) (k := x.c) ⟨s.l ++ [Y], false⟩ hok rfl (by simp) (by simp [ints_append]; rfl)) (Ent.cons ?_)
      exact ent
    · refine go ?_
      refine Kr.none (.inl rfl) ?_ rfl
      refine Ent.trans ?_ (no (fun h => h1 (by omega)))
      exact ent
  · refine Ev.no 44 rfl (decide_eq_false h0) ?_
    refine ge ?_
    refine go ?_
    refine Kr.none (.inl rfl) ?_ rfl
    refine Ent.trans ?_ (no (fun h => h0 h.1))
    exact ent
/-- One access of a Walk. -/
theorem walkStepC {b ch mp sb : Nat} {x : Cn} {m : Mm} {s : WalkS} {F1 F2 : St} (hx : x.ok) (hl : x.len ≤ m.ws.length) [tp : Take L (some ⟨b, 0, none⟩) (WalkO ch x.c s) F1] [t : Take F1 (some ⟨mp, 0, none⟩) (MemO m) F2] [u : Take F2 (some ⟨ch, 0, none⟩) (ChO mp sb x) G] :
    Fx Tryz.prog 235 [.pointer (some ⟨b, 0, none⟩)] L (fun v L' => v = .bool (!s.done) ∧ L' = pt (some ⟨b, 0, none⟩) (WalkO ch x.c (walkStep x.link x.c m s).1) :: pt (some ⟨mp, 0, none⟩) (MemO (walkStep x.link x.c m s).2) :: F2) := by
  refine Fx.mk Tryz.func235 k235 (Nat.le_of_ble_eq_true rfl) ?_
  dsimp only [c235, envOf, Nat.reduceAdd]
  refine Cx.ent (Ent.trans (Ent.of tp.out) (Ent.cons (Ent.trans (Ent.of t.out) (Ent.cons (Ent.of u.out))))) ?_
  refine Cx.pure (memKey (b := mp) (m := m)) fun hm => ?_
  refine Cx.openp (a := some ⟨b, 0, none⟩) rfl ?_
  rintro ⟨⟨r, c⟩, cnt⟩
  simp only [wkL, List.cons_append, List.nil_append]
  refine Cx.liftp fun hs => ?_
  cases hd : s.done with
  | true =>
    have e : walkStep x.link x.c m s = (s, m) := by unfold walkStep; rw [hd]; rfl
    have en : wkNx (some ⟨b, 0, none⟩) s = .nilFunc := by unfold wkNx; rw [hd]; rfl
    rw [e, en]
    refine go ?_
    refine Sx.ca rfl (machStepDone (b := b)) ?_
    rintro v L' ⟨rfl, rfl⟩
    refine go ?_
    refine Kr.one (.inr rfl) rfl ?_ ⟨rfl, rfl⟩
    exact Ent.trans (WalkO.close (a := some ⟨b, 0, none⟩) (r := r) (ch := ch) (k := x.c) s hs en.symm rfl rfl) (Ent.cons (Ent.cons (Ent.of u.back)))
  | false =>
    have en : wkNx (some ⟨b, 0, none⟩) s = mth 255 b := by unfold wkNx; rw [hd]; rfl
    rw [en]
    refine go ?_
    refine Sx.ca rfl (machStep (b := b) (by kernel_rfl) (walkLoad_ (b := b) (ch := ch) (mp := mp) (sb := sb) (x := x) (m := m) (s := s) (r := r) (c := c) hm.1 hx hl hs hd)) ?_
    rintro v L' ⟨rfl, w, rfl⟩
    refine go ?_
    exact Kr.one (.inr rfl) rfl (Ent.cons (Ent.cons (Ent.of u.back))) ⟨rfl, rfl⟩
theorem walkDone {b ch c : Nat} {s : WalkS} {F1 : St} [tp : Take L (some ⟨b, 0, none⟩) (WalkO ch c s) F1] : Fx Tryz.prog 236 [.pointer (some ⟨b, 0, none⟩)] L (fun v L' => v = .bool s.done ∧ L = L') := by
  refine Fx.kept (t := tp) ?_
  refine Fx.mk Tryz.func236 k236 (Nat.le_of_ble_eq_true rfl) ?_
  dsimp only [c236, envOf, Nat.reduceAdd]
  refine Cx.openp (t := tp) rfl ?_
  rintro ⟨⟨r, cp⟩, cnt⟩
  simp only [wkL, List.cons_append, List.nil_append]
  refine Cx.liftp fun hs => ?_
  cases hd : s.done with
  | true =>
    have en : wkNx (some ⟨b, 0, none⟩) s = .nilFunc := by unfold wkNx; rw [hd]; rfl
    rw [en]
    refine go ?_
    refine Sx.ca rfl (machDoneYes (b := b)) ?_
    rintro v L' ⟨rfl, rfl⟩
    refine go ?_
    exact Kr.one (.inr rfl) rfl (WalkO.close (a := some ⟨b, 0, none⟩) (r := r) (ch := ch) (k := c) s hs en.symm rfl rfl) ⟨rfl, rfl⟩
  | false =>
    have en : wkNx (some ⟨b, 0, none⟩) s = mth 255 b := by unfold wkNx; rw [hd]; rfl
    rw [en]
    refine go ?_
    refine Sx.ca rfl (machDoneNo (b := b)) ?_
    rintro v L' ⟨rfl, rfl⟩
    refine go ?_
    exact Kr.one (.inr rfl) rfl (WalkO.close (a := some ⟨b, 0, none⟩) (r := r) (ch := ch) (k := c) s hs en.symm rfl rfl) ⟨rfl, rfl⟩
/-- What a Walk found. -/
theorem walkList {b ch c : Nat} {s : WalkS} {F1 : St} (hd : s.done = true) (hc : c ≤ 4096) [tp : Take L (some ⟨b, 0, none⟩) (WalkO ch c s) F1] : Fx Tryz.prog 257 [.pointer (some ⟨b, 0, none⟩)] L
    (fun v L' => ∃ g co, v = .slice (some ⟨g, 0, none⟩) s.l.length co ∧ s.l.length ≤ c ∧ L' = pt (some ⟨g, 0, none⟩) (Row 3 1 s.l.length co (ints s.l)) :: pt (some ⟨b, 0, none⟩) (WalkO ch c s) :: F1) := by
  refine Fx.mk Tryz.func257 k257 (Nat.le_of_ble_eq_true rfl) ?_
  dsimp only [c257, envOf, Nat.reduceAdd]
  refine go ?_
  refine Sx.ca rfl (walkDone (b := b) (ch := ch) (c := c) (s := s)) ?_
  rintro v L' ⟨rfl, rfl⟩
  rw [hd]
  refine go ?_
  refine Sx.openp (t := tp) rfl ?_
  rintro ⟨⟨r, cp⟩, cnt⟩
  simp only [wkL, List.cons_append, List.nil_append]
  refine Sx.liftp fun hs => ?_
  have hlen := hs.l
  refine go ?_
  refine Sx.rowkey (a := r) fun hxl _ _ hkr => ?_
  refine Sx.ca rfl (clone (Rd.any (a := r) hxl (hkr.imp (fun h => h.2.1) id)) (ones_ints _) (by omega)) ?_
  rintro v L' ⟨ra, ca, rfl, rfl⟩
  refine Sx.rowkey (a := ra) fun _ _ _ hka => ?_
  have hlp := List.length_pos_iff.2 hs.ne
  obtain ⟨rg, rfl⟩ : ∃ g, ra = some ⟨g, 0, none⟩ := by
    rcases hka with h | h
    · omega
    · exact h
  refine go ?_
  refine Kr.one (.inr rfl) rfl (Ent.cons (WalkO.close (a := some ⟨b, 0, none⟩) (r := r) (ch := ch) (k := c) s hs rfl rfl rfl)) ⟨rg, ca, rfl, hs.l, rfl⟩
end
end Go.Proofs.YtflalhdofhobmaaGreat

/-
  ending: a Free: its object; what it does between the accesses.
-/
set_option linter.unusedVariables false
set_option linter.unusedSimpArgs false
namespace Go.Proofs.YtflalhdofhobmaaGreat
open Go
attribute [local irreducible] Sx Cx Rx Fx Krg Ksq Kbl Klp Kr
section
variable {L F G : St}
abbrev EnO (mp ro ch : Nat) : Option Addr → As := Blk 197 [.pointer (some ⟨mp, 0, none⟩), .pointer (some ⟨ro, 0, none⟩), .pointer (some ⟨ch, 0, none⟩)]
abbrev Cn.fr (x : Cn) (slot : Nat) (gen : Int) : FrP := ⟨x.pool, x.spare, x.root, x.link, x.c, slot, gen⟩
abbrev frF (nx n1 n2 n3 : Value) (eo u slot : Nat) (cnt : Int) (v : FrV) (ep wp gp : Value) : List Value :=
  [nx, n1, n2, n3, .int .i64 cnt, .pointer (some ⟨eo, 0, none⟩), .pointer (some ⟨u, 0, none⟩), .int .i64 (slot : Nat), ep, wp, gp, .int .i64 v.tag, .int .i64 v.chunk, .int .i64 v.slot, .int .i64 (v.point : Nat), .int .i64 (v.back : Nat), .int .i64 (v.code : Nat)]
abbrev frB (b : Nat) (nx n1 n2 n3 : Value) (eo u slot : Nat) (cnt : Int) (v : FrV) (ep wp gp : Value) : As := pt (some ⟨b, 0, none⟩) (Blk 200 (frF nx n1 n2 n3 eo u slot cnt v ep wp gp))
/-- Where a Free's things stand. -/
structure FrH where
  eo : Nat
  u : Nat
  mp : Nat
  ro : Nat
  sp : Nat
  ch : Nat
  pb : Nat
def frEL (T : TypeId) (h : FrH) (x : Cn) (slot : Nat) (gen : Int) (s : FrS) (a : Option Addr) (y : Nat) : St :=
  [pt a (Blk T (frF (.func (.func 232) #[.pointer a] #[]) (mth 32 y) (mth 34 y) (.func (.func 120) #[.pointer a] #[]) h.eo h.u slot (s.v.cnt : Nat) s.v (.pointer (some ⟨y, 0, none⟩)) (.pointer none) (.pointer none))),
   pt (some ⟨y, 0, none⟩) (EndO h.ro slot gen s.e)]
def frLL (T : TypeId) (h : FrH) (slot : Nat) (s : FrS) (a : Option Addr) (y : Value × Value × Value × Value) : St :=
  [pt a (Blk T (frF (.func (.func 191) #[.pointer a] #[]) y.1 y.2.1 y.2.2.1 h.eo h.u slot (s.v.cnt : Nat) s.v y.2.2.2 (.pointer none) (.pointer none)))]
def frWL (T : TypeId) (h : FrH) (x : Cn) (slot : Nat) (s : FrS) (a : Option Addr) (y : Nat × Value) : St :=
  [pt a (Blk T (frF (.func (.func 232) #[.pointer a] #[]) (mth 235 y.1) (mth 236 y.1) (.func (.func 237) #[.pointer a] #[]) h.eo h.u slot (s.v.cnt : Nat) s.v y.2 (.pointer (some ⟨y.1, 0, none⟩)) (.pointer none))),
   pt (some ⟨y.1, 0, none⟩) (WalkO h.ch x.c s.w)]
def frPL (T : TypeId) (h : FrH) (x : Cn) (slot : Nat) (s : FrS) (a : Option Addr) (y : Nat × Value × Value) : St :=
  [pt a (Blk T (frF (.func (.func 232) #[.pointer a] #[]) (mth 239 y.1) (mth 240 y.1) (.func (.func 241) #[.pointer a] #[]) h.eo h.u slot (s.v.cnt : Nat) s.v y.2.1 y.2.2 (.pointer none))),
   pt (some ⟨y.1, 0, none⟩) (PushO h.sp x.spare s.p)]
def frGL (T : TypeId) (h : FrH) (x : Cn) (slot : Nat) (s : FrS) (a : Option Addr) (y : Nat × Value × Value) : St :=
  [pt a (Blk T (frF (.func (.func 232) #[.pointer a] #[]) (mth 208 y.1) (mth 188 y.1) (.func (.func 259) #[.pointer a] #[]) h.eo h.u slot (s.v.cnt : Nat) s.v y.2.1 y.2.2 (.pointer (some ⟨y.1, 0, none⟩)))),
   pt (some ⟨y.1, 0, none⟩) (GiveO h.pb x.pool s.g)]
def frDL (T : TypeId) (h : FrH) (x : Cn) (slot : Nat) (s : FrS) (a : Option Addr) (y : Nat × (Value × Value × Value) × Value × Value) : St :=
  [pt a (Blk T (frF .nilFunc y.2.1.1 y.2.1.2.1 y.2.1.2.2 h.eo h.u slot (s.v.cnt : Nat) s.v y.2.2.1 y.2.2.2 (.pointer (some ⟨y.1, 0, none⟩)))), pt (some ⟨y.1, 0, none⟩) (GiveO h.pb x.pool s.g)]
def frSL (T : TypeId) (h : FrH) (slot : Nat) (s : FrS) (a : Option Addr) (y : Value × Value × Value × Value) : St :=
  [pt a (Blk T (frF .nilFunc y.1 y.2.1 y.2.2.1 h.eo h.u slot (s.v.cnt : Nat) s.v y.2.2.2 (.pointer none) (.pointer none)))]
def FrT (T : TypeId) (h : FrH) (x : Cn) (slot : Nat) (gen : Int) (s : FrS) (a : Option Addr) : As :=
  bif s.done then (bif Nat.beq s.at_ 4 then exs (frDL T h x slot s a) else exs (frSL T h slot s a)) else match s.at_ with
  | 0 => exs (frEL T h x slot gen s a) | 1 => exs (frLL T h slot s a) | 2 => exs (frWL T h x slot s a) | 3 => exs (frPL T h x slot s a) | _ => exs (frGL T h x slot s a)
abbrev FrO := FrT 200
section
variable {T : TypeId} {h : FrH} {x : Cn} {slot : Nat} {gen : Int} {s : FrS} {a : Option Addr}
theorem FrO.e_ (hd : s.done = false) (h0 : s.at_ = 0) : FrT T h x slot gen s a = exs (frEL T h x slot gen s a) := by unfold FrT; rw [hd, h0]; rfl
theorem FrO.l_ (hd : s.done = false) (h0 : s.at_ = 1) : FrT T h x slot gen s a = exs (frLL T h slot s a) := by unfold FrT; rw [hd, h0]; rfl
theorem FrO.w_ (hd : s.done = false) (h0 : s.at_ = 2) : FrT T h x slot gen s a = exs (frWL T h x slot s a) := by unfold FrT; rw [hd, h0]; rfl
theorem FrO.p_ (hd : s.done = false) (h0 : s.at_ = 3) : FrT T h x slot gen s a = exs (frPL T h x slot s a) := by unfold FrT; rw [hd, h0]; rfl
theorem FrO.g_ (hd : s.done = false) (h0 : s.at_ = 4) : FrT T h x slot gen s a = exs (frGL T h x slot s a) := by unfold FrT; rw [hd, h0]; rfl
theorem FrO.d_ (hd : s.done = true) (h0 : s.at_ = 4) : FrT T h x slot gen s a = exs (frDL T h x slot s a) := by unfold FrT; rw [hd, h0]; rfl
theorem FrO.s_ (hd : s.done = true) (h0 : s.at_ ≠ 4) : FrT T h x slot gen s a = exs (frSL T h slot s a) := by
  unfold FrT
  rw [hd]
  cases hb : Nat.beq s.at_ 4 with
  | true => exact absurd (Nat.eq_of_beq_eq_true hb) h0
  | false => rfl
end
section
variable {b : Nat} {h : FrH} {x : Cn} {slot : Nat} {gen : Int} {cnt : Int} {v : FrV} {n1 n2 n3 ep wp : Value}
theorem FrO.closeE {q : Nat} {e : EndS} (s : FrS) (hd : s.done = false) (h0 : s.at_ = 0) (hc : cnt = (s.v.cnt : Nat)) (hv : { v with cnt := s.v.cnt } = s.v) (he : e = s.e) :
    Ent (frB b (mth 232 b) (mth 32 q) (mth 34 q) (mth 120 b) h.eo h.u slot cnt v (.pointer (some ⟨q, 0, none⟩)) (.pointer none) (.pointer none) :: pt (some ⟨q, 0, none⟩) (EndO h.ro slot gen e) :: G) (pt (some ⟨b, 0, none⟩) (FrO h x slot gen s) :: G) := by
  subst hc he
  obtain ⟨a1, v0, e0, w0, p0, g0, d0⟩ := s
  obtain ⟨c1, c2, c3, c4, c5, c6, c7⟩ := v0
  obtain ⟨e1, e2, e3, e4, e5, e6, e7⟩ := v
  dsimp only at hv
  cases hv
  exact Ent.close (f := frEL 200 h x slot gen _ (some ⟨b, 0, none⟩)) (FrO.e_ hd h0) q
theorem FrO.closeL (s : FrS) (hd : s.done = false) (h0 : s.at_ = 1) (hc : cnt = (s.v.cnt : Nat)) (hv : { v with cnt := s.v.cnt } = s.v) :
    Ent (frB b (mth 191 b) n1 n2 n3 h.eo h.u slot cnt v ep (.pointer none) (.pointer none) :: G) (pt (some ⟨b, 0, none⟩) (FrO h x slot gen s) :: G) := by
  subst hc
  obtain ⟨a1, v0, e0, w0, p0, g0, d0⟩ := s
  obtain ⟨c1, c2, c3, c4, c5, c6, c7⟩ := v0
  obtain ⟨e1, e2, e3, e4, e5, e6, e7⟩ := v
  dsimp only at hv
  cases hv
  exact Ent.close (f := frLL 200 h slot _ (some ⟨b, 0, none⟩)) (FrO.l_ hd h0) (n1, n2, n3, ep)
theorem FrO.closeW {q : Nat} {w : WalkS} (s : FrS) (hd : s.done = false) (h0 : s.at_ = 2) (hc : cnt = (s.v.cnt : Nat)) (hv : { v with cnt := s.v.cnt } = s.v) (he : w = s.w) :
    Ent (frB b (mth 232 b) (mth 235 q) (mth 236 q) (mth 237 b) h.eo h.u slot cnt v ep (.pointer (some ⟨q, 0, none⟩)) (.pointer none) :: pt (some ⟨q, 0, none⟩) (WalkO h.ch x.c w) :: G) (pt (some ⟨b, 0, none⟩) (FrO h x slot gen s) :: G) := by
  subst hc he
  obtain ⟨a1, v0, e0, w0, p0, g0, d0⟩ := s
  obtain ⟨c1, c2, c3, c4, c5, c6, c7⟩ := v0
  obtain ⟨e1, e2, e3, e4, e5, e6, e7⟩ := v
  dsimp only at hv
  cases hv
  exact Ent.close (f := frWL 200 h x slot _ (some ⟨b, 0, none⟩)) (FrO.w_ hd h0) (q, ep)
theorem FrO.closeP {q : Nat} {p : PushS} (s : FrS) (hd : s.done = false) (h0 : s.at_ = 3) (hc : cnt = (s.v.cnt : Nat)) (hv : { v with cnt := s.v.cnt } = s.v) (he : p = s.p) :
    Ent (frB b (mth 232 b) (mth 239 q) (mth 240 q) (mth 241 b) h.eo h.u slot cnt v ep wp (.pointer none) :: pt (some ⟨q, 0, none⟩) (PushO h.sp x.spare p) :: G) (pt (some ⟨b, 0, none⟩) (FrO h x slot gen s) :: G) := by
  subst hc he
  obtain ⟨a1, v0, e0, w0, p0, g0, d0⟩ := s
  obtain ⟨c1, c2, c3, c4, c5, c6, c7⟩ := v0
  obtain ⟨e1, e2, e3, e4, e5, e6, e7⟩ := v
  dsimp only at hv
  cases hv
  exact Ent.close (f := frPL 200 h x slot _ (some ⟨b, 0, none⟩)) (FrO.p_ hd h0) (q, ep, wp)
theorem FrO.closeG {q : Nat} {p : PushS} (s : FrS) (hd : s.done = false) (h0 : s.at_ = 4) (hc : cnt = (s.v.cnt : Nat)) (hv : { v with cnt := s.v.cnt } = s.v) (he : p = s.g) :
    Ent (frB b (mth 232 b) (mth 208 q) (mth 188 q) (mth 259 b) h.eo h.u slot cnt v ep wp (.pointer (some ⟨q, 0, none⟩)) :: pt (some ⟨q, 0, none⟩) (GiveO h.pb x.pool p) :: G) (pt (some ⟨b, 0, none⟩) (FrO h x slot gen s) :: G) := by
  subst hc he
  obtain ⟨a1, v0, e0, w0, p0, g0, d0⟩ := s
  obtain ⟨c1, c2, c3, c4, c5, c6, c7⟩ := v0
  obtain ⟨e1, e2, e3, e4, e5, e6, e7⟩ := v
  dsimp only at hv
  cases hv
  exact Ent.close (f := frGL 200 h x slot _ (some ⟨b, 0, none⟩)) (FrO.g_ hd h0) (q, ep, wp)
theorem FrO.closeD {q : Nat} {p : PushS} (s : FrS) (hd : s.done = true) (h0 : s.at_ = 4) (hc : cnt = (s.v.cnt : Nat)) (hv : { v with cnt := s.v.cnt } = s.v) (he : p = s.g) :
    Ent (frB b .nilFunc n1 n2 n3 h.eo h.u slot cnt v ep wp (.pointer (some ⟨q, 0, none⟩)) :: pt (some ⟨q, 0, none⟩) (GiveO h.pb x.pool p) :: G) (pt (some ⟨b, 0, none⟩) (FrO h x slot gen s) :: G) := by
  subst hc he
  obtain ⟨a1, v0, e0, w0, p0, g0, d0⟩ := s
  obtain ⟨c1, c2, c3, c4, c5, c6, c7⟩ := v0
  obtain ⟨e1, e2, e3, e4, e5, e6, e7⟩ := v
  dsimp only at hv
  cases hv
  exact Ent.close (f := frDL 200 h x slot _ (some ⟨b, 0, none⟩)) (FrO.d_ hd h0) (q, (n1, n2, n3), ep, wp)
theorem FrO.closeS (s : FrS) (hd : s.done = true) (h0 : s.at_ ≠ 4) (hc : cnt = (s.v.cnt : Nat)) (hv : { v with cnt := s.v.cnt } = s.v) :
    Ent (frB b .nilFunc n1 n2 n3 h.eo h.u slot cnt v ep (.pointer none) (.pointer none) :: G) (pt (some ⟨b, 0, none⟩) (FrO h x slot gen s) :: G) := by
  subst hc
  obtain ⟨a1, v0, e0, w0, p0, g0, d0⟩ := s
  obtain ⟨c1, c2, c3, c4, c5, c6, c7⟩ := v0
  obtain ⟨e1, e2, e3, e4, e5, e6, e7⟩ := v
  dsimp only at hv
  cases hv
  exact Ent.close (f := frSL 200 h slot _ (some ⟨b, 0, none⟩)) (FrO.s_ hd h0) (n1, n2, n3, ep)
end
theorem frOver {v : Value} : Fx Tryz.prog 259 [v] L (fun v L' => v = .tuple #[] ∧ L = L') := by
  refine Fx.mk Tryz.func259 k259 (Nat.le_of_ble_eq_true rfl) ?_
  dsimp only [c259, envOf, Nat.reduceAdd]
  refine Cx.sk ?_
  exact Kr.none (.inl rfl) (Ent.refl _) ⟨rfl, rfl⟩
theorem rootsBack {g mp sb : Nat} {x : Cn} (slot : Nat) (hs : slot < x.sl) [c : Take L (some ⟨g, 0, none⟩) (RoO mp sb x) F] {F2 : St} [s : Take F (some ⟨sb, 0, none⟩) (SkO mp x.spare) F2] :
    Fx Tryz.prog 238 [.pointer (some ⟨g, 0, none⟩), .int .i64 slot] L (fun v L' => ∃ b, v = .tuple #[.pointer (some ⟨b, 0, none⟩), .int .i64 0] ∧ L' = pt (some ⟨b, 0, none⟩) (PushO sb x.spare (PushS.init [(slot : Int)])) :: L) := by
  refine Fx.mk Tryz.func238 k238 (Nat.le_of_ble_eq_true rfl) ?_
  dsimp only [c238, envOf, Nat.reduceAdd]
  refine Cx.ent (Ent.trans (Ent.of c.out) (Ent.cons (Ent.of s.out))) ?_
  refine go ?_
  refine Sx.bs (sz := 1) rfl rfl fun q => ?_
  refine Sx.ca rfl (stackPush (sb := sb) (mp := mp) (k := x.spare) (l := [(slot : Int)]) (Rd.row (b := q) (E := 3) (cap := 1) rfl) (by omega) (by omega)) ?_
  rintro v L' (⟨hn, _, _⟩ | ⟨_, b, rfl, rfl⟩)
  · exact absurd ⟨by simp, fun z hz => by rw [List.mem_singleton.1 hz]; exact ⟨by omega, by show (slot : Int) < x.sl; omega⟩⟩ hn
  refine go ?_
  refine Kr.two (.inr rfl) rfl rfl ?_ ⟨b, rfl, rfl⟩
  refine Ent.cons (Ent.trans Ent.drop ?_)
  exact Ent.trans (Ent.cons (Ent.of s.back)) (Ent.of c.back)
theorem frLeave_ {b : Nat} {h : FrH} {x : Cn} {slot : Nat} {gen : Int} {v : FrV} {n1 n2 n3 ep wp : Value} {cnt : Int} (e : EndS) (w : WalkS) (hcnt : cnt = (v.cnt : Nat)) (hs : slot < x.sl) :
    Fx Tryz.prog 192 [.pointer (some ⟨b, 0, none⟩)] (frB b .nilFunc n1 n2 n3 h.eo h.u slot cnt v ep wp (.pointer none) :: pt (some ⟨h.eo, 0, none⟩) (EnO h.mp h.ro h.ch) :: pt (some ⟨h.ro, 0, none⟩) (RoO h.mp h.sp x) :: pt (some ⟨h.sp, 0, none⟩) (SkO h.mp x.spare) :: G)
      (fun _ L' => L' = pt (some ⟨b, 0, none⟩) (FrO h x slot gen (frLeave (x.fr slot gen) v e w)) :: pt (some ⟨h.eo, 0, none⟩) (EnO h.mp h.ro h.ch) :: pt (some ⟨h.ro, 0, none⟩) (RoO h.mp h.sp x) :: pt (some ⟨h.sp, 0, none⟩) (SkO h.mp x.spare) :: G) := by
  subst hcnt
  refine Fx.mk Tryz.func192 k192 (Nat.le_of_ble_eq_true rfl) ?_
  dsimp only [c192, envOf, Nat.reduceAdd]
  refine go ?_
  refine Cx.ordc rfl (by kernel_rfl) ?_
  refine ge ?_
  refine Ev.caH (by kernel_rfl) rfl rfl (rootsBack (g := h.ro) (mp := h.mp) (sb := h.sp) (x := x) slot hs) (Pres.deps (by kernel_rfl)) ?_
  rintro v' L' ⟨q, rfl, rfl⟩
  refine ge ?_
  refine go ?_
  refine Sx.ca rfl (machThrough (b := b) (machOnNo (b := b) (by kernel_rfl) (pushDoneC (b := q) (sb := h.sp) (k := x.spare) (p := PushS.init [(slot : Int)])))) ?_
  rintro v' L' ⟨rfl, w', rfl, rfl⟩
  refine go ?_
  refine Kr.none (.inl rfl) ?_ rfl
  refine Ent.trans (Ent.take (a := some ⟨b, 0, none⟩)) ?_
  refine Ent.trans (Ent.cons (Ent.take (a := some ⟨q, 0, none⟩))) ?_
  refine Ent.trans (FrO.closeP (gen := gen) (v := { v with chunk := -1 }) (frLeave (x.fr slot gen) v e w) rfl rfl rfl rfl rfl) (Ent.cons ?_)
  exact ent
set_option maxHeartbeats 1000000 in
/-- Its End is done. -/
theorem frEnded_ {b q : Nat} {h : FrH} {x : Cn} {slot : Nat} {gen : Int} {v : FrV} {e : EndS} {n1 n2 n3 : Value} {cnt : Int} (hcnt : cnt = (v.cnt : Nat)) (hs : slot < x.sl) (hd : e.done = true) :
    Fx Tryz.prog 120 [.pointer (some ⟨b, 0, none⟩)] (frB b .nilFunc n1 n2 n3 h.eo h.u slot cnt v (.pointer (some ⟨q, 0, none⟩)) (.pointer none) (.pointer none) :: pt (some ⟨q, 0, none⟩) (EndO h.ro slot gen e) :: pt (some ⟨h.eo, 0, none⟩) (EnO h.mp h.ro h.ch) :: pt (some ⟨h.ro, 0, none⟩) (RoO h.mp h.sp x) :: pt (some ⟨h.sp, 0, none⟩) (SkO h.mp x.spare) :: G)
      (fun _ L' => L' = pt (some ⟨b, 0, none⟩) (FrO h x slot gen (frEnded (x.fr slot gen) v e)) :: pt (some ⟨h.eo, 0, none⟩) (EnO h.mp h.ro h.ch) :: pt (some ⟨h.ro, 0, none⟩) (RoO h.mp h.sp x) :: pt (some ⟨h.sp, 0, none⟩) (SkO h.mp x.spare) :: G) := by
  subst hcnt
  refine Fx.mk Tryz.func120 k120 (Nat.le_of_ble_eq_true rfl) ?_
  dsimp only [c120, envOf, Nat.reduceAdd]
  refine go ?_
  refine Sx.ca rfl (machCount (b := b)) ?_
  rintro v' L' ⟨rfl, rfl⟩
  refine go ?_
  refine Sx.ca rfl (endCode (b := q) (r := h.ro) (slot := slot) (gen := gen) (e := e) hd) ?_
  rintro v' L' ⟨rfl, rfl⟩
  refine go ?_
  by_cases hc : e.code = 0
  case neg =>
    have e1 : frEnded (x.fr slot gen) v e = ⟨0, { v with point := v.cnt, code := e.code }, e, WalkS.zero, gNone, gNone, true⟩ := by unfold frEnded; rw [if_pos hc]
    rw [e1]
    refine Cx.cyes rfl (by simp; omega) ?_
    refine go ?_
    refine Kr.none (.inr rfl) ?_ rfl
    refine Ent.trans (Ent.take (a := some ⟨b, 0, none⟩)) ?_
    refine Ent.trans (FrO.closeS (gen := gen) (x := x) (v := { v with point := v.cnt, code := e.code }) ⟨0, { v with point := v.cnt, code := e.code }, e, WalkS.zero, gNone, gNone, true⟩ rfl (by show (0 : Nat) ≠ 4; omega) rfl rfl) (Ent.cons ?_)
    exact ent
  case pos =>
    rw [hc]
    refine Cx.cno rfl (by simp) ?_
    refine go ?_
    refine Sx.ca rfl (endChunk (b := q) (r := h.ro) (slot := slot) (gen := gen) (e := e) hd) ?_
    rintro v' L' ⟨rfl, rfl⟩
    refine go ?_
    by_cases hk : 0 ≤ e.chunk
    case pos =>
      have e1 : frEnded (x.fr slot gen) v e = ⟨1, { v with point := v.cnt, code := 0, slot := slot, chunk := e.chunk }, e, WalkS.zero, gNone, gNone, false⟩ := by unfold frEnded; rw [if_neg (by omega), if_pos hk]
      rw [e1]
      refine Cx.cyes rfl (decide_eq_true hk) ?_
      refine go ?_
      refine Sx.ca rfl (machGo (b := b)) ?_
      rintro v' L' ⟨rfl, rfl⟩
      refine go ?_
      refine Kr.none (.inl rfl) ?_ rfl
      refine Ent.trans (Ent.take (a := some ⟨b, 0, none⟩)) ?_
      refine Ent.trans (FrO.closeL (gen := gen) (x := x) (v := { v with point := v.cnt, code := 0, slot := slot, chunk := e.chunk }) ⟨1, { v with point := v.cnt, code := 0, slot := slot, chunk := e.chunk }, e, WalkS.zero, gNone, gNone, false⟩ rfl rfl rfl rfl) (Ent.cons ?_)
      exact ent
    case neg =>
      have e1 : frEnded (x.fr slot gen) v e = frLeave (x.fr slot gen) { v with point := v.cnt, code := 0, slot := slot, chunk := e.chunk } e WalkS.zero := by unfold frEnded; rw [if_neg (by omega), if_neg hk]; rfl
      rw [e1]
      refine Cx.cno rfl (decide_eq_false hk) ?_
      refine go ?_
      refine Sx.ent (Ent.take (a := some ⟨b, 0, none⟩)) ?_
      refine Sx.ent (M := frB b .nilFunc n1 n2 n3 h.eo h.u slot (v.cnt : Nat) { v with point := v.cnt, code := 0, slot := slot, chunk := e.chunk } (.pointer (some ⟨q, 0, none⟩)) (.pointer none) (.pointer none) :: pt (some ⟨h.eo, 0, none⟩) (EnO h.mp h.ro h.ch) :: pt (some ⟨h.ro, 0, none⟩) (RoO h.mp h.sp x) :: pt (some ⟨h.sp, 0, none⟩) (SkO h.mp x.spare) :: G) (Ent.cons (by exact ent)) ?_
      refine Sx.ca rfl (frLeave_ (gen := gen) (v := { v with point := v.cnt, code := 0, slot := slot, chunk := e.chunk }) e WalkS.zero rfl hs) ?_
      rintro v' L' rfl
      refine go ?_
      exact Kr.none (.inl rfl) (Ent.refl _) rfl
end
end Go.Proofs.YtflalhdofhobmaaGreat

/-
  ending: a Free, one access at a time.
-/
set_option linter.unusedVariables false
set_option linter.unusedSimpArgs false
namespace Go.Proofs.YtflalhdofhobmaaGreat
open Go
attribute [local irreducible] Sx Cx Rx Fx Krg Ksq Kbl Klp Kr
section
variable {L F G : St}
theorem supRetireC {u mp pb : Nat} {x : Cn} {s : SupS} {F : St} [t : Take L (some ⟨u, 0, none⟩) (SupO mp pb x s) F] {tag : Int} {ys : List Int} {ya : Option Addr} {n c : Nat} (hr : Rd F 1 ya n (ints ys)) (hb : s.lm.size + n ≤ 100000000) (hx : s.xs.length ≤ 100000000) :
    Fx Tryz.prog 256 [.pointer (some ⟨u, 0, none⟩), .int .i64 tag, .slice ya n c] L (fun v L' => (∃ k, v = .int .i64 k) ∧ L' = pt (some ⟨u, 0, none⟩) (SupO mp pb x (supRet s tag ys)) :: F) := by
  refine (supRetire (u := u) (mp := mp) (pb := pb) (x := x) (s := s) hr hb hx).mono ?_
  rintro v L' (⟨h, rfl, rfl⟩ | ⟨h, rfl, rfl⟩)
  · exact ⟨⟨_, rfl⟩, by unfold supRet; rw [if_pos h]⟩
  · exact ⟨⟨_, rfl⟩, by unfold supRet; rw [if_neg h]⟩
/-- The epoch is looked at; the Walk begins. -/
theorem frLook_ {b : Nat} {h : FrH} {x : Cn} {slot : Nat} {gen : Int} {m : Mm} {v : FrV} {n1 n2 n3 ep : Value} {cnt : Int} {pb2 : Nat} (e : EndS) (hcnt : cnt = (v.cnt : Nat)) (hm : m.ok) (hl : x.len ≤ m.ws.length) (h0 : 0 ≤ v.chunk) (h1 : v.chunk < x.c) :
    Fx Tryz.prog 191 [.pointer (some ⟨b, 0, none⟩)] (frB b .nilFunc n1 n2 n3 h.eo h.u slot cnt v ep (.pointer none) (.pointer none) :: pt (some ⟨h.eo, 0, none⟩) (EnO h.mp h.ro h.ch) :: pt (some ⟨h.mp, 0, none⟩) (MemO m) :: pt (some ⟨h.ch, 0, none⟩) (ChO h.mp pb2 x) :: G)
      (fun _ L' => L' = pt (some ⟨b, 0, none⟩) (FrO h x slot gen ⟨2, { v with tag := cutE (m.at_ 2) }, e, ⟨[v.chunk], false⟩, gNone, gNone, false⟩) :: pt (some ⟨h.eo, 0, none⟩) (EnO h.mp h.ro h.ch) :: pt (some ⟨h.mp, 0, none⟩) (MemO m.tick) :: pt (some ⟨h.ch, 0, none⟩) (ChO h.mp pb2 x) :: G) := by
  subst hcnt
  have hl3 : 3 ≤ x.len := by unfold Cn.len; omega
  have hw := Mm.at_lt hm 2
  refine Fx.mk Tryz.func191 k191 (Nat.le_of_ble_eq_true rfl) ?_
  dsimp only [c191, envOf, Nat.reduceAdd]
  refine go ?_
  refine Sx.ca rfl (cellsLoad (b := h.mp) (m := m) 2 (by omega)) ?_
  rintro v' L' ⟨rfl, rfl⟩
  refine go ?_
  refine Sx.ca rfl (epochCut (m.at_ 2) hw) ?_
  rintro v' L' ⟨rfl, rfl⟩
  refine go ?_
  refine Cx.ordc rfl (by kernel_rfl) ?_
  refine ge ?_
  refine Ev.caH (by kernel_rfl) rfl rfl (chainWalk (g := h.ch) (mp := h.mp) (sb := pb2) (x := x) v.chunk h0 h1) (Pres.deps (by kernel_rfl)) ?_
  rintro v' L' ⟨q, rfl, rfl⟩
  refine ge ?_
  refine go ?_
  refine Sx.ca rfl (machThrough (b := b) (machOnNo (b := b) (by kernel_rfl) (walkDone (b := q) (ch := h.ch) (c := x.c) (s := ⟨[v.chunk], false⟩)))) ?_
  rintro v' L' ⟨rfl, w', rfl, rfl⟩
  refine go ?_
  refine Kr.none (.inl rfl) ?_ rfl
  refine Ent.trans (Ent.take (a := some ⟨b, 0, none⟩)) ?_
  refine Ent.trans (Ent.cons (Ent.take (a := some ⟨q, 0, none⟩))) ?_
  refine Ent.trans (FrO.closeW (gen := gen) (v := { v with tag := cutE (m.at_ 2) }) ⟨2, { v with tag := cutE (m.at_ 2) }, e, ⟨[v.chunk], false⟩, gNone, gNone, false⟩ rfl rfl rfl rfl rfl) (Ent.cons ?_)
  exact ent
/-- The Walk is done. -/
theorem frWalked_ {b q : Nat} {h : FrH} {x : Cn} {slot : Nat} {gen : Int} {v : FrV} {n1 n2 n3 ep : Value} {cnt : Int} {S : SupS} (e : EndS) (w : WalkS) (hcnt : cnt = (v.cnt : Nat)) (hs : slot < x.sl) (hd : w.done = true) (hc : x.c ≤ 4096) (hb : S.xs.length + S.lm.size ≤ 1000000) :
    Fx Tryz.prog 237 [.pointer (some ⟨b, 0, none⟩)] (frB b .nilFunc n1 n2 n3 h.eo h.u slot cnt v ep (.pointer (some ⟨q, 0, none⟩)) (.pointer none) :: pt (some ⟨q, 0, none⟩) (WalkO h.ch x.c w) :: pt (some ⟨h.u, 0, none⟩) (SupO h.mp h.pb x S) :: pt (some ⟨h.eo, 0, none⟩) (EnO h.mp h.ro h.ch) :: pt (some ⟨h.ro, 0, none⟩) (RoO h.mp h.sp x) :: pt (some ⟨h.sp, 0, none⟩) (SkO h.mp x.spare) :: G)
      (fun _ L' => L' = pt (some ⟨b, 0, none⟩) (FrO h x slot gen (frLeave (x.fr slot gen) v e w)) :: pt (some ⟨h.u, 0, none⟩) (SupO h.mp h.pb x (supRet S v.tag w.l)) :: pt (some ⟨h.eo, 0, none⟩) (EnO h.mp h.ro h.ch) :: pt (some ⟨h.ro, 0, none⟩) (RoO h.mp h.sp x) :: pt (some ⟨h.sp, 0, none⟩) (SkO h.mp x.spare) :: G) := by
  subst hcnt
  refine Fx.mk Tryz.func237 k237 (Nat.le_of_ble_eq_true rfl) ?_
  dsimp only [c237, envOf, Nat.reduceAdd]
  refine Cx.sq ?_
  refine Cx.ordc rfl (by kernel_rfl) ?_
  refine ge ?_
  refine Ev.caH (by kernel_rfl) rfl rfl (walkList (b := q) (ch := h.ch) (c := x.c) (s := w) hd hc) (.dep rfl (.keep (fun v L' ⟨_, _, _, _, e⟩ => by subst e; exact Has.cell rfl) (.keep (fun v L' ⟨_, _, _, _, e⟩ => by subst e; exact Has.cell rfl) .nil))) ?_
  rintro v' L' ⟨g, co, rfl, hwl, rfl⟩
  refine ge ?_
  refine Ev.caH (by kernel_rfl) rfl rfl (supRetireC (u := h.u) (mp := h.mp) (pb := h.pb) (x := x) (s := S) (tag := v.tag) (ys := w.l) (Rd.row (b := g) (E := 3) (cap := co) (by simp [ints])) (by omega) (by omega)) (Pres.deps (by kernel_rfl)) ?_
  rintro v' L' ⟨⟨k, rfl⟩, rfl⟩
  refine ge ?_
  refine go ?_
  refine Sx.ent (M := frB b .nilFunc n1 n2 n3 h.eo h.u slot (v.cnt : Nat) v ep (.pointer (some ⟨q, 0, none⟩)) (.pointer none) :: pt (some ⟨h.eo, 0, none⟩) (EnO h.mp h.ro h.ch) :: pt (some ⟨h.ro, 0, none⟩) (RoO h.mp h.sp x) :: pt (some ⟨h.sp, 0, none⟩) (SkO h.mp x.spare) :: pt (some ⟨h.u, 0, none⟩) (SupO h.mp h.pb x (supRet S v.tag w.l)) :: G) (by exact ent) ?_
  refine Sx.ca rfl (frLeave_ (gen := gen) (v := v) e w rfl hs) ?_
  rintro v' L' rfl
  refine go ?_
  refine Kr.none (.inl rfl) ?_ rfl
  exact ent
/-- The slot is back. -/
noncomputable def frLeft (k : Sk) (v : FrV) (S : SupS) (e : EndS) (w : WalkS) (p : PushS) : FrS := ⟨4, { v with back := v.cnt, slot := -1 }, e, w, p, giveInit k (S.xs.take (overK S.most S.xs)), (giveInit k (S.xs.take (overK S.most S.xs))).done⟩
theorem frLeft_ {b : Nat} {h : FrH} {x : Cn} {slot : Nat} {gen : Int} {v : FrV} {n1 n2 n3 ep wp : Value} {cnt : Int} {S : SupS} (e : EndS) (w : WalkS) (p : PushS) (hcnt : cnt = (v.cnt : Nat)) (hb : S.xs.length ≤ 1000000) (hm0 : 0 ≤ S.most) (hm2 : S.most ≤ 64) :
    Fx Tryz.prog 241 [.pointer (some ⟨b, 0, none⟩)] (frB b .nilFunc n1 n2 n3 h.eo h.u slot cnt v ep wp (.pointer none) :: pt (some ⟨h.u, 0, none⟩) (SupO h.mp h.pb x S) :: pt (some ⟨h.pb, 0, none⟩) (SkO h.mp x.pool) :: G)
      (fun _ L' => L' = pt (some ⟨b, 0, none⟩) (FrO h x slot gen (frLeft x.pool v S e w p)) :: pt (some ⟨h.u, 0, none⟩) (SupO h.mp h.pb x { S with xs := S.xs.drop (overK S.most S.xs) }) :: pt (some ⟨h.pb, 0, none⟩) (SkO h.mp x.pool) :: G) := by
  subst hcnt
  obtain ⟨V, hV⟩ : ∃ V : FrV, V = { v with back := v.cnt, slot := -1 } := ⟨_, rfl⟩
  obtain ⟨gi, hgi⟩ : ∃ gi, gi = giveInit x.pool (S.xs.take (overK S.most S.xs)) := ⟨_, rfl⟩
  have hcl : frLeft x.pool v S e w p = ⟨4, V, e, w, p, gi, gi.done⟩ := by unfold frLeft; rw [hgi, hV]
  rw [hcl]
  subst hV
  refine Fx.mk Tryz.func241 k241 (Nat.le_of_ble_eq_true rfl) ?_
  dsimp only [c241, envOf, Nat.reduceAdd]
  refine go ?_
  refine Sx.ca rfl (machCount (b := b)) ?_
  rintro v' L' ⟨rfl, rfl⟩
  refine go ?_
  refine Sx.ca rfl (supSpill (u := h.u) (mp := h.mp) (pb := h.pb) (x := x) (s := S) (by omega) (by omega) (by omega)) ?_
  rintro v' L' ⟨r, rfl, rfl⟩
  refine go ?_
  refine Cx.orde rfl (by kernel_rfl) ?_
  refine ge ?_
  rw [← hgi]
  cases hg : gi.done with
  | true =>
    refine Ev.caH (by kernel_rfl) rfl rfl (machThrough (b := b) (machOnYes (b := b) (by kernel_rfl) ((giveDone (b := r) (pb := h.pb) (k := x.pool) (p := gi)).mono (by rintro v L' ⟨rfl, rfl⟩; exact ⟨by rw [hg], rfl⟩)) (by kernel_rfl) frOver)) (Pres.deps (by kernel_rfl)) ?_
    rintro v' L' ⟨rfl, w', rfl, w2, rfl, rfl⟩
    refine ge ?_
    refine Kr.none (.inl rfl) ?_ rfl
    refine Ent.trans (Ent.take (a := some ⟨b, 0, none⟩)) ?_
    refine Ent.trans (Ent.cons (Ent.take (a := some ⟨r, 0, none⟩))) ?_
    refine Ent.trans (FrO.closeD (gen := gen) (v := { v with back := v.cnt, slot := -1 }) ⟨4, { v with back := v.cnt, slot := -1 }, e, w, p, gi, true⟩ rfl rfl rfl rfl rfl) (Ent.cons ?_)
    exact ent
  | false =>
    refine Ev.caH (by kernel_rfl) rfl rfl (machThrough (b := b) (machOnNo (b := b) (by kernel_rfl) ((giveDone (b := r) (pb := h.pb) (k := x.pool) (p := gi)).mono (by rintro v L' ⟨rfl, rfl⟩; exact ⟨by rw [hg], rfl⟩)))) (Pres.deps (by kernel_rfl)) ?_
    rintro v' L' ⟨rfl, w', rfl, rfl⟩
    refine ge ?_
    refine Kr.none (.inl rfl) ?_ rfl
    refine Ent.trans (Ent.take (a := some ⟨b, 0, none⟩)) ?_
    refine Ent.trans (Ent.cons (Ent.take (a := some ⟨r, 0, none⟩))) ?_
    refine Ent.trans (FrO.closeG (gen := gen) (v := { v with back := v.cnt, slot := -1 }) ⟨4, { v with back := v.cnt, slot := -1 }, e, w, p, gi, false⟩ rfl rfl rfl rfl rfl) (Ent.cons ?_)
    exact ent
end
end Go.Proofs.YtflalhdofhobmaaGreat

/-
  ending: one access of a Free.
-/
set_option linter.unusedVariables false
set_option linter.unusedSimpArgs false
namespace Go.Proofs.YtflalhdofhobmaaGreat
open Go
attribute [local irreducible] Sx Cx Rx Fx Krg Ksq Kbl Klp Kr
/-- What may be of a Free. -/
structure FrOk (x : Cn) (f : FrS) : Prop where
  a : f.at_ ≤ 4
  n : f.v.cnt ≤ 1000000
  e : f.at_ = 0 → f.e.ok
  k : f.at_ = 0 → f.e.at_ = 1 → (rtOf f.e.was).mrk ≤ x.c + 1
  c : f.at_ = 1 → 0 ≤ f.v.chunk ∧ f.v.chunk < x.c
section
variable {L F G : St}
set_option maxHeartbeats 4000000 in
/-- One access of a Free. -/
theorem frStepC {b : Nat} {h : FrH} {x : Cn} {slot : Nat} {gen : Int} {m : Mm} {S : SupS} {f : FrS} {pb2 : Nat} {F1 F2 F3 F4 F5 F6 F7 : St} (hx : x.ok) (hl : x.len ≤ m.ws.length) (hs : slot < x.sl) (hb : S.xs.length + S.lm.size ≤ 1000) (hm0 : 0 ≤ S.most) (hm2 : S.most ≤ 64) (hf : f.done = false → FrOk x f)
    [t1 : Take L (some ⟨b, 0, none⟩) (FrO h x slot gen f) F1] [t2 : Take F1 (some ⟨h.u, 0, none⟩) (SupO h.mp h.pb x S) F2] [t3 : Take F2 (some ⟨h.mp, 0, none⟩) (MemO m) F3] [t4 : Take F3 (some ⟨h.pb, 0, none⟩) (SkO h.mp x.pool) F4]
    [t5 : Take F4 (some ⟨h.eo, 0, none⟩) (EnO h.mp h.ro h.ch) F5] [t6 : Take F5 (some ⟨h.ro, 0, none⟩) (RoO h.mp h.sp x) F6] [t7 : Take F6 (some ⟨h.sp, 0, none⟩) (SkO h.mp x.spare) F7] [t8 : Take F7 (some ⟨h.ch, 0, none⟩) (ChO h.mp pb2 x) G] :
    Fx Tryz.prog 55 [.pointer (some ⟨b, 0, none⟩)] L
      (fun v L' => v = .bool (!f.done) ∧ L' = pt (some ⟨b, 0, none⟩) (FrO h x slot gen (frStep (x.fr slot gen) m S f).2.2) :: pt (some ⟨h.u, 0, none⟩) (SupO h.mp h.pb x (frStep (x.fr slot gen) m S f).2.1) :: pt (some ⟨h.mp, 0, none⟩) (MemO (frStep (x.fr slot gen) m S f).1) :: F3) := by
  have hback : Ent (pt (some ⟨h.pb, 0, none⟩) (SkO h.mp x.pool) :: pt (some ⟨h.eo, 0, none⟩) (EnO h.mp h.ro h.ch) :: pt (some ⟨h.ro, 0, none⟩) (RoO h.mp h.sp x) :: pt (some ⟨h.sp, 0, none⟩) (SkO h.mp x.spare) :: pt (some ⟨h.ch, 0, none⟩) (ChO h.mp pb2 x) :: G) F3 :=
    Ent.trans (Ent.cons (Ent.trans (Ent.cons (Ent.trans (Ent.cons (Ent.trans (Ent.cons (Ent.of t8.back)) (Ent.of t7.back))) (Ent.of t6.back))) (Ent.of t5.back))) (Ent.of t4.back)
  obtain ⟨b1, b2, b3, b4, b5, b6, b7⟩ := hx.b
  refine Fx.mk Tryz.func55 k55 (Nat.le_of_ble_eq_true rfl) ?_
  dsimp only [c55, envOf, Nat.reduceAdd]
  refine Cx.ent (Ent.trans (Ent.of t1.out) (Ent.cons (Ent.trans (Ent.of t2.out) (Ent.cons (Ent.trans (Ent.of t3.out) (Ent.cons (Ent.trans (Ent.of t4.out) (Ent.cons (Ent.trans (Ent.of t5.out) (Ent.cons (Ent.trans (Ent.of t6.out) (Ent.cons (Ent.trans (Ent.of t7.out) (Ent.cons (Ent.of t8.out))))))))))))))) ?_
  refine Cx.pure (memKey (b := h.mp) (m := m)) fun hm => ?_
  cases hd : f.done with
  | true =>
    have e1 : frStep (x.fr slot gen) m S f = (m, S, f) := by unfold frStep; rw [hd]; rfl
    rw [e1]
    by_cases h4 : f.at_ = 4
    · refine Cx.openp (a := some ⟨b, 0, none⟩) (FrO.d_ hd h4) ?_
      rintro ⟨q, ⟨n1, n2, n3⟩, ep, wp⟩
      simp only [frDL, List.cons_append, List.nil_append]
      refine go ?_
      refine Sx.ca rfl (machStepDone (b := b)) ?_
      rintro v' L' ⟨rfl, rfl⟩
      refine go ?_
      exact Kr.one (.inr rfl) rfl (Ent.trans (FrO.closeD (v := f.v) f hd h4 rfl rfl rfl) (Ent.cons (Ent.cons (Ent.cons hback)))) ⟨rfl, rfl⟩
    · refine Cx.openp (a := some ⟨b, 0, none⟩) (FrO.s_ hd h4) ?_
      rintro ⟨n1, n2, n3, ep⟩
      simp only [frSL, List.cons_append, List.nil_append]
      refine go ?_
      refine Sx.ca rfl (machStepDone (b := b)) ?_
      rintro v' L' ⟨rfl, rfl⟩
      refine go ?_
      exact Kr.one (.inr rfl) rfl (Ent.trans (FrO.closeS (v := f.v) f hd h4 rfl rfl) (Ent.cons (Ent.cons (Ent.cons hback)))) ⟨rfl, rfl⟩
  | false =>
    obtain ⟨ka, kn, ke, kk, kc⟩ := hf hd
    obtain ⟨V, hV⟩ : ∃ V : FrV, V = { f.v with cnt := f.v.cnt + 1 } := ⟨_, rfl⟩
    have hVc : IntKind.i64.wrap ((f.v.cnt : Int) + 1) = (V.cnt : Nat) := by rw [hV]; exact cntW kn
    have hVt : V.tag = f.v.tag := by rw [hV]
    have hVk : V.chunk = f.v.chunk := by rw [hV]
    rcases (show f.at_ = 0 ∨ f.at_ = 1 ∨ f.at_ = 2 ∨ f.at_ = 3 ∨ f.at_ = 4 by omega) with h0 | h0 | h0 | h0 | h0
    · refine Cx.openp (a := some ⟨b, 0, none⟩) (FrO.e_ hd h0) ?_
      intro q
      simp only [frEL, List.cons_append, List.nil_append]
      have hke := ke h0
      obtain ⟨E, hE⟩ : ∃ E, endStep (x.root + slot) gen m f.e = E := ⟨_, rfl⟩
      have hes := endStepC (b := q) (r := h.ro) (mp := h.mp) (sp := h.sp) (slot := slot) (gen := gen) (x := x) (m := m) (e := f.e) hx hl hs hke
        (L := pt (some ⟨b, 0, none⟩) (Blk 200 (frF .nilFunc (mth 32 q) (mth 34 q) (mth 120 b) h.eo h.u slot (IntKind.i64.wrap ((f.v.cnt : Int) + 1)) f.v (.pointer (some ⟨q, 0, none⟩)) (.pointer none) (.pointer none))) :: pt (some ⟨q, 0, none⟩) (EndO h.ro slot gen f.e) :: pt (some ⟨h.u, 0, none⟩) (SupO h.mp h.pb x S) :: pt (some ⟨h.mp, 0, none⟩) (MemO m) :: pt (some ⟨h.pb, 0, none⟩) (SkO h.mp x.pool) :: pt (some ⟨h.eo, 0, none⟩) (EnO h.mp h.ro h.ch) :: pt (some ⟨h.ro, 0, none⟩) (RoO h.mp h.sp x) :: pt (some ⟨h.sp, 0, none⟩) (SkO h.mp x.spare) :: pt (some ⟨h.ch, 0, none⟩) (ChO h.mp pb2 x) :: G)
      have hea : E.1.at_ ≤ 1 := by rw [← hE]; unfold endStep; (repeat' split) <;> first | exact hke.a | (show 1 ≤ 1; omega) | (show 0 ≤ 1; omega)
      rw [hE] at hes
      cases hq : E.1.done with
      | true =>
        have e1 : frStep (x.fr slot gen) m S f = (E.2, S, frEnded (x.fr slot gen) V E.1) := by unfold frStep; rw [hd, h0, hV]; simp only [Bool.false_eq_true, if_false, hE, hq, if_true]
        rw [e1]
        refine go ?_
        refine Sx.ca rfl (machStep (b := b) (by kernel_rfl) (machGoes (b := b) (by kernel_rfl) hes
          (R2 := fun v L' => v = .tuple #[] ∧ ∃ w : Value, L' = pt (some ⟨b, 0, none⟩) (FrO h x slot gen (frEnded (x.fr slot gen) V E.1)) :: pt (some ⟨h.eo, 0, none⟩) (EnO h.mp h.ro h.ch) :: pt (some ⟨h.ro, 0, none⟩) (RoO h.mp h.sp x) :: pt (some ⟨h.sp, 0, none⟩) (SkO h.mp x.spare) :: pt (some ⟨h.u, 0, none⟩) (SupO h.mp h.pb x S) :: pt (some ⟨h.mp, 0, none⟩) (MemO E.2) :: pt (some ⟨h.pb, 0, none⟩) (SkO h.mp x.pool) :: pt (some ⟨h.ch, 0, none⟩) (ChO h.mp pb2 x) :: G) ?_)) ?_
        · rintro v L1 ⟨rfl, rfl⟩
          have hon := machOnYes (b := b) (by kernel_rfl) (fd := 34) (ft := 120) (w := .pointer (some ⟨q, 0, none⟩)) (u := .pointer (some ⟨b, 0, none⟩))
            (L := pt (some ⟨q, 0, none⟩) (EndO h.ro slot gen E.1) :: pt (some ⟨h.mp, 0, none⟩) (MemO E.2) :: pt (some ⟨b, 0, none⟩) (Blk 200 (frF .nilFunc (mth 32 q) (mth 34 q) (mth 120 b) h.eo h.u slot (IntKind.i64.wrap ((f.v.cnt : Int) + 1)) f.v (.pointer (some ⟨q, 0, none⟩)) (.pointer none) (.pointer none))) :: pt (some ⟨h.u, 0, none⟩) (SupO h.mp h.pb x S) :: pt (some ⟨h.pb, 0, none⟩) (SkO h.mp x.pool) :: pt (some ⟨h.eo, 0, none⟩) (EnO h.mp h.ro h.ch) :: pt (some ⟨h.ro, 0, none⟩) (RoO h.mp h.sp x) :: pt (some ⟨h.sp, 0, none⟩) (SkO h.mp x.spare) :: pt (some ⟨h.ch, 0, none⟩) (ChO h.mp pb2 x) :: G)
            ((endDone (b := q) (r := h.ro) (slot := slot) (gen := gen) (e := E.1) hea).mono (by rintro v L' ⟨rfl, rfl⟩; exact ⟨by rw [hq], rfl⟩)) (by kernel_rfl)
            (Fx.ent (M := frB b .nilFunc (mth 32 q) (mth 34 q) (mth 120 b) h.eo h.u slot (IntKind.i64.wrap ((f.v.cnt : Int) + 1)) V (.pointer (some ⟨q, 0, none⟩)) (.pointer none) (.pointer none) :: pt (some ⟨q, 0, none⟩) (EndO h.ro slot gen E.1) :: pt (some ⟨h.eo, 0, none⟩) (EnO h.mp h.ro h.ch) :: pt (some ⟨h.ro, 0, none⟩) (RoO h.mp h.sp x) :: pt (some ⟨h.sp, 0, none⟩) (SkO h.mp x.spare) :: pt (some ⟨h.u, 0, none⟩) (SupO h.mp h.pb x S) :: pt (some ⟨h.mp, 0, none⟩) (MemO E.2) :: pt (some ⟨h.pb, 0, none⟩) (SkO h.mp x.pool) :: pt (some ⟨h.ch, 0, none⟩) (ChO h.mp pb2 x) :: G) (by rw [hV]; exact ent)
              (frEnded_ (b := b) (q := q) (h := h) (x := x) (slot := slot) (gen := gen) (v := V) (e := E.1) hVc hs hq))
          refine hon.mono ?_
          rintro v L' ⟨rfl, w, rfl⟩
          exact ⟨rfl, .tuple #[], rfl⟩
        · rintro v L' ⟨rfl, w, _, w2, _, w3, rfl⟩
          refine go ?_
          refine Kr.one (.inr rfl) rfl (Ent.cons ?_) ⟨rfl, rfl⟩
          refine Ent.trans (M := pt (some ⟨h.u, 0, none⟩) (SupO h.mp h.pb x S) :: pt (some ⟨h.mp, 0, none⟩) (MemO E.2) :: _) (by exact ent) (Ent.cons (Ent.cons hback))
      | false =>
        have e1 : frStep (x.fr slot gen) m S f = (E.2, S, ⟨0, V, E.1, WalkS.zero, gNone, gNone, false⟩) := by unfold frStep; rw [hd, h0, hV]; simp only [Bool.false_eq_true, if_false, hE, hq]
        rw [e1]
        refine go ?_
        refine Sx.ca rfl (machStep (b := b) (by kernel_rfl) (machGoes (b := b) (by kernel_rfl) hes
          (R2 := fun v L' => v = .tuple #[] ∧ L' = frB b (mth 232 b) (mth 32 q) (mth 34 q) (mth 120 b) h.eo h.u slot (IntKind.i64.wrap ((f.v.cnt : Int) + 1)) f.v (.pointer (some ⟨q, 0, none⟩)) (.pointer none) (.pointer none) :: pt (some ⟨q, 0, none⟩) (EndO h.ro slot gen E.1) :: pt (some ⟨h.mp, 0, none⟩) (MemO E.2) :: pt (some ⟨h.u, 0, none⟩) (SupO h.mp h.pb x S) :: pt (some ⟨h.pb, 0, none⟩) (SkO h.mp x.pool) :: pt (some ⟨h.eo, 0, none⟩) (EnO h.mp h.ro h.ch) :: pt (some ⟨h.ro, 0, none⟩) (RoO h.mp h.sp x) :: pt (some ⟨h.sp, 0, none⟩) (SkO h.mp x.spare) :: pt (some ⟨h.ch, 0, none⟩) (ChO h.mp pb2 x) :: G) ?_)) ?_
        · rintro v L1 ⟨rfl, rfl⟩
          refine (machOnNo (b := b) (by kernel_rfl) ((endDone (b := q) (r := h.ro) (slot := slot) (gen := gen) (e := E.1) hea).mono (by rintro v L' ⟨rfl, rfl⟩; exact ⟨by rw [hq], rfl⟩))).mono ?_
          rintro v L' ⟨rfl, rfl⟩
          exact ⟨rfl, rfl⟩
        · rintro v L' ⟨rfl, w, _, w2, _, rfl⟩
          refine go ?_
          refine Kr.one (.inr rfl) rfl ?_ ⟨rfl, rfl⟩
          refine Ent.trans (FrO.closeE (h := h) (x := x) (gen := gen) (v := f.v) ⟨0, V, E.1, WalkS.zero, gNone, gNone, false⟩ rfl rfl hVc (by rw [hV]) rfl) (Ent.cons ?_)
          exact Ent.trans Ent.swap (Ent.cons (Ent.cons hback))
    · obtain ⟨kc0, kc1⟩ := kc h0
      subst hV
      refine Cx.openp (a := some ⟨b, 0, none⟩) (FrO.l_ hd h0) ?_
      rintro ⟨n1, n2, n3, ep⟩
      simp only [frLL, List.cons_append, List.nil_append]
      have e1 : frStep (x.fr slot gen) m S f = (m.tick, S, ⟨2, { f.v with cnt := f.v.cnt + 1, tag := cutE (m.at_ 2) }, f.e, ⟨[f.v.chunk], false⟩, gNone, gNone, false⟩) := by unfold frStep; rw [hd, h0]; rfl
      rw [e1]
      refine Cx.ent (M := frB b (mth 191 b) n1 n2 n3 h.eo h.u slot (f.v.cnt : Nat) f.v ep (.pointer none) (.pointer none) :: pt (some ⟨h.eo, 0, none⟩) (EnO h.mp h.ro h.ch) :: pt (some ⟨h.mp, 0, none⟩) (MemO m) :: pt (some ⟨h.ch, 0, none⟩) (ChO h.mp pb2 x) :: pt (some ⟨h.u, 0, none⟩) (SupO h.mp h.pb x S) :: pt (some ⟨h.pb, 0, none⟩) (SkO h.mp x.pool) :: pt (some ⟨h.ro, 0, none⟩) (RoO h.mp h.sp x) :: pt (some ⟨h.sp, 0, none⟩) (SkO h.mp x.spare) :: G) (by exact ent) ?_
      refine go ?_
      refine Sx.ca rfl (machStep (b := b) (by kernel_rfl) (frLook_ (b := b) (h := h) (x := x) (slot := slot) (gen := gen) (m := m) (v := { f.v with cnt := f.v.cnt + 1 }) (pb2 := pb2) f.e hVc hm.1 hl kc0 kc1)) ?_
      rintro v' L' ⟨rfl, w, rfl⟩
      refine go ?_
      refine Kr.one (.inr rfl) rfl (Ent.cons ?_) ⟨rfl, rfl⟩
      refine Ent.trans (M := pt (some ⟨h.u, 0, none⟩) (SupO h.mp h.pb x S) :: pt (some ⟨h.mp, 0, none⟩) (MemO m.tick) :: _) (by exact ent) (Ent.cons (Ent.cons hback))
    · subst hV
      refine Cx.openp (a := some ⟨b, 0, none⟩) (FrO.w_ hd h0) ?_
      rintro ⟨q, ep⟩
      simp only [frWL, List.cons_append, List.nil_append]
      obtain ⟨T, hT⟩ : ∃ T, walkStep x.link x.c m f.w = T := ⟨_, rfl⟩
      have hts := walkStepC (b := q) (ch := h.ch) (mp := h.mp) (sb := pb2) (x := x) (m := m) (s := f.w) hx hl
        (L := pt (some ⟨b, 0, none⟩) (Blk 200 (frF .nilFunc (mth 235 q) (mth 236 q) (mth 237 b) h.eo h.u slot (IntKind.i64.wrap ((f.v.cnt : Int) + 1)) f.v ep (.pointer (some ⟨q, 0, none⟩)) (.pointer none))) :: pt (some ⟨q, 0, none⟩) (WalkO h.ch x.c f.w) :: pt (some ⟨h.u, 0, none⟩) (SupO h.mp h.pb x S) :: pt (some ⟨h.mp, 0, none⟩) (MemO m) :: pt (some ⟨h.pb, 0, none⟩) (SkO h.mp x.pool) :: pt (some ⟨h.eo, 0, none⟩) (EnO h.mp h.ro h.ch) :: pt (some ⟨h.ro, 0, none⟩) (RoO h.mp h.sp x) :: pt (some ⟨h.sp, 0, none⟩) (SkO h.mp x.spare) :: pt (some ⟨h.ch, 0, none⟩) (ChO h.mp pb2 x) :: G)
      rw [hT] at hts
      cases hq : T.1.done with
      | true =>
        have e1 : frStep (x.fr slot gen) m S f = (T.2, supRet S f.v.tag T.1.l, frLeave (x.fr slot gen) { f.v with cnt := f.v.cnt + 1 } f.e T.1) := by unfold frStep; rw [hd, h0]; simp only [Bool.false_eq_true, if_false, hT, hq, if_true]
        rw [e1]
        refine go ?_
        refine Sx.ca rfl (machStep (b := b) (by kernel_rfl) (machGoes (b := b) (by kernel_rfl) hts
          (R2 := fun v L' => v = .tuple #[] ∧ ∃ w : Value, L' = pt (some ⟨b, 0, none⟩) (FrO h x slot gen (frLeave (x.fr slot gen) { f.v with cnt := f.v.cnt + 1 } f.e T.1)) :: pt (some ⟨h.u, 0, none⟩) (SupO h.mp h.pb x (supRet S f.v.tag T.1.l)) :: pt (some ⟨h.eo, 0, none⟩) (EnO h.mp h.ro h.ch) :: pt (some ⟨h.ro, 0, none⟩) (RoO h.mp h.sp x) :: pt (some ⟨h.sp, 0, none⟩) (SkO h.mp x.spare) :: pt (some ⟨h.mp, 0, none⟩) (MemO T.2) :: pt (some ⟨h.pb, 0, none⟩) (SkO h.mp x.pool) :: pt (some ⟨h.ch, 0, none⟩) (ChO h.mp pb2 x) :: G) ?_)) ?_
        · rintro v L1 ⟨rfl, rfl⟩
          have hon := machOnYes (b := b) (by kernel_rfl) (fd := 236) (ft := 237) (w := .pointer (some ⟨q, 0, none⟩)) (u := .pointer (some ⟨b, 0, none⟩))
            (L := pt (some ⟨q, 0, none⟩) (WalkO h.ch x.c T.1) :: pt (some ⟨h.mp, 0, none⟩) (MemO T.2) :: pt (some ⟨b, 0, none⟩) (Blk 200 (frF .nilFunc (mth 235 q) (mth 236 q) (mth 237 b) h.eo h.u slot (IntKind.i64.wrap ((f.v.cnt : Int) + 1)) f.v ep (.pointer (some ⟨q, 0, none⟩)) (.pointer none))) :: pt (some ⟨h.u, 0, none⟩) (SupO h.mp h.pb x S) :: pt (some ⟨h.pb, 0, none⟩) (SkO h.mp x.pool) :: pt (some ⟨h.eo, 0, none⟩) (EnO h.mp h.ro h.ch) :: pt (some ⟨h.ro, 0, none⟩) (RoO h.mp h.sp x) :: pt (some ⟨h.sp, 0, none⟩) (SkO h.mp x.spare) :: pt (some ⟨h.ch, 0, none⟩) (ChO h.mp pb2 x) :: G)
            ((walkDone (b := q) (ch := h.ch) (c := x.c) (s := T.1)).mono (by rintro v L' ⟨rfl, rfl⟩; exact ⟨by rw [hq], rfl⟩)) (by kernel_rfl)
            (Fx.ent (M := frB b .nilFunc (mth 235 q) (mth 236 q) (mth 237 b) h.eo h.u slot (IntKind.i64.wrap ((f.v.cnt : Int) + 1)) { f.v with cnt := f.v.cnt + 1 } ep (.pointer (some ⟨q, 0, none⟩)) (.pointer none) :: pt (some ⟨q, 0, none⟩) (WalkO h.ch x.c T.1) :: pt (some ⟨h.u, 0, none⟩) (SupO h.mp h.pb x S) :: pt (some ⟨h.eo, 0, none⟩) (EnO h.mp h.ro h.ch) :: pt (some ⟨h.ro, 0, none⟩) (RoO h.mp h.sp x) :: pt (some ⟨h.sp, 0, none⟩) (SkO h.mp x.spare) :: pt (some ⟨h.mp, 0, none⟩) (MemO T.2) :: pt (some ⟨h.pb, 0, none⟩) (SkO h.mp x.pool) :: pt (some ⟨h.ch, 0, none⟩) (ChO h.mp pb2 x) :: G) (by exact ent)
              (frWalked_ (b := b) (q := q) (h := h) (x := x) (slot := slot) (gen := gen) (v := { f.v with cnt := f.v.cnt + 1 }) (S := S) f.e T.1 hVc hs hq b2 (by omega)))
          refine hon.mono ?_
          rintro v L' ⟨rfl, w, rfl⟩
          exact ⟨rfl, .tuple #[], rfl⟩
        · rintro v L' ⟨rfl, w, _, w2, _, w3, rfl⟩
          refine go ?_
          refine Kr.one (.inr rfl) rfl (Ent.cons ?_) ⟨rfl, rfl⟩
          refine Ent.trans (M := pt (some ⟨h.u, 0, none⟩) (SupO h.mp h.pb x (supRet S f.v.tag T.1.l)) :: pt (some ⟨h.mp, 0, none⟩) (MemO T.2) :: _) (by exact ent) (Ent.cons (Ent.cons hback))
      | false =>
        have e1 : frStep (x.fr slot gen) m S f = (T.2, S, ⟨2, { f.v with cnt := f.v.cnt + 1 }, f.e, T.1, gNone, gNone, false⟩) := by unfold frStep; rw [hd, h0]; simp only [Bool.false_eq_true, if_false, hT, hq]
        rw [e1]
        refine go ?_
        refine Sx.ca rfl (machStep (b := b) (by kernel_rfl) (machGoes (b := b) (by kernel_rfl) hts
          (R2 := fun v L' => v = .tuple #[] ∧ L' = frB b (mth 232 b) (mth 235 q) (mth 236 q) (mth 237 b) h.eo h.u slot (IntKind.i64.wrap ((f.v.cnt : Int) + 1)) f.v ep (.pointer (some ⟨q, 0, none⟩)) (.pointer none) :: pt (some ⟨q, 0, none⟩) (WalkO h.ch x.c T.1) :: pt (some ⟨h.mp, 0, none⟩) (MemO T.2) :: pt (some ⟨h.u, 0, none⟩) (SupO h.mp h.pb x S) :: pt (some ⟨h.pb, 0, none⟩) (SkO h.mp x.pool) :: pt (some ⟨h.eo, 0, none⟩) (EnO h.mp h.ro h.ch) :: pt (some ⟨h.ro, 0, none⟩) (RoO h.mp h.sp x) :: pt (some ⟨h.sp, 0, none⟩) (SkO h.mp x.spare) :: pt (some ⟨h.ch, 0, none⟩) (ChO h.mp pb2 x) :: G) ?_)) ?_
        · rintro v L1 ⟨rfl, rfl⟩
          refine (machOnNo (b := b) (by kernel_rfl) ((walkDone (b := q) (ch := h.ch) (c := x.c) (s := T.1)).mono (by rintro v L' ⟨rfl, rfl⟩; exact ⟨by rw [hq], rfl⟩))).mono ?_
          rintro v L' ⟨rfl, rfl⟩
          exact ⟨rfl, rfl⟩
        · rintro v L' ⟨rfl, w, _, w2, _, rfl⟩
          refine go ?_
          refine Kr.one (.inr rfl) rfl ?_ ⟨rfl, rfl⟩
          refine Ent.trans (FrO.closeW (h := h) (x := x) (gen := gen) (v := f.v) ⟨2, { f.v with cnt := f.v.cnt + 1 }, f.e, T.1, gNone, gNone, false⟩ rfl rfl hVc rfl rfl) (Ent.cons ?_)
          exact Ent.trans Ent.swap (Ent.cons (Ent.cons hback))
    · subst hV
      refine Cx.openp (a := some ⟨b, 0, none⟩) (FrO.p_ hd h0) ?_
      rintro ⟨q, ep, wp⟩
      simp only [frPL, List.cons_append, List.nil_append]
      obtain ⟨T, hT⟩ : ∃ T, pushStep x.spare m f.p = T := ⟨_, rfl⟩
      have hts := pushStepC (b := q) (sb := h.sp) (mp := h.mp) (k := x.spare) (m := m) (p := f.p) (hx.spare (n := m.ws.length) hl hm.2)
        (L := pt (some ⟨b, 0, none⟩) (Blk 200 (frF .nilFunc (mth 239 q) (mth 240 q) (mth 241 b) h.eo h.u slot (IntKind.i64.wrap ((f.v.cnt : Int) + 1)) f.v ep wp (.pointer none))) :: pt (some ⟨q, 0, none⟩) (PushO h.sp x.spare f.p) :: pt (some ⟨h.u, 0, none⟩) (SupO h.mp h.pb x S) :: pt (some ⟨h.mp, 0, none⟩) (MemO m) :: pt (some ⟨h.pb, 0, none⟩) (SkO h.mp x.pool) :: pt (some ⟨h.eo, 0, none⟩) (EnO h.mp h.ro h.ch) :: pt (some ⟨h.ro, 0, none⟩) (RoO h.mp h.sp x) :: pt (some ⟨h.sp, 0, none⟩) (SkO h.mp x.spare) :: pt (some ⟨h.ch, 0, none⟩) (ChO h.mp pb2 x) :: G)
      rw [hT] at hts
      cases hq : T.1.done with
      | true =>
        have e1 : frStep (x.fr slot gen) m S f = (T.2, { S with xs := S.xs.drop (overK S.most S.xs) }, frLeft x.pool { f.v with cnt := f.v.cnt + 1 } S f.e f.w T.1) := by unfold frStep; rw [hd, h0]; simp only [Bool.false_eq_true, if_false, hT, hq, if_true]; rfl
        rw [e1]
        refine go ?_
        refine Sx.ca rfl (machStep (b := b) (by kernel_rfl) (machGoes (b := b) (by kernel_rfl) hts
          (R2 := fun v L' => v = .tuple #[] ∧ ∃ w : Value, L' = pt (some ⟨b, 0, none⟩) (FrO h x slot gen (frLeft x.pool { f.v with cnt := f.v.cnt + 1 } S f.e f.w T.1)) :: pt (some ⟨h.u, 0, none⟩) (SupO h.mp h.pb x { S with xs := S.xs.drop (overK S.most S.xs) }) :: pt (some ⟨h.pb, 0, none⟩) (SkO h.mp x.pool) :: pt (some ⟨h.mp, 0, none⟩) (MemO T.2) :: pt (some ⟨h.eo, 0, none⟩) (EnO h.mp h.ro h.ch) :: pt (some ⟨h.ro, 0, none⟩) (RoO h.mp h.sp x) :: pt (some ⟨h.sp, 0, none⟩) (SkO h.mp x.spare) :: pt (some ⟨h.ch, 0, none⟩) (ChO h.mp pb2 x) :: G) ?_)) ?_
        · rintro v L1 ⟨rfl, rfl⟩
          have hon := machOnYes (b := b) (by kernel_rfl) (fd := 240) (ft := 241) (w := .pointer (some ⟨q, 0, none⟩)) (u := .pointer (some ⟨b, 0, none⟩))
            (L := pt (some ⟨q, 0, none⟩) (PushO h.sp x.spare T.1) :: pt (some ⟨h.mp, 0, none⟩) (MemO T.2) :: pt (some ⟨b, 0, none⟩) (Blk 200 (frF .nilFunc (mth 239 q) (mth 240 q) (mth 241 b) h.eo h.u slot (IntKind.i64.wrap ((f.v.cnt : Int) + 1)) f.v ep wp (.pointer none))) :: pt (some ⟨h.u, 0, none⟩) (SupO h.mp h.pb x S) :: pt (some ⟨h.pb, 0, none⟩) (SkO h.mp x.pool) :: pt (some ⟨h.eo, 0, none⟩) (EnO h.mp h.ro h.ch) :: pt (some ⟨h.ro, 0, none⟩) (RoO h.mp h.sp x) :: pt (some ⟨h.sp, 0, none⟩) (SkO h.mp x.spare) :: pt (some ⟨h.ch, 0, none⟩) (ChO h.mp pb2 x) :: G)
            ((pushDoneC (b := q) (sb := h.sp) (k := x.spare) (p := T.1)).mono (by rintro v L' ⟨rfl, rfl⟩; exact ⟨by rw [hq], rfl⟩)) (by kernel_rfl)
            (Fx.ent (M := frB b .nilFunc (mth 239 q) (mth 240 q) (mth 241 b) h.eo h.u slot (IntKind.i64.wrap ((f.v.cnt : Int) + 1)) { f.v with cnt := f.v.cnt + 1 } ep wp (.pointer none) :: pt (some ⟨h.u, 0, none⟩) (SupO h.mp h.pb x S) :: pt (some ⟨h.pb, 0, none⟩) (SkO h.mp x.pool) :: pt (some ⟨h.mp, 0, none⟩) (MemO T.2) :: pt (some ⟨h.eo, 0, none⟩) (EnO h.mp h.ro h.ch) :: pt (some ⟨h.ro, 0, none⟩) (RoO h.mp h.sp x) :: pt (some ⟨h.sp, 0, none⟩) (SkO h.mp x.spare) :: pt (some ⟨h.ch, 0, none⟩) (ChO h.mp pb2 x) :: G) (by exact ent)
              (frLeft_ (b := b) (h := h) (x := x) (slot := slot) (gen := gen) (v := { f.v with cnt := f.v.cnt + 1 }) (S := S) f.e f.w T.1 hVc (by omega) hm0 hm2))
          refine hon.mono ?_
          rintro v L' ⟨rfl, w, rfl⟩
          exact ⟨rfl, .tuple #[], rfl⟩
        · rintro v L' ⟨rfl, w, _, w2, _, w3, rfl⟩
          refine go ?_
          refine Kr.one (.inr rfl) rfl (Ent.cons ?_) ⟨rfl, rfl⟩
          refine Ent.trans (M := pt (some ⟨h.u, 0, none⟩) (SupO h.mp h.pb x { S with xs := S.xs.drop (overK S.most S.xs) }) :: pt (some ⟨h.mp, 0, none⟩) (MemO T.2) :: _) (by exact ent) (Ent.cons (Ent.cons hback))
      | false =>
        have e1 : frStep (x.fr slot gen) m S f = (T.2, S, ⟨3, { f.v with cnt := f.v.cnt + 1 }, f.e, f.w, T.1, gNone, false⟩) := by unfold frStep; rw [hd, h0]; simp only [Bool.false_eq_true, if_false, hT, hq]
        rw [e1]
        refine go ?_
        refine Sx.ca rfl (machStep (b := b) (by kernel_rfl) (machGoes (b := b) (by kernel_rfl) hts
          (R2 := fun v L' => v = .tuple #[] ∧ L' = frB b (mth 232 b) (mth 239 q) (mth 240 q) (mth 241 b) h.eo h.u slot (IntKind.i64.wrap ((f.v.cnt : Int) + 1)) f.v ep wp (.pointer none) :: pt (some ⟨q, 0, none⟩) (PushO h.sp x.spare T.1) :: pt (some ⟨h.mp, 0, none⟩) (MemO T.2) :: pt (some ⟨h.u, 0, none⟩) (SupO h.mp h.pb x S) :: pt (some ⟨h.pb, 0, none⟩) (SkO h.mp x.pool) :: pt (some ⟨h.eo, 0, none⟩) (EnO h.mp h.ro h.ch) :: pt (some ⟨h.ro, 0, none⟩) (RoO h.mp h.sp x) :: pt (some ⟨h.sp, 0, none⟩) (SkO h.mp x.spare) :: pt (some ⟨h.ch, 0, none⟩) (ChO h.mp pb2 x) :: G) ?_)) ?_
        · rintro v L1 ⟨rfl, rfl⟩
          refine (machOnNo (b := b) (by kernel_rfl) ((pushDoneC (b := q) (sb := h.sp) (k := x.spare) (p := T.1)).mono (by rintro v L' ⟨rfl, rfl⟩; exact ⟨by rw [hq], rfl⟩))).mono ?_
          rintro v L' ⟨rfl, rfl⟩
          exact ⟨rfl, rfl⟩
        · rintro v L' ⟨rfl, w, _, w2, _, rfl⟩
          refine go ?_
          refine Kr.one (.inr rfl) rfl ?_ ⟨rfl, rfl⟩
          refine Ent.trans (FrO.closeP (h := h) (x := x) (gen := gen) (v := f.v) ⟨3, { f.v with cnt := f.v.cnt + 1 }, f.e, f.w, T.1, gNone, false⟩ rfl rfl hVc rfl rfl) (Ent.cons ?_)
          exact Ent.trans Ent.swap (Ent.cons (Ent.cons hback))
    · subst hV
      refine Cx.openp (a := some ⟨b, 0, none⟩) (FrO.g_ hd h0) ?_
      rintro ⟨q, ep, wp⟩
      simp only [frGL, List.cons_append, List.nil_append]
      obtain ⟨T, hT⟩ : ∃ T, pushStep x.pool m f.g = T := ⟨_, rfl⟩
      have hts := giveStep (b := q) (mp := h.mp) (pb := h.pb) (k := x.pool) (m := m) (p := f.g) (hx.pool (n := m.ws.length) hl hm.2)
        (L := pt (some ⟨b, 0, none⟩) (Blk 200 (frF .nilFunc (mth 208 q) (mth 188 q) (mth 259 b) h.eo h.u slot (IntKind.i64.wrap ((f.v.cnt : Int) + 1)) f.v ep wp (.pointer (some ⟨q, 0, none⟩)))) :: pt (some ⟨q, 0, none⟩) (GiveO h.pb x.pool f.g) :: pt (some ⟨h.u, 0, none⟩) (SupO h.mp h.pb x S) :: pt (some ⟨h.mp, 0, none⟩) (MemO m) :: pt (some ⟨h.pb, 0, none⟩) (SkO h.mp x.pool) :: pt (some ⟨h.eo, 0, none⟩) (EnO h.mp h.ro h.ch) :: pt (some ⟨h.ro, 0, none⟩) (RoO h.mp h.sp x) :: pt (some ⟨h.sp, 0, none⟩) (SkO h.mp x.spare) :: pt (some ⟨h.ch, 0, none⟩) (ChO h.mp pb2 x) :: G)
      have e1 : frStep (x.fr slot gen) m S f = (T.2, S, ⟨4, { f.v with cnt := f.v.cnt + 1 }, f.e, f.w, f.p, T.1, T.1.done⟩) := by unfold frStep; rw [hd, h0]; simp only [Bool.false_eq_true, if_false, hT]
      rw [hT] at hts
      rw [e1]
      refine go ?_
      cases hq : T.1.done with
      | true =>
        refine Sx.ca rfl (machStep (b := b) (by kernel_rfl) (machGoes (b := b) (by kernel_rfl) hts
          (R2 := fun v L' => v = .tuple #[] ∧ ∃ w : Value, w = .tuple #[] ∧ pt (some ⟨q, 0, none⟩) (GiveO h.pb x.pool T.1) :: pt (some ⟨h.mp, 0, none⟩) (MemO T.2) :: pt (some ⟨b, 0, none⟩) (Blk 200 (frF .nilFunc (mth 208 q) (mth 188 q) (mth 259 b) h.eo h.u slot (IntKind.i64.wrap ((f.v.cnt : Int) + 1)) f.v ep wp (.pointer (some ⟨q, 0, none⟩)))) :: pt (some ⟨h.u, 0, none⟩) (SupO h.mp h.pb x S) :: pt (some ⟨h.pb, 0, none⟩) (SkO h.mp x.pool) :: pt (some ⟨h.eo, 0, none⟩) (EnO h.mp h.ro h.ch) :: pt (some ⟨h.ro, 0, none⟩) (RoO h.mp h.sp x) :: pt (some ⟨h.sp, 0, none⟩) (SkO h.mp x.spare) :: pt (some ⟨h.ch, 0, none⟩) (ChO h.mp pb2 x) :: G = L') ?_)) ?_
        · rintro v L1 ⟨rfl, rfl⟩
          exact machOnYes (b := b) (by kernel_rfl) ((giveDone (b := q) (pb := h.pb) (k := x.pool) (p := T.1)).mono (by rintro v L' ⟨rfl, rfl⟩; exact ⟨by rw [hq], rfl⟩)) (by kernel_rfl) frOver
        · rintro v L' ⟨rfl, w, _, w2, _, w3, _, rfl⟩
          refine go ?_
          refine Kr.one (.inr rfl) rfl ?_ ⟨rfl, rfl⟩
          refine Ent.trans (Ent.take (a := some ⟨b, 0, none⟩)) ?_
          refine Ent.trans (FrO.closeD (h := h) (x := x) (gen := gen) (v := f.v) ⟨4, { f.v with cnt := f.v.cnt + 1 }, f.e, f.w, f.p, T.1, true⟩ rfl rfl hVc rfl rfl) (Ent.cons ?_)
          exact Ent.trans Ent.swap (Ent.cons (Ent.cons hback))
      | false =>
        refine Sx.ca rfl (machStep (b := b) (by kernel_rfl) (machGoes (b := b) (by kernel_rfl) hts
          (R2 := fun v L' => v = .tuple #[] ∧ L' = frB b (mth 232 b) (mth 208 q) (mth 188 q) (mth 259 b) h.eo h.u slot (IntKind.i64.wrap ((f.v.cnt : Int) + 1)) f.v ep wp (.pointer (some ⟨q, 0, none⟩)) :: pt (some ⟨q, 0, none⟩) (GiveO h.pb x.pool T.1) :: pt (some ⟨h.mp, 0, none⟩) (MemO T.2) :: pt (some ⟨h.u, 0, none⟩) (SupO h.mp h.pb x S) :: pt (some ⟨h.pb, 0, none⟩) (SkO h.mp x.pool) :: pt (some ⟨h.eo, 0, none⟩) (EnO h.mp h.ro h.ch) :: pt (some ⟨h.ro, 0, none⟩) (RoO h.mp h.sp x) :: pt (some ⟨h.sp, 0, none⟩) (SkO h.mp x.spare) :: pt (some ⟨h.ch, 0, none⟩) (ChO h.mp pb2 x) :: G) ?_)) ?_
        · rintro v L1 ⟨rfl, rfl⟩
          refine (machOnNo (b := b) (by kernel_rfl) ((giveDone (b := q) (pb := h.pb) (k := x.pool) (p := T.1)).mono (by rintro v L' ⟨rfl, rfl⟩; exact ⟨by rw [hq], rfl⟩))).mono ?_
          rintro v L' ⟨rfl, rfl⟩
          exact ⟨rfl, rfl⟩
        · rintro v L' ⟨rfl, w, _, w2, _, rfl⟩
          refine go ?_
          refine Kr.one (.inr rfl) rfl ?_ ⟨rfl, rfl⟩
          refine Ent.trans (FrO.closeG (h := h) (x := x) (gen := gen) (v := f.v) ⟨4, { f.v with cnt := f.v.cnt + 1 }, f.e, f.w, f.p, T.1, false⟩ rfl rfl hVc rfl rfl) (Ent.cons ?_)
          exact Ent.trans Ent.swap (Ent.cons (Ent.cons hback))
end
end Go.Proofs.YtflalhdofhobmaaGreat

/-
  ending: a Free is made; what is told of one that is done.
-/
set_option linter.unusedVariables false
set_option linter.unusedSimpArgs false
namespace Go.Proofs.YtflalhdofhobmaaGreat
open Go
attribute [local irreducible] Sx Cx Rx Fx Krg Ksq Kbl Klp Kr
section
variable {L F G : St}
theorem endsFree {h : FrH} {x : Cn} (slot : Nat) (gen : Int) (hs : slot < x.sl) [t : Take L (some ⟨h.eo, 0, none⟩) (EnO h.mp h.ro h.ch) F] {F2 : St} [c : Take F (some ⟨h.ro, 0, none⟩) (RoO h.mp h.sp x) F2] :
    Fx Tryz.prog 48 [.pointer (some ⟨h.eo, 0, none⟩), .pointer (some ⟨h.u, 0, none⟩), .int .i64 slot, .int .i64 gen] L (fun v L' => ∃ b, v = .tuple #[.pointer (some ⟨b, 0, none⟩), .int .i64 0] ∧ L' = pt (some ⟨b, 0, none⟩) (FrO h x slot gen FrS.init) :: L) := by
  refine Fx.mk Tryz.func48 k48 (Nat.le_of_ble_eq_true rfl) ?_
  dsimp only [c48, envOf, Nat.reduceAdd]
  refine Cx.ent (Ent.trans (Ent.of t.out) (Ent.cons (Ent.of c.out))) ?_
  refine go ?_
  refine Sx.ca rfl (rootsEnd (g := h.ro) (mp := h.mp) (sb := h.sp) (x := x) slot gen hs) ?_
  rintro v L' ⟨e, rfl, rfl⟩
  refine go ?_
  refine Sx.bx rfl rfl fun b => ?_
  refine Sx.re (frF .nilFunc .nilFunc .nilFunc .nilFunc h.eo h.u slot 0 ⟨0, 0, -1, -1, 0, 0, 0⟩ (.pointer (some ⟨e, 0, none⟩)) (.pointer none) (.pointer none)) rfl ?_
  refine go ?_
  refine Sx.ca rfl (machThrough (b := b) (machOnNo (b := b) (by kernel_rfl) (endDone (b := e) (r := h.ro) (slot := slot) (gen := gen) (e := EndS.init) (by show 0 ≤ 1; omega)))) ?_
  rintro v' L' ⟨rfl, w', rfl, rfl⟩
  refine go ?_
  refine Kr.two (.inr rfl) rfl rfl ?_ ⟨b, rfl, rfl⟩
  refine Ent.trans (Ent.take (a := some ⟨b, 0, none⟩)) ?_
  refine Ent.trans (Ent.cons (Ent.take (a := some ⟨e, 0, none⟩))) ?_
  refine Ent.trans (FrO.closeE (h := h) (x := x) (gen := gen) (v := ⟨0, 0, -1, -1, 0, 0, 0⟩) FrS.init rfl rfl rfl rfl rfl) (Ent.cons ?_)
  exact Ent.trans (Ent.cons (Ent.of c.back)) (Ent.of t.back)
theorem endsFreeNo {mp ro sp ch eo : Nat} {x : Cn} {u : Value} (slot gen : Int) (hs : ¬ (0 ≤ slot ∧ slot < x.sl)) [t : Take L (some ⟨eo, 0, none⟩) (EnO mp ro ch) F] {F2 : St} [c : Take F (some ⟨ro, 0, none⟩) (RoO mp sp x) F2] :
    Fx Tryz.prog 48 [.pointer (some ⟨eo, 0, none⟩), u, .int .i64 slot, .int .i64 gen] L (fun v L' => v = .tuple #[.pointer none, .int .i64 1] ∧ L = L') := by
  have hback : Ent (pt (some ⟨eo, 0, none⟩) (EnO mp ro ch) :: pt (some ⟨ro, 0, none⟩) (RoO mp sp x) :: F2) L := Ent.trans (Ent.cons (Ent.of c.back)) (Ent.of t.back)
  refine Fx.mk Tryz.func48 k48 (Nat.le_of_ble_eq_true rfl) ?_
  dsimp only [c48, envOf, Nat.reduceAdd]
  refine Cx.ent (Ent.trans (Ent.of t.out) (Ent.cons (Ent.of c.out))) ?_
  refine go ?_
  refine Sx.ca rfl (rootsEndNo (g := ro) (mp := mp) (sb := sp) (x := x) slot gen hs) ?_
  rintro v L' ⟨rfl, rfl⟩
  refine go ?_
  exact Kr.two (.inr rfl) rfl rfl hback ⟨rfl, rfl⟩
theorem frDoneY {b : Nat} {h : FrH} {x : Cn} {slot : Nat} {gen : Int} {s : FrS} {F1 : St} (hd : s.done = true) [t1 : Take L (some ⟨b, 0, none⟩) (FrO h x slot gen s) F1] : Fx Tryz.prog 56 [.pointer (some ⟨b, 0, none⟩)] L (fun v L' => v = .bool true ∧ L = L') := by
  refine Fx.kept (t := t1) ?_
  refine Fx.mk Tryz.func56 k56 (Nat.le_of_ble_eq_true rfl) ?_
  dsimp only [c56, envOf, Nat.reduceAdd]
  refine Cx.ent (Ent.of t1.out) ?_
  by_cases h4 : s.at_ = 4
  · refine Cx.openp (a := some ⟨b, 0, none⟩) (FrO.d_ hd h4) ?_
    rintro ⟨q, ⟨n1, n2, n3⟩, ep, wp⟩
    simp only [frDL, List.cons_append, List.nil_append]
    refine go ?_
    refine Sx.ca rfl (machDoneYes (b := b)) ?_
    rintro v' L' ⟨rfl, rfl⟩
    refine go ?_
    exact Kr.one (.inr rfl) rfl (FrO.closeD (v := s.v) s hd h4 rfl rfl rfl) ⟨rfl, rfl⟩
  · refine Cx.openp (a := some ⟨b, 0, none⟩) (FrO.s_ hd h4) ?_
    rintro ⟨n1, n2, n3, ep⟩
    simp only [frSL, List.cons_append, List.nil_append]
    refine go ?_
    refine Sx.ca rfl (machDoneYes (b := b)) ?_
    rintro v' L' ⟨rfl, rfl⟩
    refine go ?_
    exact Kr.one (.inr rfl) rfl (FrO.closeS (v := s.v) s hd h4 rfl rfl) ⟨rfl, rfl⟩
theorem frCodeD {b : Nat} {h : FrH} {x : Cn} {slot : Nat} {gen : Int} {s : FrS} {F1 : St} (hd : s.done = true) [t1 : Take L (some ⟨b, 0, none⟩) (FrO h x slot gen s) F1] : Fx Tryz.prog 50 [.pointer (some ⟨b, 0, none⟩)] L (fun v L' => v = .int .i64 (s.v.code : Nat) ∧ L = L') := by
  refine Fx.kept (t := t1) ?_
  refine Fx.mk Tryz.func50 k50 (Nat.le_of_ble_eq_true rfl) ?_
  dsimp only [c50, envOf, Nat.reduceAdd]
  refine Cx.ent (Ent.of t1.out) ?_
  refine go ?_
  refine Sx.ca rfl (frDoneY (b := b) (h := h) (x := x) (slot := slot) (gen := gen) (s := s) hd) ?_
  rintro v L' ⟨rfl, rfl⟩
  refine go ?_
  by_cases h4 : s.at_ = 4
  · refine Sx.openp (a := some ⟨b, 0, none⟩) (FrO.d_ hd h4) ?_
    rintro ⟨q, ⟨n1, n2, n3⟩, ep, wp⟩
    simp only [frDL, List.cons_append, List.nil_append]
    refine go ?_
    exact Kr.one (.inr rfl) rfl (FrO.closeD (v := s.v) s hd h4 rfl rfl rfl) ⟨rfl, rfl⟩
  · refine Sx.openp (a := some ⟨b, 0, none⟩) (FrO.s_ hd h4) ?_
    rintro ⟨n1, n2, n3, ep⟩
    simp only [frSL, List.cons_append, List.nil_append]
    refine go ?_
    exact Kr.one (.inr rfl) rfl (FrO.closeS (v := s.v) s hd h4 rfl rfl) ⟨rfl, rfl⟩
theorem frPointD {b : Nat} {h : FrH} {x : Cn} {slot : Nat} {gen : Int} {s : FrS} {F1 : St} (hd : s.done = true) [t1 : Take L (some ⟨b, 0, none⟩) (FrO h x slot gen s) F1] : Fx Tryz.prog 51 [.pointer (some ⟨b, 0, none⟩)] L (fun v L' => v = .int .i64 (s.v.point : Nat) ∧ L = L') := by
  refine Fx.kept (t := t1) ?_
  refine Fx.mk Tryz.func51 k51 (Nat.le_of_ble_eq_true rfl) ?_
  dsimp only [c51, envOf, Nat.reduceAdd]
  refine Cx.ent (Ent.of t1.out) ?_
  by_cases h4 : s.at_ = 4
  · refine Cx.openp (a := some ⟨b, 0, none⟩) (FrO.d_ hd h4) ?_
    rintro ⟨q, ⟨n1, n2, n3⟩, ep, wp⟩
    simp only [frDL, List.cons_append, List.nil_append]
    refine go ?_
    exact Kr.one (.inr rfl) rfl (FrO.closeD (v := s.v) s hd h4 rfl rfl rfl) ⟨rfl, rfl⟩
  · refine Cx.openp (a := some ⟨b, 0, none⟩) (FrO.s_ hd h4) ?_
    rintro ⟨n1, n2, n3, ep⟩
    simp only [frSL, List.cons_append, List.nil_append]
    refine go ?_
    exact Kr.one (.inr rfl) rfl (FrO.closeS (v := s.v) s hd h4 rfl rfl) ⟨rfl, rfl⟩
theorem frBackD {b : Nat} {h : FrH} {x : Cn} {slot : Nat} {gen : Int} {s : FrS} {F1 : St} (hd : s.done = true) [t1 : Take L (some ⟨b, 0, none⟩) (FrO h x slot gen s) F1] : Fx Tryz.prog 52 [.pointer (some ⟨b, 0, none⟩)] L (fun v L' => v = .int .i64 (s.v.back : Nat) ∧ L = L') := by
  refine Fx.kept (t := t1) ?_
  refine Fx.mk Tryz.func52 k52 (Nat.le_of_ble_eq_true rfl) ?_
  dsimp only [c52, envOf, Nat.reduceAdd]
  refine Cx.ent (Ent.of t1.out) ?_
  by_cases h4 : s.at_ = 4
  · refine Cx.openp (a := some ⟨b, 0, none⟩) (FrO.d_ hd h4) ?_
    rintro ⟨q, ⟨n1, n2, n3⟩, ep, wp⟩
    simp only [frDL, List.cons_append, List.nil_append]
    refine go ?_
    exact Kr.one (.inr rfl) rfl (FrO.closeD (v := s.v) s hd h4 rfl rfl rfl) ⟨rfl, rfl⟩
  · refine Cx.openp (a := some ⟨b, 0, none⟩) (FrO.s_ hd h4) ?_
    rintro ⟨n1, n2, n3, ep⟩
    simp only [frSL, List.cons_append, List.nil_append]
    refine go ?_
    exact Kr.one (.inr rfl) rfl (FrO.closeS (v := s.v) s hd h4 rfl rfl) ⟨rfl, rfl⟩
end
end Go.Proofs.YtflalhdofhobmaaGreat

/-
  ending's statements: ending.New; the memory, the workers' supplies, the document's beside.
-/
set_option linter.unusedVariables false
set_option linter.unusedSimpArgs false
namespace Go.Proofs.YtflalhdofhobmaaGreat
open Go
attribute [local irreducible] Sx Cx Rx Fx Krg Ksq Kbl Klp Kr
section
variable {L F G : St}
theorem endingNew {mp : Nat} {m : Mm} {x : Cn} (hx : x.ok) (hl : x.len ≤ m.ws.length) [t : Take L (some ⟨mp, 0, none⟩) (MemO m) F] :
    Fx Tryz.prog 47 [.pointer (some ⟨mp, 0, none⟩), x.v] L (fun v L' => ∃ eo ro sp ch pb, v = .tuple #[.pointer (some ⟨eo, 0, none⟩), .int .i64 0] ∧
      L' = pt (some ⟨eo, 0, none⟩) (EnO mp ro ch) :: pt (some ⟨ch, 0, none⟩) (ChO mp pb x) :: pt (some ⟨pb, 0, none⟩) (SkO mp x.pool) :: pt (some ⟨ro, 0, none⟩) (RoO mp sp x) :: pt (some ⟨sp, 0, none⟩) (SkO mp x.spare) :: L) := by
  refine Fx.mk Tryz.func47 k47 (Nat.le_of_ble_eq_true rfl) ?_
  dsimp only [c47, envOf, Nat.reduceAdd]
  refine Cx.sq ?_
  refine Cx.rg ?_
  refine Sx.bx rfl rfl fun g0 => ?_
  refine go ?_
  refine Sx.ca rfl (rootsNew (mp := mp) (m := m) hx hl) ?_
  rintro v L' ⟨ro, sp, rfl, rfl⟩
  refine go ?_
  refine Sx.ca rfl (chainNew (mp := mp) (m := m) hx hl) ?_
  rintro v L' ⟨ch, pb, rfl, rfl⟩
  refine go ?_
  refine Sx.bx rfl rfl fun eo => ?_
  refine Sx.re [.pointer (some ⟨mp, 0, none⟩), .pointer (some ⟨ro, 0, none⟩), .pointer (some ⟨ch, 0, none⟩)] rfl ?_
  refine go ?_
  refine Kr.two (.inr rfl) rfl rfl ?_ ⟨eo, ro, sp, ch, pb, rfl, rfl⟩
  refine Ent.cons (Ent.cons (Ent.cons (Ent.cons (Ent.cons ?_))))
  exact Ent.drop
theorem endingNewSmall {mp : Nat} {m : Mm} {x : Cn} (hx : x.ok) (hl : m.ws.length < x.len) [t : Take L (some ⟨mp, 0, none⟩) (MemO m) F] :
    Fx Tryz.prog 47 [.pointer (some ⟨mp, 0, none⟩), x.v] L (fun v L' => v = .tuple #[.pointer none, .int .i64 1] ∧ L = L') := by
  refine Fx.mk Tryz.func47 k47 (Nat.le_of_ble_eq_true rfl) ?_
  dsimp only [c47, envOf, Nat.reduceAdd]
  refine Cx.sq ?_
  refine Cx.rg ?_
  refine Sx.bx rfl rfl fun g0 => ?_
  refine go ?_
  refine Sx.ca rfl (rootsNewSmall (mp := mp) (m := m) hx hl) ?_
  rintro v L' ⟨rfl, rfl⟩
  refine go ?_
  exact Kr.two (.inr rfl) rfl rfl Ent.drop ⟨rfl, rfl⟩
/-- Where ending's own stand. -/
structure He where
  eo : Nat
  ro : Nat
  sp : Nat
  ch : Nat
  pb : Nat
abbrev ehV (x : Cn) (n : Hn) (e : He) (r r2 : Option Addr) (k c c2 : Nat) : List Value :=
  [.int .i64 x.w, .int .i64 x.c, .int .i64 x.wd, .int .i64 x.sl, .int .i64 x.ca, .int .i64 x.ba, .pointer (some ⟨n.mp, 0, none⟩), .pointer (some ⟨n.ro, 0, none⟩), .pointer (some ⟨n.g, 0, none⟩), .pointer (some ⟨e.eo, 0, none⟩), .pointer (some ⟨n.pb, 0, none⟩), .slice r k c, .pointer (some ⟨n.w, 0, none⟩), .slice r2 k c2]
abbrev ehF (x : Cn) (n : Hn) (e : He) (r r2 : Option Addr) (k c c2 : Nat) (Q : Nat → Who) (S S2 : Nat → SupS) (m m2 : Mm) (G : St) : St :=
  pt (some ⟨n.a, 0, none⟩) (Blk 97 (ehV x n e r r2 k c c2)) :: pt r (Row 47 1 k c (ptrs k fun i => (Q i).u)) :: pt r2 (Row 81 1 k c2 (ptrs k fun i => (Q i).s)) ::
  pt (some ⟨n.mp, 0, none⟩) (MemO m) :: pt (some ⟨n.pb, 0, none⟩) (SkO n.mp x.pool) :: pt (some ⟨n.ro, 0, none⟩) (RoO n.mp n.sp x) :: pt (some ⟨n.sp, 0, none⟩) (SkO n.mp x.spare) :: pt (some ⟨n.g, 0, none⟩) (GrO n.mp x) ::
  pt (some ⟨n.w, 0, none⟩) (RWO x n.rm n.rp n.rs n.re) :: pt (some ⟨n.rm, 0, none⟩) (RMemO m2) :: pt (some ⟨n.rp, 0, none⟩) (RSkO n.rm x.pool) :: pt (some ⟨n.rs, 0, none⟩) (RSkO n.rm x.spare) :: pt (some ⟨n.re, 0, none⟩) (REpO x n.rm) ::
  pt (some ⟨e.eo, 0, none⟩) (EnO n.mp e.ro e.ch) :: pt (some ⟨e.ro, 0, none⟩) (RoO n.mp e.sp x) :: pt (some ⟨e.sp, 0, none⟩) (SkO n.mp x.spare) :: pt (some ⟨e.ch, 0, none⟩) (ChO n.mp e.pb x) :: pt (some ⟨e.pb, 0, none⟩) (SkO n.mp x.pool) ::
  (many k (fun i => whoL n.mp n.w x (Q i) (S i) (S2 i)) ++ G)
set_option maxHeartbeats 4000000 in
theorem enMade {x : Cn} (hx : x.ok) : Fx Tryz.prog 46 [x.v] L (fun v L' => ∃ (n : Hn) (e : He) (r r2 c c2 : Nat) (Q : Nat → Who), v = .pointer (some ⟨n.a, 0, none⟩) ∧
    L' = ehF x n e (some ⟨r, 0, none⟩) (some ⟨r2, 0, none⟩) 3 c c2 Q (fun _ => SupS.nil x.ca) (fun _ => SupS.nil x.ca) (allM x) (allM x) L) := by
  obtain ⟨b1, b2, b3, b4, b5, b6, b7⟩ := hx.b
  have hlen := hx.len_le
  have hl1 : 1 ≤ x.len := by unfold Cn.len; omega
  have hpl := poolM_len x
  have hzl := zeroM_len x
  have hal := allM_len x
  have hroot : x.root + x.sl = x.slot := by unfold Cn.root Cn.slot; omega
  have hslot : x.slot + x.sl = x.link := by unfold Cn.slot Cn.link; omega
  have hzr : zeroRt x (fillM x.spare (fillM x.pool (zeroM x))) x.sl = allM x := by
    refine zeroRt_same (m := allM x) (by rw [hal]; have : x.link ≤ x.len := by unfold Cn.link Cn.len; omega
                                         omega) (fun i hi => ?_) x.sl (Nat.le_refl _)
    exact allM_at hx (by unfold Cn.root; omega) (by unfold Cn.root; omega) (by omega) (by omega)
  refine Fx.mk Tryz.func46 k46 (Nat.le_of_ble_eq_true rfl) ?_
  dsimp only [c46, envOf, Nat.reduceAdd]
  refine Cx.sq ?_
  refine Cx.rg ?_
  refine Sx.bx rfl rfl fun g0 => ?_
  refine go ?_
  refine Sx.ca rfl (layLen (x.w : Int) x.c x.wd x.sl x.ca x.ba hx) ?_
  rintro v L' ⟨rfl, rfl⟩
  rw [x.lenC]
  refine go ?_
  refine Sx.ca rfl (cellsNew x.len hl1 hlen) ?_
  rintro v L' ⟨mp, rfl, rfl⟩
  refine go ?_
  refine Sx.ca rfl (chainNew (mp := mp) (m := zeroM x) hx (by omega)) ?_
  rintro v L' ⟨ch, pb, rfl, rfl⟩
  refine go ?_
  refine Sx.ca rfl (rootsNew (mp := mp) (m := zeroM x) hx (by omega)) ?_
  rintro v L' ⟨ro, sp, rfl, rfl⟩
  refine go ?_
  refine Sx.ca rfl (grantNew (mp := mp) (m := zeroM x) hx (by omega)) ?_
  rintro v L' ⟨g, rfl, rfl⟩
  refine go ?_
  refine Sx.ca rfl (endingNew (mp := mp) (m := zeroM x) hx (by omega)) ?_
  rintro v L' ⟨eo, ro2, sp2, ch2, pb3, rfl, rfl⟩
  refine go ?_
  refine Sx.ca rfl (chainPool (g := ch) (mp := mp) (sb := pb) (x := x)) ?_
  rintro v L' ⟨rfl, rfl⟩
  refine go ?_
  refine Sx.ca rfl (chainFill (g := ch) (mp := mp) (sb := pb) (x := x) (m := zeroM x) (hx.pool (by omega) (by omega))) ?_
  rintro v L' rfl
  refine go ?_
  refine Sx.ca rfl (rootsFill (g := ro) (mp := mp) (sb := sp) (x := x) (m := fillM x.pool (zeroM x)) hx (by rw [fillM_len]; omega)) ?_
  rintro v L' rfl
  rw [hzr]
  refine go ?_
  refine Cx.ordc rfl (by kernel_rfl) ?_
  refine ge ?_
  refine Ev.cakH (by kernel_rfl) rfl rfl (chainPool (g := ch) (mp := mp) (sb := pb) (x := x)) ?_
  refine ge ?_
  refine Ev.caH (by kernel_rfl) rfl rfl (refWNew hx) (.dep rfl (.dep rfl (.keep (fun v L' ⟨_, _, _, _, _, _, e⟩ => by subst e; exact Has.blk) .nil))) ?_
  rintro v L' ⟨w, rm, rp, rs, re, rfl, rfl⟩
  refine ge ?_
  refine Ev.bxH (by kernel_rfl) rfl rfl rfl (Pres.deps (by kernel_rfl)) fun a => ?_
  refine ge ?_
  refine go ?_
  refine Cx.lp (α := {p : Nat × (Nat → Who) × (Option Addr × Nat) × (Option Addr × Nat) // p.1 ≤ 3})
    (fun p => [(1, .pointer (some ⟨g0, 0, none⟩)), (3, .pointer (some ⟨mp, 0, none⟩)), (13, .pointer (some ⟨a, 0, none⟩)), (14, .int .i64 (p.1.1 : Nat))])
    (fun p => pt (some ⟨g0, 0, none⟩) (Blk 24 x.l) :: ehF x ⟨a, mp, ro, sp, g, pb, w, rm, rp, rs, re⟩ ⟨eo, ro2, sp2, ch2, pb3⟩ p.1.2.2.1.1 p.1.2.2.2.1 p.1.1 p.1.2.2.1.2 p.1.2.2.2.2 p.1.2.1 (fun _ => SupS.nil x.ca) (fun _ => SupS.nil x.ca) (allM x) (allM x) L)
    (fun p => 3 - p.1.1) ⟨(0, fun _ => ⟨0, 0, 0⟩, (none, 0), (none, 0)), Nat.zero_le _⟩ (sub.cons rfl (sub.cons rfl (sub.cons rfl (sub.cons rfl sub.nil)))) ?_ ?_
  · dsimp only [ehF]
    rw [many_zero]
    refine Ent.trans (Ent.take (a := some ⟨g0, 0, none⟩)) (Ent.cons ?_)
    refine Ent.trans (Ent.take (a := some ⟨a, 0, none⟩)) (Ent.cons ?_)
    refine Ent.trans (Ent.rownil 81 1) (Ent.trans (Ent.rownil 47 1) (Ent.cons (Ent.cons ?_)))
    simp only [List.nil_append]
    rw [show allM x = fillM x.spare (fillM x.pool (zeroM x)) from rfl]
    exact ent
  rintro ⟨⟨j, Q, ⟨r, c⟩, ⟨r2, c2⟩⟩, hj⟩
  dsimp only [ehF] at hj ⊢
  refine go ?_
  refine Cx.ifp rfl (fun h => ?_) (fun h => ?_)
  · refine go ?_
    refine Sx.ca rfl (supNew (mp := mp) (m := allM x) hx (by omega)) ?_
    rintro v L' ⟨u, pb2, rfl, rfl⟩
    refine go ?_
    refine Sx.bs (sz := 1) rfl rfl fun q => ?_
    refine Sx.ap (ra := r) rfl rfl (Rd.row (b := q) (E := 47) (cap := 1) rfl) rfl (by simp [maxLen]; omega) (by omega) fun r' c' hc => ?_
    refine go ?_
    refine Cx.orde rfl (by kernel_rfl) ?_
    refine ge ?_
    refine Ev.caH (by kernel_rfl) rfl rfl (refSupply (w := w) (rm := rm) (rp := rp) (rs := rs) (re := re) (x := x)) (.dep rfl (.keep (fun v L' ⟨_, _, _, _, e⟩ => by subst e; exact Has.cell rfl) .nil)) ?_
    rintro v L' ⟨s, st, lm, rfl, rfl⟩
    refine ge ?_
    refine Ev.bsH (sz := 1) (by kernel_rfl) rfl rfl rfl (.dep rfl (.keep (fun v L' ⟨_, _, e⟩ => by subst e; exact Has.cell rfl) .nil)) fun q2 => ?_
    refine ge ?_
    refine Ev.apH (ra := r2) (by kernel_rfl) rfl rfl rfl (Rd.row (b := q2) (E := 81) (cap := 1) rfl) rfl (by simp [maxLen]; omega) (by omega) (Pres.deps (by kernel_rfl)) fun r2' c2' hc2 hk2 => ?_
    refine ge ?_
    refine Ev.stbH (b := a) (by kernel_rfl) rfl rfl rfl rfl rfl (by rfl) rfl (Pres.deps (by kernel_rfl)) ?_
    refine ge ?_
    refine go ?_
    rw [w64 (n := (j : Int) + 1) (by omega) (by omega)]
    refine Klp.nm ⟨(j + 1, updQ Q j ⟨u, pb2, s⟩, (r', c'), (r2', c2')), by dsimp only; omega⟩ (sub.cons rfl (sub.cons rfl (sub.cons rfl (sub.cons rfl sub.nil)))) ?_ (by dsimp only; omega)
    have eu : ptrs j (fun i => (updQ Q j ⟨u, pb2, s⟩ i).u) = ptrs j fun i => (Q i).u := ptrs_congr fun i hi => by simp [updQ, show i ≠ j by omega]
    have es : ptrs j (fun i => (updQ Q j ⟨u, pb2, s⟩ i).s) = ptrs j fun i => (Q i).s := ptrs_congr fun i hi => by simp [updQ, show i ≠ j by omega]
    have em : many j (fun i => whoL mp w x (updQ Q j ⟨u, pb2, s⟩ i) (SupS.nil x.ca) (SupS.nil x.ca)) = many j fun i => whoL mp w x (Q i) (SupS.nil x.ca) (SupS.nil x.ca) := many_congr fun i hi => by simp [updQ, show i ≠ j by omega]
    dsimp only [ehF]
    rw [ptrs_succ, ptrs_succ, many_succ, eu, es, em]
    simp only [updQ, if_true, List.append_assoc]
    refine Ent.trans (Ent.take (a := some ⟨g0, 0, none⟩)) (Ent.cons ?_)
    refine Ent.trans (RSupO.close (a := some ⟨s, 0, none⟩) (st := st) (lm := lm) (w := w) (SupS.nil x.ca) rfl rfl rfl) ?_
    iterate 18 (refine Ent.take1 ?_)
    refine Ent.trans ?_ (Ent.deep (N := whoL mp w x ⟨u, pb2, s⟩ (SupS.nil x.ca) (SupS.nil x.ca)))
    simp only [whoL, List.cons_append, List.nil_append]
    exact ent
  · obtain rfl : j = 3 := by omega
    refine Cx.rowkey (a := r) fun _ _ _ hk1 => ?_
    refine Cx.rowkey (a := r2) fun _ _ _ hk2 => ?_
    obtain ⟨ra, rfl⟩ : ∃ g, r = some ⟨g, 0, none⟩ := by
      rcases hk1 with h | h
      · omega
      · exact h
    obtain ⟨rb, rfl⟩ : ∃ g, r2 = some ⟨g, 0, none⟩ := by
      rcases hk2 with h | h
      · omega
      · exact h
    refine go ?_
    exact Kr.one (.inr rfl) rfl Ent.drop ⟨⟨a, mp, ro, sp, g, pb, w, rm, rp, rs, re⟩, ⟨eo, ro2, sp2, ch2, pb3⟩, ra, rb, c, c2, Q, rfl, rfl⟩
end
end Go.Proofs.YtflalhdofhobmaaGreat

/-
  One alone takes: Steps until the end.
-/
set_option linter.unusedVariables false
set_option linter.unusedSimpArgs false
namespace Go.Proofs.YtflalhdofhobmaaGreat
open Go
attribute [local irreducible] Sx Cx Rx Fx Krg Ksq Kbl Klp Kr
/-- So many Steps. -/
def tkIt (k : Sk) (ba : Int) : Nat → Mm × SupS × TakeS → Mm × SupS × TakeS
  | 0, r => r
  | n + 1, r => takeStep k ba (tkIt k ba n r).1 (tkIt k ba n r).2.1 (tkIt k ba n r).2.2
theorem takeStep_len {k : Sk} {ba : Int} {m : Mm} {s : SupS} {t : TakeS} : (takeStep k ba m s t).1.ws.length = m.ws.length := by
  unfold takeStep
  split
  · rfl
  · split
    · dsimp only
      split <;> rfl
    · dsimp only
      have : (popStep k m t.q).2.ws.length = m.ws.length := by
        unfold popStep
        split
        · rfl
        · split
          · split <;> rfl
          · split <;> rfl
          · exact Mm.len_cas
      split <;> exact this
section
variable {L F G : St}
end
end Go.Proofs.YtflalhdofhobmaaGreat

/-
  A Collect, one access at a time.
-/
set_option linter.unusedVariables false
set_option linter.unusedSimpArgs false
namespace Go.Proofs.YtflalhdofhobmaaGreat
/-- A Collect: at: 0: the Advance, 1: the Load of the epoch, 2: the Give. -/
structure ColS where
  at_ : Nat
  a : AdvS
  g : PushS
  done : Bool
def ColS.init : ColS := ⟨0, AdvS.init, ⟨[], 0, 0, true⟩, false⟩
end Go.Proofs.YtflalhdofhobmaaGreat

/-
  One alone takes, gives: what it gets; what is left.
-/
set_option linter.unusedVariables false
set_option linter.unusedSimpArgs false
namespace Go.Proofs.YtflalhdofhobmaaGreat
open Go
attribute [local irreducible] Sx Cx Rx Fx Krg Ksq Kbl Klp Kr
/-- What a Take alone does, with nothing in the limbo. -/
def TakeR (ba : Int) (s : SupS) (l : List Int) (ch : Int) (is_ : Bool) (N : Nat) (s' : SupS) (l' : List Int) : Prop :=
  (s.xs ≠ [] ∧ ch = lastI s.xs ∧ is_ = true ∧ N = 0 ∧ s' = s.kept ∧ l' = l) ∨
  (s.xs = [] ∧ l ≠ [] ∧ ∃ c : Nat, (c : Int) = min ba l.length ∧ ch = l.headD 0 ∧ is_ = true ∧ N = c + 2 ∧ s' = s.give (l.take c).tail ∧ l' = l.drop c) ∨
  (s.xs = [] ∧ l = [] ∧ ch = 0 ∧ is_ = false ∧ N = 1 ∧ s' = s ∧ l' = [])
theorem TakeR.size {ba : Int} {s s' : SupS} {l l' : List Int} {ch : Int} {is_ : Bool} {N : Nat} (h8 : ba ≤ 8) (h : TakeR ba s l ch is_ N s' l') : s'.xs.length ≤ s.xs.length + 8 ∧ s'.lm = s.lm ∧ s'.most = s.most := by
  rcases h with ⟨_, _, _, _, rfl, _⟩ | ⟨h0, _, c, hc, _, _, _, rfl, _⟩ | ⟨_, _, _, _, _, rfl, _⟩
  · exact ⟨by simp [SupS.kept]; omega, rfl, rfl⟩
  · refine ⟨?_, rfl, rfl⟩
    simp only [SupS.give, List.length_append, List.length_tail, List.length_take]
    omega
  · exact ⟨by omega, rfl, rfl⟩
section
variable {L F G : St}
end
end Go.Proofs.YtflalhdofhobmaaGreat

/-
  A Collect alone.
-/
set_option linter.unusedVariables false
set_option linter.unusedSimpArgs false
namespace Go.Proofs.YtflalhdofhobmaaGreat
theorem Pool.congr {k : Sk} {m m' : Mm} {l : List Int} (h : Pool k m l) (h0 : m'.at_ k.head = m.at_ k.head) (hl : ∀ i, i < k.n → m'.at_ (k.links + i) = m.at_ (k.links + i)) : Pool k m' l := by
  refine ⟨?_, h.nd⟩
  rw [h0]
  refine h.c.congr fun x hx => hl _ ?_
  have := h.c.mem x hx
  omega
end Go.Proofs.YtflalhdofhobmaaGreat

/-
  Two memories that agree on some cells: what goes on by these goes on alike.
-/
set_option linter.unusedVariables false
set_option linter.unusedSimpArgs false
namespace Go.Proofs.YtflalhdofhobmaaGreat
structure Agree (A : Nat → Prop) (m m2 : Mm) : Prop where
  len : m2.ws.length = m.ws.length
  n : m2.n = m.n
  at_ : ∀ a, A a → m2.at_ a = m.at_ a
theorem Agree.refl (A : Nat → Prop) (m : Mm) : Agree A m m := ⟨rfl, rfl, fun _ _ => rfl⟩
theorem Agree.tick {A : Nat → Prop} {m m2 : Mm} (h : Agree A m m2) : Agree A m.tick m2.tick := ⟨h.len, congrArg (· + 1) h.n, h.at_⟩
theorem Agree.put {A : Nat → Prop} {m m2 : Mm} (h : Agree A m m2) {i v : Nat} (hi : i < m.ws.length) : Agree A (m.put i v) (m2.put i v) := by
  refine ⟨by rw [Mm.len_put, Mm.len_put, h.len], congrArg (· + 1) h.n, fun a ha => ?_⟩
  rw [Mm.at_put _ (by rw [h.len]; exact hi), Mm.at_put _ hi, h.at_ a ha]
theorem Agree.cas {A : Nat → Prop} {m m2 : Mm} (h : Agree A m m2) {i o v : Nat} (hi : i < m.ws.length) (ha : A i) : Agree A (m.cas i o v) (m2.cas i o v) := by
  unfold Mm.cas
  rw [h.at_ i ha]
  split
  · exact h.put hi
  · exact h.tick
/-- The cells of a stack are among them. -/
structure Covers (A : Nat → Prop) (k : Sk) : Prop where
  h : A k.head
  l : ∀ i, i < k.n → A (k.links + i)
/-- What holds of a Take as it goes on. -/
structure TkOk (k : Sk) (len : Nat) (r : Mm × SupS × TakeS) : Prop where
  m : r.1.ok
  l : r.1.ws.length = len
  t : r.2.2.ok
  q : r.2.2.done = false → r.2.2.at_ = 1 → r.2.2.q.ok k
theorem popStep_mok {k : Sk} {m : Mm} {q : PopS} (hm : m.ok) (hq : q.ok k) (hn : k.n ≤ 4096) : (popStep k m q).2.ok := by
  have hu := hq.u2
  unfold popStep
  (repeat' split) <;> first | exact hm | exact Mm.ok_tick hm | exact Mm.ok_cas hm (nextW_lt hq.w (by omega))
theorem TkOk.step {k : Sk} {ba : Int} {len : Nat} {r : Mm × SupS × TakeS} (hk : k.ok len) (h : TkOk k len r) : TkOk k len (takeStep k ba r.1 r.2.1 r.2.2) := by
  obtain ⟨m, s, t⟩ := r
  have hm := h.m
  have hl := h.l
  simp only at hm hl ⊢
  refine ⟨?_, by rw [takeStep_len]; exact hl, takeStep_ok h.t, ?_⟩
  · unfold takeStep
    split
    · exact hm
    · rename_i hd
      split
      · dsimp only; split <;> exact hm
      · rename_i hne
        have ha := h.t.a
        have := popStep_mok (k := k) (q := t.q) hm (h.q (by simpa using hd) (by simp only at ha; have : t.at_ ≠ 0 := hne; simp only; omega)) hk.n2
        dsimp only; split <;> exact this
  · unfold takeStep
    split
    · exact h.q
    · rename_i hd
      split
      · dsimp only
        split
        · rename_i r' hr
          unfold keepT at hr
          split at hr
          · cases hr
          · cases hr; intro h; cases h
        · exact fun _ _ => PopS.ok_init hk.n1 ba
      · rename_i hne
        have ha := h.t.a
        have hq := popStep_ok (m := m) hk hm (h.q (by simpa using hd) (by simp only at ha; have : t.at_ ≠ 0 := hne; simp only; omega))
        dsimp only
        split
        · intro h
          unfold popped at h
          split at h <;> cases h
        · exact fun _ _ => hq
theorem TkOk.init {k : Sk} {ba : Int} {m : Mm} {s : SupS} (hk : k.ok m.ws.length) (hm : m.ok) : TkOk k m.ws.length (m, takeInit ba s) := by
  refine ⟨hm, rfl, takeInit_ok, ?_⟩
  unfold takeInit keepT
  split
  · rename_i r hr
    split at hr
    · cases hr
    · cases hr; intro h; cases h
  · split
    · intro _ h; cases h
    · exact fun _ _ => PopS.ok_init hk.n1 ba
theorem TkOk.it {k : Sk} {ba : Int} {len : Nat} {r : Mm × SupS × TakeS} (hk : k.ok len) (h : TkOk k len r) : ∀ j, TkOk k len (tkIt k ba j r)
  | 0 => h
  | j + 1 => (TkOk.it hk h j).step hk
def SupS.size (s : SupS) : Nat := s.xs.length + s.lm.size
end Go.Proofs.YtflalhdofhobmaaGreat

/-
  An Alloc alone.
-/
set_option linter.unusedVariables false
set_option linter.unusedSimpArgs false
namespace Go.Proofs.YtflalhdofhobmaaGreat
/-- What holds of an Alloc alone behind each step. -/
structure AlGood (x : Cn) (slot : Nat) (r : Mm × SupS × AlS) : Prop where
  l : r.1.ws.length = x.len
  m : r.1.ok
  k : (rtOf (r.1.at_ (x.root + slot))).ok
  s : r.2.1.xs.length + r.2.1.lm.size ≤ 1000
  m0 : 0 ≤ r.2.1.most
  m2 : r.2.1.most ≤ 64
  a : r.2.2.done = false → AlOk x r.2.2
structure AlRun (x : Cn) (p : AlP) (r : Mm × SupS × AlS) (N : Nat) : Prop where
  good : ∀ j, j ≤ N → AlGood x p.slot (alIt p j r)
  nd : ∀ j, j < N → (alIt p j r).2.2.done = false
  d : (alIt p N r).2.2.done = true
theorem giveInit_nil (k : Sk) : giveInit k [] = PushS.init [] := giveInit_yes ⟨List.nodup_nil, fun _ h => (by cases h)⟩
section
variable {x : Cn} {slot : Nat} {gen : Int} {n : Nat} {m : Mm} {S : SupS}
end
end Go.Proofs.YtflalhdofhobmaaGreat

/-
  An Alloc alone that takes a chunk, or finds none.
-/
set_option linter.unusedVariables false
set_option linter.unusedSimpArgs false
namespace Go.Proofs.YtflalhdofhobmaaGreat
section
variable {x : Cn} {slot : Nat} {gen : Int} {n : Nat} {m : Mm} {S : SupS}
end
end Go.Proofs.YtflalhdofhobmaaGreat

/-
  An Alloc alone that takes a chunk out of the pool.
-/
set_option linter.unusedVariables false
set_option linter.unusedSimpArgs false
namespace Go.Proofs.YtflalhdofhobmaaGreat
section
variable {x : Cn} {slot : Nat} {gen : Int} {n : Nat} {m : Mm} {S : SupS}
end
end Go.Proofs.YtflalhdofhobmaaGreat

/-
  grant's statements: a region by one alone; an Alloc by one alone.
-/
set_option linter.unusedVariables false
set_option linter.unusedSimpArgs false
namespace Go.Proofs.YtflalhdofhobmaaGreat
open Go
attribute [local irreducible] Sx Cx Rx Fx Krg Ksq Kbl Klp Kr
theorem crStep_ok {k : Sk} {ro cl len : Nat} {m : Mm} {c : CreS} (hk : k.ok len) (hm : m.ok) (hcl : cl ≤ 3) (h : c.ok k) (hn : c.cnt + 1 ≤ 1000000) : (crStep k ro cl m c).1.ok k ∧ (crStep k ro cl m c).2.ok ∧ (crStep k ro cl m c).2.ws.length = m.ws.length ∧ (crStep k ro cl m c).1.cnt ≤ c.cnt + 1 := by
  obtain ⟨h1, h2, h3, h4, h5⟩ := h
  have hq := popStep_ok hk hm h2
  have hpm := popStep_mem hk hm h2
  unfold crStep
  split
  · exact ⟨⟨h1, h2, h3, h4, h5⟩, hm, rfl, by show c.cnt ≤ c.cnt + 1; omega⟩
  · split
    · rename_i ha
      split
      · unfold crPopped
        split
        · exact ⟨⟨by show c.at_ ≤ 2; omega, hq, h3, fun h => absurd ha h, hn⟩, hpm.1, hpm.2, Nat.le_refl _⟩
        · rename_i s l hg
          exact ⟨⟨by show 1 ≤ 2; omega, hq, h3, fun _ => hq.g s (by dsimp only at hg; rw [hg]; simp), hn⟩, hpm.1, hpm.2, Nat.le_refl _⟩
      · exact ⟨⟨h1, hq, h3, fun h => absurd ha h, hn⟩, hpm.1, hpm.2, Nat.le_refl _⟩
    · rename_i ha
      exact ⟨⟨by show 2 ≤ 2; omega, h2, Mm.at_lt hm _, fun _ => h4 (by omega), hn⟩, hm, rfl, Nat.le_refl _⟩
    · rename_i ha _
      exact ⟨⟨h1, h2, h3, h4, hn⟩, Mm.ok_put hm (Rt.w_lt (nextRt_ok h3 hcl)), Mm.len_put, Nat.le_refl _⟩
theorem crIt_ok {k : Sk} {ro cl len : Nat} {m : Mm} (hk : k.ok len) (hm : m.ok) (hcl : cl ≤ 3) : ∀ j, j ≤ 100000 → (crIt k ro cl j (CreS.init, m)).1.ok k ∧ (crIt k ro cl j (CreS.init, m)).2.ok ∧ (crIt k ro cl j (CreS.init, m)).2.ws.length = m.ws.length ∧ (crIt k ro cl j (CreS.init, m)).1.cnt ≤ j
  | 0, _ => ⟨⟨by show 0 ≤ 2; omega, PopS.ok_init hk.n1 1, by show 0 < 18446744073709551616; omega, fun h => absurd rfl h, by show 0 ≤ 1000000; omega⟩, hm, rfl, Nat.le_refl _⟩
  | j + 1, hj => by
    obtain ⟨a, b, c, d⟩ := crIt_ok hk hm hcl j (by omega)
    have := crStep_ok (ro := ro) hk b hcl a (by omega)
    exact ⟨this.1, this.2.1, this.2.2.1.trans c, by have := this.2.2.2; show (crStep k ro cl (crIt k ro cl j (CreS.init, m)).2 (crIt k ro cl j (CreS.init, m)).1).1.cnt ≤ j + 1; omega⟩
section
variable {L F G : St}
end
end Go.Proofs.YtflalhdofhobmaaGreat

/-
  grant's statements: the chapter's example.
-/
set_option linter.unusedVariables false
set_option linter.unusedSimpArgs false
namespace Go.Proofs.YtflalhdofhobmaaGreat
open Go
attribute [local irreducible] Sx Cx Rx Fx Krg Ksq Kbl Klp Kr
/-- What a region made by one alone, first of all, leaves behind. -/
theorem region0 {x : Cn} (hx : x.ok) (cl : Nat) (hcl : cl ≤ 3) : ∃ M, (crIt x.spare x.root cl 10 (CreS.init, allM x)).2 = M ∧ M.n = 5 ∧ M.ws.length = x.len ∧ M.ok ∧ Pool x.pool M (iotaI x.c) ∧ rtOf (M.at_ (x.root + 0)) = ⟨1, 1, cl, 0⟩ ∧ (∀ a, a ≠ 1 → a ≠ x.root → M.at_ a = (allM x).at_ a) ∧
    Pool x.spare (allM x) (((0 : Nat) : Int) :: (iotaI x.sl).tail) ∧ laterT (rtOf ((allM x).at_ (x.root + 0))).gen = 1 := by
  obtain ⟨b1, b2, b3, b4, b5, b6, b7⟩ := hx.b
  have hlen := hx.len_le
  have hl := allM_len x
  have hk := hx.spare (n := (allM x).ws.length) (by omega) (by omega)
  have hroot : x.root + x.sl = x.slot := by unfold Cn.root Cn.slot; omega
  have hslot : x.slot + x.sl = x.link := by unfold Cn.slot Cn.link; omega
  have g3 : 3 ≤ x.root := by unfold Cn.root; omega
  have hsp := allM_spare hx
  have hio : iotaI x.sl = ((0 : Nat) : Int) :: (iotaI x.sl).tail := by
    have h0 := iota_get (n := x.sl) (i := 0) (by omega)
    have hl0 : (iotaI x.sl).length = x.sl := by simp [iotaI]
    cases he : iotaI x.sl with
    | nil => rw [he] at hl0; simp at hl0; omega
    | cons z l => rw [he] at h0; simp only [itI, List.getD_cons_zero] at h0; rw [h0]; rfl
  rw [hio] at hsp
  have h0 : (allM x).at_ (x.root + 0) = 0 := allM_at hx (by omega) (by omega) (by omega) (by omega)
  have hroot0 : (allM x).at_ (x.root + 0) < 18446744073709551616 := by omega
  obtain ⟨C, M, e10, _, _, _, _, _, hn, hml, hmo, _, hrv, hoth⟩ := cr_alone (k := x.spare) (ro := x.root) (cl := cl) (m := allM x) hk rfl (allM_ok hx) hsp (by show x.root + x.sl ≤ x.slot; omega) (by show 1 < x.root; omega) hcl
  rw [Int.toNat_natCast] at hrv hoth
  refine ⟨M, by rw [e10], ?_, hml.trans hl, hmo, ?_, ?_, fun a ha hb => hoth a ha (by omega), hsp, by rw [h0]; rfl⟩
  · rw [hn]; unfold allM poolM; rw [fillM_n, fillM_n]; rfl
  · have hp := allM_pool hx
    refine ⟨?_, hp.nd⟩
    rw [hoth _ (by show (0 : Nat) ≠ 1; omega) (by show 0 ≠ x.root + 0; omega)]
    refine hp.c.congr fun z hz => ?_
    have hz2 := hp.c.mem z hz
    exact hoth _ (by show x.link + z.toNat ≠ 1; omega) (by show x.link + z.toNat ≠ x.root + 0; omega)
  · rw [hrv, rtOf_w (nextRt_ok hroot0 hcl), h0]; rfl
section
variable {L F G : St}
end
end Go.Proofs.YtflalhdofhobmaaGreat

/-
  ending's statements: a region without objects; a Free by one alone.
-/
set_option linter.unusedVariables false
set_option linter.unusedSimpArgs false
namespace Go.Proofs.YtflalhdofhobmaaGreat
open Go
attribute [local irreducible] Sx Cx Rx Fx Krg Ksq Kbl Klp Kr
section
variable {L F G : St}
abbrev rhF (x : Cn) (n : Hn) (e : He) (r r2 : Option Addr) (k c c2 : Nat) (m : Mm) (G : St) : St :=
  pt (some ⟨n.a, 0, none⟩) (Blk 97 (ehV x n e r r2 k c c2)) :: pt (some ⟨n.mp, 0, none⟩) (MemO m) :: pt (some ⟨n.ro, 0, none⟩) (RoO n.mp n.sp x) :: pt (some ⟨n.sp, 0, none⟩) (SkO n.mp x.spare) ::
  pt (some ⟨n.rm, 0, none⟩) (RMemO m) :: pt (some ⟨n.w, 0, none⟩) (RWO x n.rm n.rp n.rs n.re) :: pt (some ⟨n.rs, 0, none⟩) (RSkO n.rm x.spare) :: G
set_option maxHeartbeats 4000000 in
theorem enRegion0 {x : Cn} {n : Hn} {e : He} {r r2 : Option Addr} {k c c2 : Nat} {m : Mm} (who words : Int) (hx : x.ok) (hl : m.ws.length = x.len) (hm : m.ok) {s : Nat} {l : List Int} (hp : Pool x.spare m ((s : Int) :: l)) :
    Fx Tryz.prog 54 [.pointer (some ⟨n.a, 0, none⟩), .int .i64 who, .int .i64 0, .int .i64 words] (rhF x n e r r2 k c c2 m G)
      (fun v L' => v = .tuple #[.int .i64 s, .int .i64 (laterT (rtOf (m.at_ (x.root + s))).gen : Nat), .bool true] ∧ L' = rhF x n e r r2 k c c2 (crIt x.spare x.root 0 10 (CreS.init, m)).2 G) := by
  have hlen := hx.len_le
  have hk := hx.spare (n := m.ws.length) (by omega) (by omega)
  have hroot : x.root + x.sl = x.slot := by unfold Cn.root Cn.slot; omega
  obtain ⟨C, M, e10, hd, hcode, hslot, hat, hwas, _⟩ := cr_alone (k := x.spare) (ro := x.root) (cl := 0) (m := m) hk rfl hm hp (by show x.root + x.sl ≤ x.slot; omega) (by show 1 < x.root; unfold Cn.root; omega) (by omega)
  rw [Int.toNat_natCast] at hwas
  refine Fx.mk Tryz.func54 k54 (Nat.le_of_ble_eq_true rfl) ?_
  dsimp only [c54, envOf, Nat.reduceAdd]
  refine go ?_
  refine Cx.ordc rfl (by kernel_rfl) ?_
  refine ge ?_
  iterate 4 (refine Ev.bring 1 rfl ?_; refine ge ?_)
  refine Ev.caH (by kernel_rfl) rfl rfl (rootsCreate (g := n.ro) (mp := n.mp) (sb := n.sp) (x := x) 0 (by omega) hx) (.keep (fun v L' ⟨_, _, e⟩ => by subst e; exact Has.cell rfl) (.dep rfl .nil)) ?_
  rintro v L' ⟨b, rfl, rfl⟩
  refine ge ?_
  refine Ev.caH (by kernel_rfl) rfl rfl (refCreate (w := n.w) (rm := n.rm) (rp := n.rp) (rs := n.rs) (re := n.re) (x := x) 0 (by omega)) (Pres.deps (by kernel_rfl)) ?_
  rintro v L' ⟨bb, rfl, rfl⟩
  refine ge ?_
  refine go ?_
  refine Cx.lp (α := {j : Nat // j ≤ 10}) (fun j => [(0, .pointer (some ⟨n.a, 0, none⟩)), (2, .int .i64 0), (11, .pointer (some ⟨b, 0, none⟩)), (12, .pointer (some ⟨bb, 0, none⟩)), (13, .int .i64 j.1)])
    (fun j => pt (some ⟨b, 0, none⟩) (CreO n.ro n.sp x.spare 0 (crIt x.spare x.root 0 j.1 (CreS.init, m)).1) :: pt (some ⟨bb, 0, none⟩) (RCreO n.w n.rs 0 (crIt x.spare x.root 0 j.1 (CreS.init, m)).1) :: rhF x n e r r2 k c c2 (crIt x.spare x.root 0 j.1 (CreS.init, m)).2 G)
    (fun j => 10 - j.1) ⟨0, by omega⟩ (sub.cons rfl (sub.cons rfl (sub.cons rfl (sub.cons rfl (sub.cons rfl sub.nil))))) ?_ ?_
  · dsimp only [rhF, crIt]
    exact ent
  rintro ⟨j, hj⟩
  dsimp only [rhF]
  obtain ⟨k1, k2, k3, k4⟩ := crIt_ok (ro := x.root) (cl := 0) (m := m) hk hm (by omega) j (by omega)
  refine go ?_
  refine Cx.ifp rfl (fun h => ?_) (fun h => ?_)
  · refine go ?_
    refine Sx.ca rfl (crStepC (b := b) (r := n.ro) (mp := n.mp) (sp := n.sp) (x := x) (m := (crIt x.spare x.root 0 j (CreS.init, m)).2) (cl := 0) (c := (crIt x.spare x.root 0 j (CreS.init, m)).1) hx (by omega) (by omega) k1) ?_
    rintro v L' ⟨rfl, rfl⟩
    refine go ?_
    refine Sx.ca rfl (refCrStep (b := bb) (w := n.w) (rm := n.rm) (rp := n.rp) (rs := n.rs) (re := n.re) (x := x) (m := (crIt x.spare x.root 0 j (CreS.init, m)).2) (cl := 0) (c := (crIt x.spare x.root 0 j (CreS.init, m)).1) hx (by omega) (by omega) k1) ?_
    rintro v L' ⟨rfl, rfl⟩
    refine go ?_
    rw [w64 (n := (j : Int) + 1) (by omega) (by omega)]
    refine Klp.nm ⟨j + 1, by omega⟩ (sub.cons rfl (sub.cons rfl (sub.cons rfl (sub.cons rfl (sub.cons rfl sub.nil))))) ?_ (by dsimp only; omega)
    dsimp only [rhF, crIt]
    refine Ent.trans (Ent.take (a := some ⟨b, 0, none⟩)) (Ent.cons ?_)
    exact ent
  · obtain rfl : j = 10 := by omega
    rw [e10]
    dsimp only
    refine go ?_
    refine Sx.ca rfl (crRegion (b := b) (r := n.ro) (sp := n.sp) (k := x.spare) (cl := 0) (c := C) hd hat hcode) ?_
    rintro v L' ⟨rfl, rfl⟩
    rw [hslot, hwas]
    refine go ?_
    refine Sx.ca rfl (crDone (b := b) (r := n.ro) (sp := n.sp) (k := x.spare) (cl := 0) (c := C) hd) ?_
    rintro v L' ⟨rfl, rfl⟩
    refine go ?_
    refine Sx.ca rfl (crCode (b := b) (r := n.ro) (sp := n.sp) (k := x.spare) (cl := 0) (c := C) hd) ?_
    rintro v L' ⟨rfl, rfl⟩
    rw [hcode]
    refine go ?_
    refine Sx.ent (Ent.take (a := some ⟨bb, 0, none⟩)) ?_
    refine Sx.openp (a := some ⟨bb, 0, none⟩) rfl ?_
    intro p
    have er : C.rslot = s := by unfold CreS.rslot; rw [if_neg (by omega), hslot]
    have eg : C.rgen = laterT (rtOf (m.at_ (x.root + s))).gen := by unfold CreS.rgen; rw [if_pos ⟨hd, hat⟩, hwas]
    simp only [rcrL, List.cons_append, List.nil_append, er, eg, hd, hcode]
    refine go ?_
    refine Sx.gyes rfl (by simp) ?_
    refine go ?_
    refine Cx.cno rfl (by simp) ?_
    refine go ?_
    refine Cx.lp (α := Unit) (fun _ => [(14, .int .i64 (s : Nat)), (15, .int .i64 (laterT (rtOf (m.at_ (x.root + s))).gen : Nat)), (2, .int .i64 0), (16, .int .i64 0)])
      (fun _ => rhF x n e r r2 k c c2 M G) (fun _ => 0) () (sub.cons rfl (sub.cons rfl (sub.cons rfl (sub.cons rfl sub.nil)))) ?_ ?_
    · dsimp only [rhF]
      refine Ent.trans Ent.drop ?_
      exact ent
    rintro ⟨⟩
    refine go ?_
    refine Kr.three (.inr rfl) rfl rfl rfl (Ent.refl _) ⟨rfl, rfl⟩
abbrev frH (n : Hn) (e : He) (Q : Nat → Who) (i : Nat) : FrH := ⟨e.eo, (Q i).u, n.mp, e.ro, e.sp, e.ch, (Q i).pb⟩
abbrev fgF (x : Cn) (n : Hn) (e : He) (r : Nat) (r2 : Option Addr) (k c c2 : Nat) (Q : Nat → Who) (i : Nat) (S : SupS) (m : Mm) (G : St) : St :=
  pt (some ⟨n.a, 0, none⟩) (Blk 97 (ehV x n e (some ⟨r, 0, none⟩) r2 k c c2)) :: pt (some ⟨r, 0, none⟩) (Row 47 1 k c (ptrs k fun i => (Q i).u)) :: pt (some ⟨(Q i).u, 0, none⟩) (SupO n.mp (Q i).pb x S) ::
  pt (some ⟨n.mp, 0, none⟩) (MemO m) :: pt (some ⟨(Q i).pb, 0, none⟩) (SkO n.mp x.pool) :: pt (some ⟨e.eo, 0, none⟩) (EnO n.mp e.ro e.ch) :: pt (some ⟨e.ro, 0, none⟩) (RoO n.mp e.sp x) :: pt (some ⟨e.sp, 0, none⟩) (SkO n.mp x.spare) :: pt (some ⟨e.ch, 0, none⟩) (ChO n.mp e.pb x) :: G
/-- What holds of a Free alone behind each step. -/
structure FrGood (x : Cn) (slot : Nat) (r : Mm × SupS × FrS) : Prop where
  l : r.1.ws.length = x.len
  m : r.1.ok
  s : r.2.1.xs.length + r.2.1.lm.size ≤ 1000
  m0 : 0 ≤ r.2.1.most
  m2 : r.2.1.most ≤ 64
  a : r.2.2.done = false → FrOk x r.2.2
structure FrRun (x : Cn) (p : FrP) (r : Mm × SupS × FrS) (N : Nat) : Prop where
  good : ∀ j, j ≤ N → FrGood x p.slot (frIt p j r)
  nd : ∀ j, j < N → (frIt p j r).2.2.done = false
  d : (frIt p N r).2.2.done = true
set_option maxHeartbeats 4000000 in
/-- A Free by one alone. -/
theorem enFrees {x : Cn} {n : Hn} {e : He} {r : Nat} {r2 : Option Addr} {k c c2 : Nat} {Q : Nat → Who} {i : Nat} {S : SupS} {m : Mm} {slot : Nat} {gen : Int} (N : Nat) (hN : N < 400) (hi : i < k) (hk : k ≤ 64) (hx : x.ok) (hs : slot < x.sl) (hr : FrRun x (x.fr slot gen) (m, S, FrS.init) N) :
    Fx Tryz.prog 49 [.pointer (some ⟨n.a, 0, none⟩), .int .i64 i, .int .i64 slot, .int .i64 gen] (fgF x n e r r2 k c c2 Q i S m G)
      (fun v L' => ∃ b, v = .tuple #[.pointer (some ⟨b, 0, none⟩), .int .i64 N] ∧ L' = pt (some ⟨b, 0, none⟩) (FrO (frH n e Q i) x slot gen (frIt (x.fr slot gen) N (m, S, FrS.init)).2.2) ::
        fgF x n e r r2 k c c2 Q i (frIt (x.fr slot gen) N (m, S, FrS.init)).2.1 (frIt (x.fr slot gen) N (m, S, FrS.init)).1 G) := by
  obtain ⟨hgood, hnd, hd⟩ := hr
  refine Fx.mk Tryz.func49 k49 (Nat.le_of_ble_eq_true rfl) ?_
  dsimp only [c49, envOf, Nat.reduceAdd]
  refine go ?_
  refine Cx.ordc rfl (by kernel_rfl) ?_
  refine ge ?_
  refine Ev.ldrH (b := r) (v := .pointer (some ⟨(Q i).u, 0, none⟩)) (by kernel_rfl) rfl rfl (by rw [show 0 + (i : Int).toNat * 1 = i by omega]; exact ptrs_get (U := fun i => (Q i).u) hi) ?_
  refine ge ?_
  refine Ev.caH (by kernel_rfl) rfl rfl (endsFree (h := frH n e Q i) (x := x) slot gen hs) (Pres.deps (by kernel_rfl)) ?_
  rintro v L' ⟨b, rfl, rfl⟩
  refine ge ?_
  refine go ?_
  refine Cx.lp (α := {j : Nat // j ≤ N}) (fun j => [(10, .pointer (some ⟨b, 0, none⟩)), (12, .int .i64 j.1), (13, .int .i64 j.1)])
    (fun j => pt (some ⟨b, 0, none⟩) (FrO (frH n e Q i) x slot gen (frIt (x.fr slot gen) j.1 (m, S, FrS.init)).2.2) :: fgF x n e r r2 k c c2 Q i (frIt (x.fr slot gen) j.1 (m, S, FrS.init)).2.1 (frIt (x.fr slot gen) j.1 (m, S, FrS.init)).1 G)
    (fun j => N - j.1) ⟨0, by omega⟩ (sub.cons rfl (sub.cons rfl (sub.cons rfl sub.nil))) ?_ ?_
  · dsimp only [fgF, frIt]
    exact ent
  rintro ⟨j, hj⟩
  dsimp only [fgF]
  obtain ⟨g1, g2, g3, g4, g5, g6⟩ := hgood j hj
  repeat' (first|refine Zo0 rfl ?_|refine Zo1 ?_|refine Zo2 ?_|refine Zo3 ?_|refine Zo4 ?_|refine Zo5 ?_|refine Zo6 ?_|refine Zo7 ?_|refine Zo8 rfl ?_|refine Zo9 rfl ?_|refine Zoa ?_|refine Zob ?_|refine Zoc ?_|refine Zod ?_|refine Zoe ?_|refine Zof ?_|refine Zog ?_|refine Zoh ?_|refine Zom rfl (by rfl) ?_|refine Zon rfl rfl ?_|refine Zoo rfl rfl rfl rfl (by rfl) (by rfl) ?_|refine Zop rfl trivial ?_|refine Zoq rfl rfl rfl ?_)
  rw [decide_eq_true (show (j : Int) < 400 by omega)]
  refine go ?_
  refine Sx.ca rfl (frStepC (b := b) (h := frH n e Q i) (x := x) (slot := slot) (gen := gen) (S := (frIt (x.fr slot gen) j (m, S, FrS.init)).2.1) (m := (frIt (x.fr slot gen) j (m, S, FrS.init)).1) (f := (frIt (x.fr slot gen) j (m, S, FrS.init)).2.2) (pb2 := e.pb) hx (by omega) hs g3 g4 g5 g6) ?_
  rintro v L' ⟨rfl, rfl⟩
  by_cases hjn : j = N
  · subst hjn
    have ee : frStep (x.fr slot gen) (frIt (x.fr slot gen) j (m, S, FrS.init)).1 (frIt (x.fr slot gen) j (m, S, FrS.init)).2.1 (frIt (x.fr slot gen) j (m, S, FrS.init)).2.2 = frIt (x.fr slot gen) j (m, S, FrS.init) := by
      unfold frStep; rw [if_pos hd]
    rw [hd, ee]
    refine go ?_
    refine Kr.two (.inr rfl) rfl rfl ?_ ⟨b, rfl, rfl⟩
    exact ent
  · rw [hnd j (by omega)]
    refine go ?_
    rw [w64 (n := (j : Int) + 1) (by omega) (by omega)]
    refine Klp.nm ⟨j + 1, by omega⟩ (sub.cons rfl (sub.cons rfl (sub.cons rfl sub.nil))) ?_ (by dsimp only; omega)
    dsimp only [fgF, frIt]
    exact ent
end
end Go.Proofs.YtflalhdofhobmaaGreat
