/-
  Parts of the proof, merged: what the statement leans on.
-/
import Derived.Test.YtggnbdeokmdjbaaGreatZIaC
set_option linter.unusedVariables false
set_option linter.unusedSimpArgs false

namespace Go.Proofs.YtggnbdeokmdjbaaGreat
def Lm.all (m : Lm) : List Int := m.x0 ++ (m.x1 ++ m.x2)
theorem all_len (m : Lm) : m.all.length = m.size := by unfold Lm.all Lm.size; simp only [List.length_append]; omega
theorem all_ready (now : Int) (m : Lm) (y : Int) : (readyAll now m).1.count y + (readyAll now m).2.all.count y = m.all.count y := by
 by_cases h : 2 ≤ now
 ·obtain ⟨h1, h2⟩ := readyAll_spec (m := m) h
  rw [h1, h2.count_eq]
  unfold Lm.all closeAll opened
  simp only [List.count_append]
  split <;> split <;> split <;> simp <;> omega
 ·unfold readyAll
  rw [if_neg h]
  exact Nat.zero_add _
theorem all_retire (m : Lm) (tag : Int) (ys : List Int) (y : Int) : (retireM m tag ys).all.count y + (outM m tag).count y = m.all.count y + ys.count y := by
 have hlt : bucketOf tag < 3 := Nat.mod_lt _ (by omega)
 unfold retireM outM
 generalize bucketOf tag = q at *
 rcases (show q = 0 ∨ q = 1 ∨ q = 2 by omega) with rfl | rfl | rfl <;> simp only [Lm.put, Lm.all, Lm.items, Lm.tag, List.count_append] <;> split <;> simp <;> omega
theorem count_dropLast {l : List Int} (h : l ≠ []) (y : Int) : l.dropLast.count y + [lastI l].count y = l.count y := by
 have e : l.dropLast ++ [lastI l] = l := by
  have := List.dropLast_concat_getLast h
  have e2 : lastI l = l.getLast h := by unfold lastI; rw [List.getLastD_eq_getLast?, List.getLast?_eq_some_getLast h]; rfl
  rw [e2]; exact this
 rw [← List.count_append, e]
structure Sw where
 s : SupS
 l : List Int
 tag : Int
 k : Nat
 t : TakeS
 g : PushS
def Sw.own (w : Sw) : List Int := w.s.xs ++ (w.s.lm.all ++ (w.l ++ (if w.k = 2 then w.g.l else [])))
structure SwI (x : Cn) (m : Mm) (P : List Int) (w : Sw) : Prop where
 m0 : 0 ≤ w.s.most
 m2 : w.s.most ≤ 64
 k : w.k ≤ 2
 tk : w.k = 1 → w.t.done = false ∧ w.t.chunk = 0 ∧ w.t.is_ = false ∧ (w.t.at_ = 0 ∨ (w.t.at_ = 1 ∧ w.t.q.ok x.pool ∧ w.t.q.done = false ∧ PopH x.pool m P w.t.q))
 gv : w.k = 2 → w.g.ok x.pool ∧ w.g.done = false ∧ PushH x.pool m w.g
def updG {α : Type} (f : Nat → α) (i : Nat) (v : α) : Nat → α := fun j => if j = i then v else f j
theorem updG_at {α : Type} (f : Nat → α) (i : Nat) (v : α) : updG f i v i = v := if_pos rfl
theorem updG_ne {α : Type} {f : Nat → α} {i j : Nat} {v : α} (h : j ≠ i) : updG f i v j = f j := if_neg h
def ownC (ws : Nat → Sw) (y : Int) : Nat := (ws 0).own.count y + (ws 1).own.count y + (ws 2).own.count y
theorem ownC_upd {ws : Nat → Sw} {i : Nat} {w : Sw} (hi : i < 3) (y : Int) : ownC (updG ws i w) y + (ws i).own.count y = ownC ws y + w.own.count y := by
 rcases (show i = 0 ∨ i = 1 ∨ i = 2 by omega) with rfl | rfl | rfl
 ·show w.own.count y + _ + _ + _ = _; unfold ownC; show w.own.count y + (ws 1).own.count y + (ws 2).own.count y + _ = _; omega
 ·unfold ownC; show (ws 0).own.count y + w.own.count y + (ws 2).own.count y + _ = _; omega
 ·unfold ownC; show (ws 0).own.count y + (ws 1).own.count y + w.own.count y + _ = _; omega
theorem ownC_two {ws : Nat → Sw} {i j : Nat} (hi : i < 3) (hj : j < 3) (h : j ≠ i) (y : Int) : (ws i).own.count y + (ws j).own.count y ≤ ownC ws y := by
 unfold ownC
 rcases (show i = 0 ∨ i = 1 ∨ i = 2 by omega) with rfl | rfl | rfl <;> rcases (show j = 0 ∨ j = 1 ∨ j = 2 by omega) with rfl | rfl | rfl <;> omega
theorem ownC_one {ws : Nat → Sw} {i : Nat} (hi : i < 3) (y : Int) : (ws i).own.count y ≤ ownC ws y := by
 unfold ownC
 rcases (show i = 0 ∨ i = 1 ∨ i = 2 by omega) with rfl | rfl | rfl <;> omega
structure SpI (x : Cn) (m : Mm) (ws : Nat → Sw) (P : List Int) (T : Nat) : Prop where
 len : m.ws.length = x.len
 ok : m.ok
 pool : Pool x.pool m P
 tag : hdT (m.at_ x.pool.head) ≤ T + 10
 one : ∀ y, P.count y + ownC ws y ≤ 1
 rng : ∀ y, 0 < P.count y + ownC ws y → 0 ≤ y ∧ y < (x.c : Int)
 wk : ∀ i, i < 3 → SwI x m P (ws i)
section
variable {x : Cn} {T i : Nat} {m m' : Mm} {ws : Nat → Sw} {P P' : List Int} {w' : Sw}
theorem SpI.rngw (h : SpI x m ws P T) (hi : i < 3) : ∀ y ∈ (ws i).own, 0 ≤ y ∧ y < (x.c : Int) := fun y hy => h.rng y (by
 have := List.count_pos_iff.2 hy; have := ownC_one (ws := ws) hi y; omega)
theorem SpI.onew (h : SpI x m ws P T) (hi : i < 3) (y : Int) : P.count y + (ws i).own.count y ≤ 1 := by
 have := h.one y; have := ownC_one (ws := ws) hi y; omega
theorem SpI.ndw (h : SpI x m ws P T) (hi : i < 3) : (ws i).own.Nodup := List.nodup_iff_count.2 fun y => by have := h.onew hi y; omega
theorem SpI.lenw (h : SpI x m ws P T) (hi : i < 3) : (ws i).own.length ≤ x.c := length_nodup x.c _ (h.ndw hi) fun y hy => h.rngw hi y hy
theorem SpI.bounds (h : SpI x m ws P T) (hi : i < 3) : (ws i).s.xs.length + (ws i).s.lm.size + (ws i).l.length ≤ x.c := by
 have := h.lenw hi
 unfold Sw.own at this
 rw [List.length_append, List.length_append, List.length_append, all_len] at this
 omega
theorem SpI.upd (h : SpI x m ws P T) (hi : i < 3) (hlen : m'.ws.length = x.len) (hok : m'.ok) (hpool : Pool x.pool m' P') (hgo : HeadGoes x.pool m m' P P') (htag : hdT (m'.at_ x.pool.head) ≤ hdT (m.at_ x.pool.head) + 1)
  (hcnt : ∀ y, P'.count y + w'.own.count y = P.count y + (ws i).own.count y) (hfr : ∀ z : Int, 0 ≤ z → z ∉ (ws i).own → z < (x.c : Int) → m'.at_ (x.link + z.toNat) = m.at_ (x.link + z.toNat)) (hw : SwI x m' P' w') : SpI x m' (updG ws i w') P' (T + 1) := by
 have hc : ∀ y, P'.count y + ownC (updG ws i w') y = P.count y + ownC ws y := fun y => by
  have := hcnt y; have := ownC_upd (ws := ws) (w := w') hi y; have := ownC_one (ws := ws) hi y; omega
 refine ⟨hlen, hok, hpool, by have := h.tag; omega, fun y => by rw [hc]; exact h.one y, fun y hy => h.rng y (by rw [← hc]; exact hy), fun j hj => ?_⟩
 by_cases hji : j = i
 ·subst hji; rw [updG_at]; exact hw
 ·rw [updG_ne hji]
  have hu := h.wk j hj
  refine ⟨hu.m0, hu.m2, hu.k, fun h1 => ?_, fun h2 => ?_⟩
  ·obtain ⟨t1, t2, t3, t4⟩ := hu.tk h1
   exact ⟨t1, t2, t3, t4.imp id fun ⟨a, b, c, d⟩ => ⟨a, b, c, d.frame hgo⟩⟩
  ·obtain ⟨t1, t2, t3⟩ := hu.gv h2
   refine ⟨t1, t2, t3.frame hgo (fun z hz => ?_) t1.ne⟩
   have hzo : z ∈ (ws j).own := by
    unfold Sw.own; rw [if_pos h2]
    exact List.mem_append_right _ (List.mem_append_right _ (List.mem_append_right _ hz))
   have hr := h.rngw hj z hzo
   refine hfr z hr.1 (fun hzi => ?_) hr.2
   have h1 := List.count_pos_iff.2 hzo
   have h3 := List.count_pos_iff.2 hzi
   have h4 := ownC_two (ws := ws) hi hj hji z
   have h5 := h.one z
   omega
theorem SpI.still (h : SpI x m ws P T) (hi : i < 3) (hlen : m'.ws.length = x.len) (hok : m'.ok) (hat : ∀ a, a ≠ 2 → m'.at_ a = m.at_ a) (hg2 : 3 ≤ x.link) (hcnt : ∀ y, w'.own.count y = (ws i).own.count y) (hw : SwI x m' P w') : SpI x m' (updG ws i w') P (T + 1) := by
 have h0 : m'.at_ x.pool.head = m.at_ x.pool.head := hat _ (by show (0 : Nat) ≠ 2; omega)
 refine h.upd hi hlen hok ⟨?_, h.pool.nd⟩ (.inl ⟨h0, rfl⟩) (by rw [h0]; omega) (fun y => by rw [hcnt]) (fun z _ _ _ => hat _ (by omega)) hw
 rw [h0]
 exact h.pool.c.congr fun z _ => hat _ (by show x.link + z.toNat ≠ 2; omega)
theorem Cn.link3 (x : Cn) : 3 ≤ x.link := by unfold Cn.link; omega
def takeN (x : Cn) (w : Sw) : Sw := if (takeInit x.ba w.s).2.done then { w with s := (takeInit x.ba w.s).1, l := w.l ++ [(takeInit x.ba w.s).2.chunk], k := 0, t := (takeInit x.ba w.s).2 } else { w with s := (takeInit x.ba w.s).1, k := 1, t := (takeInit x.ba w.s).2 }
theorem own_kept {w : Sw} {t : TakeS} {g : PushS} (h : w.s.xs ≠ []) (hk : w.k ≠ 2) (y : Int) : (Sw.own ⟨w.s.kept, w.l ++ [lastI w.s.xs], w.tag, 0, t, g⟩).count y = w.own.count y := by
 have := count_dropLast h y
 unfold Sw.own SupS.kept
 rw [if_neg hk]
 simp only [List.count_append, List.append_nil]
 rw [if_neg (by decide)]
 simp only [List.count_append, List.count_nil]
 omega
theorem SpI.take_new (h : SpI x m ws P T) (hx : x.ok) (hi : i < 3) (hk : (ws i).k = 0) : SpI x m (updG ws i (takeN x (ws i))) P (T + 1) := by
 have hw := h.wk i hi
 have hpk := hx.pool (n := x.len) (Nat.le_refl _) hx.len_le
 by_cases hxs : (ws i).s.xs = []
 ·obtain ⟨t0, e, d0, k0⟩ : ∃ t0, takeInit x.ba (ws i).s = ((ws i).s, t0) ∧ t0.done = false ∧ (t0.chunk = 0 ∧ t0.is_ = false ∧ (t0.at_ = 0 ∨ (t0.at_ = 1 ∧ t0.q.ok x.pool ∧ t0.q.done = false ∧ PopH x.pool m P t0.q))) := by
   unfold takeInit keepT
   rw [if_pos hxs]
   dsimp only
   by_cases hz : 0 < (ws i).s.lm.size
   ·rw [if_pos hz]; exact ⟨_, rfl, rfl, rfl, rfl, .inl rfl⟩
   ·rw [if_neg hz]; exact ⟨_, rfl, rfl, rfl, rfl, .inr ⟨rfl, PopS.ok_init hpk.n1 x.ba, rfl, fun _ h0 => absurd rfl h0⟩⟩
  have e2 : takeN x (ws i) = { ws i with k := 1, t := t0 } := by unfold takeN; rw [e]; dsimp only; rw [d0]; rfl
  rw [e2]
  refine h.still hi h.len h.ok (fun _ _ => rfl) (Cn.link3 x) (fun y => ?_) ⟨hw.m0, hw.m2, by show 1 ≤ 2; omega, fun _ => ⟨d0, k0.1, k0.2.1, k0.2.2⟩, fun h2 => by cases h2⟩
  unfold Sw.own
  rw [if_neg (by show ¬ (1 : Nat) = 2; omega), if_neg (by omega)]
 ·have e : takeInit x.ba (ws i).s = ((ws i).s.kept, { TakeS.none_ with chunk := lastI (ws i).s.xs, is_ := true, done := true }) := by
   unfold takeInit keepT; rw [if_neg hxs]
  have e2 : takeN x (ws i) = ⟨(ws i).s.kept, (ws i).l ++ [lastI (ws i).s.xs], (ws i).tag, 0, { TakeS.none_ with chunk := lastI (ws i).s.xs, is_ := true, done := true }, (ws i).g⟩ := by
   unfold takeN; rw [e]; rfl
  rw [e2]
  exact h.still hi h.len h.ok (fun _ _ => rfl) (Cn.link3 x) (own_kept hxs (by omega)) ⟨hw.m0, hw.m2, by show 0 ≤ 2; omega, (fun h2 => by cases h2), (fun h2 => by cases h2)⟩
def takeG (x : Cn) (m : Mm) (w : Sw) : Sw := if (takeStep x.pool x.ba m w.s w.t).2.2.done then { w with s := (takeStep x.pool x.ba m w.s w.t).2.1, l := if (takeStep x.pool x.ba m w.s w.t).2.2.is_ then w.l ++ [(takeStep x.pool x.ba m w.s w.t).2.2.chunk] else w.l, k := 0, t := (takeStep x.pool x.ba m w.s w.t).2.2 }
 else { w with s := (takeStep x.pool x.ba m w.s w.t).2.1, t := (takeStep x.pool x.ba m w.s w.t).2.2 }
theorem own_ready {w : Sw} (now : Int) (y : Int) : (Sw.own { w with s := w.s.ready now }).count y = w.own.count y := by
 have := all_ready now w.s.lm y
 unfold Sw.own SupS.ready
 simp only [List.count_append]
 omega
theorem SpI.take_go (h : SpI x m ws P T) (hx : x.ok) (hT : T ≤ 100000) (hi : i < 3) (hk : (ws i).k = 1) : ∃ P', SpI x (takeStep x.pool x.ba m (ws i).s (ws i).t).1 (updG ws i (takeG x m (ws i))) P' (T + 1) := by
 have hw := h.wk i hi
 have hlen := hx.len_le
 have hpk := hx.pool (n := x.len) (Nat.le_refl _) hlen
 have hpk2 := hx.pool (n := m.ws.length) (by rw [h.len]; exact Nat.le_refl _) (by rw [h.len]; exact hlen)
 obtain ⟨t1, t2, t3, t4⟩ := hw.tk hk
 obtain ⟨w, hwe⟩ : ∃ w, ws i = w := ⟨_, rfl⟩
 rw [hwe] at hk t1 t2 t3 t4 hw ⊢
 rcases t4 with h0 | ⟨h1, h2, h3, h4⟩
 ·-- the epoch
  obtain ⟨now, hnow⟩ : ∃ now, cutE (m.at_ 2) = now := ⟨_, rfl⟩
  by_cases hxs : (w.s.ready now).xs = []
  ·have e : takeStep x.pool x.ba m w.s w.t = (m.tick, w.s.ready now, { w.t with seen := now, at_ := 1, q := PopS.init x.ba }) := by
    unfold takeStep
    rw [t1, h0]
    simp only [Bool.false_eq_true, if_false, hnow]
    unfold keepT
    rw [if_pos hxs]
    dsimp only
    rw [t1]
   refine ⟨P, ?_⟩
   have e2 : takeG x m w = { w with s := w.s.ready now, t := { w.t with seen := now, at_ := 1, q := PopS.init x.ba } } := by
    unfold takeG; rw [e]; dsimp only; rw [t1]; rfl
   rw [e, e2]
   refine h.still hi h.len (Mm.ok_tick h.ok) (fun _ _ => rfl) (Cn.link3 x) (fun y => by rw [hwe]; exact own_ready now y) ⟨hw.m0, hw.m2, hw.k, fun _ => ⟨t1, t2, t3, .inr ⟨rfl, PopS.ok_init hpk.n1 x.ba, rfl, fun _ h0 => absurd rfl h0⟩⟩, fun h2 => ?_⟩
   have h2 : w.k = 2 := h2
   omega
  ·have e : takeStep x.pool x.ba m w.s w.t = (m.tick, (w.s.ready now).kept, { w.t with seen := now, chunk := lastI (w.s.ready now).xs, is_ := true, done := true }) := by
    unfold takeStep
    rw [t1, h0]
    simp only [Bool.false_eq_true, if_false, hnow]
    unfold keepT
    rw [if_neg hxs]
    dsimp only
    rw [h0]
   refine ⟨P, ?_⟩
   have e2 : takeG x m w = ⟨(w.s.ready now).kept, w.l ++ [lastI (w.s.ready now).xs], w.tag, 0, { w.t with seen := now, chunk := lastI (w.s.ready now).xs, is_ := true, done := true }, w.g⟩ := by
    unfold takeG; rw [e]; rfl
   rw [e, e2]
   refine h.still hi h.len (Mm.ok_tick h.ok) (fun _ _ => rfl) (Cn.link3 x) (fun y => ?_) ⟨hw.m0, hw.m2, by show 0 ≤ 2; omega, (fun h2 => by cases h2), (fun h2 => by cases h2)⟩
   rw [hwe]
   exact (own_kept (w := { w with s := w.s.ready now }) hxs (by show w.k ≠ 2; omega) y).trans (own_ready now y)
 ·-- the Pop
  obtain ⟨P', hP', hH, hgo, hoth, htg, hn1, hn2⟩ := popStep_inv hpk2 rfl h.pool h2 (by unfold Tagged; have := h.tag; omega) h4
  obtain ⟨ql, qo⟩ := popStep_mem hpk2 h.ok h2
  have hok' := popStep_ok hpk2 h.ok h2
  refine ⟨P', ?_⟩
  obtain ⟨Q, hQ⟩ : ∃ Q, popStep x.pool m w.t.q = Q := ⟨_, rfl⟩
  rw [hQ] at hP' hH hgo hoth htg hn1 hn2 ql qo hok'
  have hlk : ∀ a, a ≠ 0 → Q.2.at_ a = m.at_ a := fun a ha => hoth a ha
  cases hd : Q.1.done with
  | false =>
    have e : takeStep x.pool x.ba m w.s w.t = (Q.2, w.s, { w.t with q := Q.1 }) := by
     unfold takeStep; rw [t1, h1]; simp only [Bool.false_eq_true, if_false, hQ, hd]; rw [h1, t1]
    have e2 : takeG x m w = { w with t := { w.t with q := Q.1 } } := by unfold takeG; rw [e]; dsimp only; rw [t1]; rfl
    rw [e, e2]
    have hPP := hn1 hd
    subst hPP
    refine h.upd hi (qo.trans h.len) ql hP' hgo htg (fun y => by rw [hwe]; rfl) (fun z _ _ _ => hlk _ (by have := Cn.link3 x; omega)) ⟨hw.m0, hw.m2, hw.k, fun _ => ⟨t1, t2, t3, .inr ⟨h1, hok', hd, hH⟩⟩, fun h2 => ?_⟩
    have h2 : w.k = 2 := h2
    omega
  | true =>
    have hpp := hn2 h3 hd
    cases hg : Q.1.got with
    | nil =>
      have e : takeStep x.pool x.ba m w.s w.t = (Q.2, w.s, { w.t with q := Q.1, done := true }) := by
       unfold takeStep; rw [t1, h1]; simp only [Bool.false_eq_true, if_false, hQ, hd, if_true]; unfold popped; dsimp only; rw [hg]; dsimp only; rw [h1]
      have e2 : takeG x m w = ⟨w.s, w.l, w.tag, 0, { w.t with q := Q.1, done := true }, w.g⟩ := by unfold takeG; rw [e]; dsimp only; rw [t3]; rfl
      rw [e, e2]
      rw [hg, List.nil_append] at hpp
      subst hpp
      refine h.upd hi (qo.trans h.len) ql hP' hgo htg (fun y => ?_) (fun z _ _ _ => hlk _ (by have := Cn.link3 x; omega)) ⟨hw.m0, hw.m2, by show 0 ≤ 2; omega, (fun h2 => by cases h2), (fun h2 => by cases h2)⟩
      rw [hwe]; unfold Sw.own; rw [if_neg (by show ¬ (0 : Nat) = 2; omega), if_neg (by omega)]
    | cons a l =>
      have e : takeStep x.pool x.ba m w.s w.t = (Q.2, w.s.give l, { w.t with q := Q.1, chunk := a, is_ := true, done := true }) := by
       unfold takeStep; rw [t1, h1]; simp only [Bool.false_eq_true, if_false, hQ, hd, if_true]; unfold popped; dsimp only; rw [hg]; dsimp only; rw [h1]
      have e2 : takeG x m w = ⟨w.s.give l, w.l ++ [a], w.tag, 0, { w.t with q := Q.1, chunk := a, is_ := true, done := true }, w.g⟩ := by unfold takeG; rw [e]; rfl
      rw [e, e2]
      rw [hg] at hpp
      refine h.upd hi (qo.trans h.len) ql hP' hgo htg (fun y => ?_) (fun z _ _ _ => hlk _ (by have := Cn.link3 x; omega)) ⟨hw.m0, hw.m2, by show 0 ≤ 2; omega, (fun h2 => by cases h2), (fun h2 => by cases h2)⟩
      rw [hwe, hpp]
      unfold Sw.own SupS.give
      rw [if_neg (by show ¬ (0 : Nat) = 2; omega), if_neg (by omega)]
      simp only [List.count_append, List.count_cons, List.count_nil]
      omega
noncomputable def giveN (x : Cn) (q : Nat) (w : Sw) : Sw := if (giveInit x.pool (w.s.xs.take q)).done then { w with s := { w.s with xs := w.s.xs.drop q }, k := 0, g := giveInit x.pool (w.s.xs.take q) } else { w with s := { w.s with xs := w.s.xs.drop q }, k := 2, g := giveInit x.pool (w.s.xs.take q) }
theorem SpI.give_valid (h : SpI x m ws P T) (hi : i < 3) (q : Nat) : giveInit x.pool ((ws i).s.xs.take q) = PushS.init ((ws i).s.xs.take q) := by
 have hnd := h.ndw hi
 unfold Sw.own at hnd
 have hx := (List.nodup_append.1 hnd).1
 rw [← List.take_append_drop q (ws i).s.xs] at hx
 refine giveInit_yes ⟨(List.nodup_append.1 hx).1, fun y hy => h.rngw hi y ?_⟩
 unfold Sw.own
 exact List.mem_append_left _ (List.mem_of_mem_take hy)
theorem SpI.give_new (h : SpI x m ws P T) (hi : i < 3) (hk : (ws i).k = 0) (q : Nat) : SpI x m (updG ws i (giveN x q (ws i))) P (T + 1) := by
 have hw := h.wk i hi
 have hv := h.give_valid hi q
 have hr : ∀ z ∈ (ws i).s.xs.take q, 0 ≤ z ∧ z < (x.c : Int) := fun z hz => h.rngw hi z (by unfold Sw.own; exact List.mem_append_left _ (List.mem_of_mem_take hz))
 obtain ⟨w, hwe⟩ : ∃ w, ws i = w := ⟨_, rfl⟩
 rw [hwe] at hk hw hv hr ⊢
 have htd := List.take_append_drop q w.s.xs
 have hct : ∀ y, (w.s.xs.take q).count y + (w.s.xs.drop q).count y = w.s.xs.count y := fun y => by rw [← List.count_append, htd]
 unfold giveN
 rw [hv]
 by_cases hd : (PushS.init (w.s.xs.take q)).done = true
 ·rw [if_pos hd]
  have hnil : w.s.xs.take q = [] := of_decide_eq_true hd
  refine h.still hi h.len h.ok (fun _ _ => rfl) (Cn.link3 x) (fun y => ?_) ⟨hw.m0, hw.m2, by show 0 ≤ 2; omega, (fun h2 => by cases h2), (fun h2 => by cases h2)⟩
  have := hct y
  rw [hnil, List.count_nil] at this
  rw [hwe]
  unfold Sw.own
  rw [if_neg (by show ¬ (0 : Nat) = 2; omega), if_neg (by omega)]
  simp only [List.count_append]
  omega
 ·rw [if_neg hd]
  have hd' : (PushS.init (w.s.xs.take q)).done = false := by
   cases hq : (PushS.init (w.s.xs.take q)).done with
   | true => exact absurd hq hd
   | false => rfl
  refine h.still hi h.len h.ok (fun _ _ => rfl) (Cn.link3 x) (fun y => ?_) ⟨hw.m0, hw.m2, Nat.le_refl _, (fun h2 => by cases h2), fun _ => ⟨PushS.ok_init hr, hd', fun _ => ⟨fun j h1 h2 => ?_, fun h1 => ?_, fun h1 => ?_, fun h1 => ?_⟩⟩⟩
  ·have := hct y
   rw [hwe]
   unfold Sw.own
   rw [if_pos rfl, if_neg (by omega)]
   show ((w.s.xs.drop q) ++ (w.s.lm.all ++ (w.l ++ w.s.xs.take q))).count y = _
   simp only [List.count_append, List.count_nil]
   omega
  ·exact absurd h2 (Nat.not_lt_zero _)
  ·have h1 : 0 = (w.s.xs.take q).length + 1 := h1
   omega
  ·have h1 : (w.s.xs.take q).length ≤ 0 := h1
   have : w.s.xs.take q = [] := List.eq_nil_of_length_eq_zero (by omega)
   exact absurd (decide_eq_true this) hd
  ·have h1 : (w.s.xs.take q).length ≤ 0 := h1
   have : w.s.xs.take q = [] := List.eq_nil_of_length_eq_zero (by omega)
   exact absurd (decide_eq_true this) hd
def giveG (x : Cn) (m : Mm) (w : Sw) : Sw := { w with k := if (pushStep x.pool m w.g).1.done then 0 else 2, g := (pushStep x.pool m w.g).1 }
theorem SpI.give_go (h : SpI x m ws P T) (hx : x.ok) (hT : T ≤ 100000) (hi : i < 3) (hk : (ws i).k = 2) : ∃ P', SpI x (pushStep x.pool m (ws i).g).2 (updG ws i (giveG x m (ws i))) P' (T + 1) := by
 have hw := h.wk i hi
 have hlen := hx.len_le
 have hpk := hx.pool (n := m.ws.length) (by rw [h.len]; exact Nat.le_refl _) (by rw [h.len]; exact hlen)
 obtain ⟨t1, t2, t3⟩ := hw.gv hk
 have hsub : ∀ z ∈ (ws i).g.l, z ∈ (ws i).own := fun z hz => by unfold Sw.own; rw [if_pos hk]; exact List.mem_append_right _ (List.mem_append_right _ (List.mem_append_right _ hz))
 have hnd : (ws i).g.l.Nodup := by
  have := h.ndw hi
  unfold Sw.own at this
  rw [if_pos hk] at this
  exact (List.nodup_append.1 (List.nodup_append.1 (List.nodup_append.1 this).2.1).2.1).2.1
 have hdj : ∀ z ∈ (ws i).g.l, z ∉ P := fun z hz hz2 => by
  have h1 := h.onew hi z
  have := List.count_pos_iff.2 (hsub z hz); have := List.count_pos_iff.2 hz2; omega
 obtain ⟨P', hP', hH, hgo, hoth, htg, hl, hn1, hn2⟩ := pushStep_inv hpk rfl h.pool t1 hnd hdj (by unfold Tagged; have := h.tag; omega) t3
 obtain ⟨ql, qo⟩ := pushStep_mem hpk h.ok t1
 have hok' := pushStep_ok (k := x.pool) h.ok t1
 obtain ⟨w, hwe⟩ : ∃ w, ws i = w := ⟨_, rfl⟩
 rw [hwe] at hk t1 t2 t3 hw hsub hnd hdj hP' hH hgo hoth htg hl hn1 hn2 ql qo hok' ⊢
 refine ⟨P', ?_⟩
 unfold giveG
 have hfr : ∀ z : Int, 0 ≤ z → z ∉ (ws i).own → z < (x.c : Int) → (pushStep x.pool m w.g).2.at_ (x.link + z.toNat) = m.at_ (x.link + z.toNat) := fun z h0 hz _ => hoth _ (by show x.link + z.toNat ≠ 0; have := Cn.link3 x; omega) (fun z2 hz2 => by
  have h2 := h.rngw hi z2 (by rw [hwe]; exact hsub z2 hz2)
  have hne : z ≠ z2 := fun e => hz (by rw [hwe, e]; exact hsub z2 hz2)
  show x.link + z.toNat ≠ x.link + z2.toNat
  omega)
 cases hd : (pushStep x.pool m w.g).1.done with
 | false =>
   have hPP := hn1 hd
   subst hPP
   refine h.upd hi (qo.trans h.len) ql hP' hgo htg (fun y => ?_) hfr ⟨hw.m0, hw.m2, Nat.le_refl _, (fun h2 => by cases h2), fun _ => ⟨hok', hd, hH⟩⟩
   rw [hwe]
   unfold Sw.own
   rw [if_pos hk]
   show _ + ((w.s.xs ++ (w.s.lm.all ++ (w.l ++ (pushStep x.pool m w.g).1.l))).count y) = _
   rw [hl]
 | true =>
   have hPP := hn2 t2 hd
   refine h.upd hi (qo.trans h.len) ql hP' hgo htg (fun y => ?_) hfr ⟨hw.m0, hw.m2, by show 0 ≤ 2; omega, (fun h2 => by cases h2), (fun h2 => by cases h2)⟩
   rw [hwe, hPP]
   unfold Sw.own
   rw [if_pos hk]
   show _ + ((w.s.xs ++ (w.s.lm.all ++ (w.l ++ []))).count y) = _
   simp only [List.count_append, List.count_nil]
   omega
theorem SpI.put (h : SpI x m ws P T) (hi : i < 3) (hk : (ws i).k = 0) : SpI x m (updG ws i { ws i with s := (ws i).s.give (ws i).l, l := [] }) P (T + 1) := by
 have hw := h.wk i hi
 refine h.still hi h.len h.ok (fun _ _ => rfl) (Cn.link3 x) (fun y => ?_) ⟨hw.m0, hw.m2, hw.k, (fun h2 => ?_), (fun h2 => ?_)⟩
 ·unfold Sw.own SupS.give
  rw [if_neg (by show ¬ (ws i).k = 2; omega)]
  simp only [List.count_append, List.count_nil]
  omega
 ·have h2 : (ws i).k = 1 := h2
  omega
 ·have h2 : (ws i).k = 2 := h2
  omega
theorem SpI.retire (h : SpI x m ws P T) (hi : i < 3) (hk : (ws i).k = 0) (tag : Int) : SpI x m (updG ws i { ws i with s := ⟨(ws i).s.most, (ws i).s.xs ++ outM (ws i).s.lm tag, retireM (ws i).s.lm tag (ws i).l⟩, l := [], tag := tag }) P (T + 1) := by
 have hw := h.wk i hi
 refine h.still hi h.len h.ok (fun _ _ => rfl) (Cn.link3 x) (fun y => ?_) ⟨hw.m0, hw.m2, hw.k, (fun h2 => ?_), (fun h2 => ?_)⟩
 ·have := all_retire (ws i).s.lm tag (ws i).l y
  unfold Sw.own
  rw [if_neg (by show ¬ (ws i).k = 2; omega)]
  simp only [List.count_append, List.count_nil]
  omega
 ·have h2 : (ws i).k = 1 := h2
  omega
 ·have h2 : (ws i).k = 2 := h2
  omega
theorem SpI.ready (h : SpI x m ws P T) (hi : i < 3) (hk : (ws i).k = 0) (now : Int) : SpI x m (updG ws i { ws i with s := (ws i).s.ready now }) P (T + 1) := by
 have hw := h.wk i hi
 refine h.still hi h.len h.ok (fun _ _ => rfl) (Cn.link3 x) (fun y => own_ready now y) ⟨hw.m0, hw.m2, hw.k, (fun h2 => ?_), (fun h2 => ?_)⟩
 ·have h2 : (ws i).k = 1 := h2
  omega
 ·have h2 : (ws i).k = 2 := h2
  omega
theorem SpI.lay (h : SpI x m ws P T) (hx : x.ok) {v : Nat} (hv : v < 18446744073709551616) : SpI x (m.lay 2 v) ws P (T + 1) := by
 have h3 := Cn.link3 x
 have hl : x.link ≤ x.len := by unfold Cn.link Cn.len; omega
 have e : updG ws 0 (ws 0) = ws := by funext j; unfold updG; split
                                      ·rename_i h; rw [h]
                                      ·rfl
 have hw := h.wk 0 (by omega)
 have hh0 : (m.lay 2 v).at_ x.pool.head = m.at_ x.pool.head := by rw [Mm.at_lay _ (by rw [h.len]; omega), if_neg (by show ¬ 2 = 0; omega)]
 have := h.still (i := 0) (m' := m.lay 2 v) (w' := ws 0) (by omega) (by rw [Mm.len_lay]; exact h.len) (Mm.ok_lay h.ok hv) (fun a ha => by rw [Mm.at_lay a (by rw [h.len]; omega), if_neg (fun e => ha e.symm)]) h3 (fun _ => rfl) ⟨hw.m0, hw.m2, hw.k, fun h1 => ?_, fun h2 => ?_⟩
 ·rw [e] at this; exact this
 ·obtain ⟨t1, t2, t3, t4⟩ := hw.tk h1
  exact ⟨t1, t2, t3, t4.imp id fun ⟨a, b, c, d⟩ => ⟨a, b, c, d.frame (.inl ⟨hh0, rfl⟩)⟩⟩
 ·obtain ⟨t1, t2, t3⟩ := hw.gv h2
  exact ⟨t1, t2, t3.frame (l := P) (l' := P) (.inl ⟨hh0, rfl⟩) (fun z _ => by rw [Mm.at_lay _ (by rw [h.len]; omega), if_neg (by show ¬ 2 = x.link + z.toNat; omega)]) t1.ne⟩
end
end Go.Proofs.YtggnbdeokmdjbaaGreat


namespace Go.Proofs.YtggnbdeokmdjbaaGreat
open Go
attribute [local irreducible] Sx Cx Rx Fx Krg Ksq Kbl Klp Kr
section
variable {L F : St}
def anyOpen (now : Int) (m : Lm) : Bool := decide (2 ≤ now ∧ (m.open_ now 0 = true ∨ m.open_ now 1 = true ∨ m.open_ now 2 = true))
end
end Go.Proofs.YtggnbdeokmdjbaaGreat


namespace Go.Proofs.YtggnbdeokmdjbaaGreat
open Go
end Go.Proofs.YtggnbdeokmdjbaaGreat


namespace Go.Proofs.YtggnbdeokmdjbaaGreat
open Go
attribute [local irreducible] Sx Cx Rx Fx Krg Ksq Kbl Klp Kr
structure RTag (m : Lm) (u0 u1 u2 l : Int) : Prop where
 h0 : m.x0 ≠ [] → u0 = m.t0
 h1 : m.x1 ≠ [] → u1 = m.t1
 h2 : m.x2 ≠ [] → u2 = m.t2
 hl : l = m.last ∨ (l = -1 ∧ m.last = 0)
section
variable {L F : St}
def refL (T : TypeId) (m : Lm) (a : Option Addr) (y : ((Option Addr × Nat) × (Option Addr × Nat) × (Option Addr × Nat)) × (Int × Int × Int × Int)) : St :=
  [lift (RTag m y.2.1 y.2.2.1 y.2.2.2.1 y.2.2.2.2), pt a (Blk T [.int .i64 y.2.1, .int .i64 y.2.2.1, .int .i64 y.2.2.2.1, .slice y.1.1.1 m.x0.length y.1.1.2, .slice y.1.2.1.1 m.x1.length y.1.2.1.2, .slice y.1.2.2.1 m.x2.length y.1.2.2.2, .int .i64 y.2.2.2.2]),
   pt y.1.1.1 (Row 3 1 m.x0.length y.1.1.2 (ints m.x0)), pt y.1.2.1.1 (Row 3 1 m.x1.length y.1.2.1.2 (ints m.x1)), pt y.1.2.2.1 (Row 3 1 m.x2.length y.1.2.2.2 (ints m.x2))]
def RLimboT (T : TypeId) (m : Lm) (a : Option Addr) : As := exs (refL T m a)
abbrev RLimboO := RLimboT 181
theorem RLimboO.close {T : TypeId} {a r0 r1 r2 : Option Addr} {c0 c1 c2 n0 n1 n2 : Nat} {u0 u1 u2 l : Int} {v0 v1 v2 v3 : Value} {w0 w1 w2 : List Value} {F F0 F1 G : St} (m : Lm) (hT : RTag m u0 u1 u2 l)
  [t : Take L a (Blk T [v0, v1, v2, .slice r0 n0 c0, .slice r1 n1 c1, .slice r2 n2 c2, v3]) F] [q0 : Take F r0 (Row 3 1 n0 c0 w0) F0] [q1 : Take F0 r1 (Row 3 1 n1 c1 w1) F1] [q2 : Take F1 r2 (Row 3 1 n2 c2 w2) G]
  (h0 : v0 = .int .i64 u0) (h1 : v1 = .int .i64 u1) (h2 : v2 = .int .i64 u2) (h3 : v3 = .int .i64 l) (e0 : n0 = m.x0.length) (e1 : n1 = m.x1.length) (e2 : n2 = m.x2.length)
  (g0 : w0 = ints m.x0) (g1 : w1 = ints m.x1) (g2 : w2 = ints m.x2) : Ent L (pt a (RLimboT T m) :: G) := by
 subst h0; subst h1; subst h2; subst h3; subst e0; subst e1; subst e2; subst g0; subst g1; subst g2
 refine Ent.trans (Ent.take1 (t := t) (Ent.trans (Ent.of q0.out) (Ent.cons (Ent.trans (Ent.of q1.out) (Ent.cons (Ent.of q2.out)))))) ?_
 refine Ent.trans (Ent.lift hT (Ent.refl _)) ?_
 exact Ent.close (f := refL T m a) rfl (((r0, c0), (r1, c1), (r2, c2)), (u0, u1, u2, l))
theorem RTag.nil : RTag Lm.nil 0 0 0 (-1) := ⟨fun h => absurd rfl h, fun h => absurd rfl h, fun h => absurd rfl h, .inr ⟨rfl, rfl⟩⟩
theorem refLimboNew : Fx Tryz.prog 161 [] L (fun v L' => ∃ g, v = .pointer (some ⟨g, 0, none⟩) ∧ L' = pt (some ⟨g, 0, none⟩) (RLimboO Lm.nil) :: L) := by
 refine Fx.mk Tryz.func161 k161 nb_ ?_
 dsimp only [c161, kG, kS, kH, kM, kN, kF, kL, envOf, Nat.reduceAdd]
 refine go ?_
 refine Sx.bx rfl rfl fun g => ?_
 refine go ?_
 refine Kr.one (.inr rfl) rfl ?_ ⟨g, rfl, rfl⟩
 refine Ent.trans (Ent.rownil 3 1) (Ent.trans (Ent.rownil 3 1) (Ent.trans (Ent.rownil 3 1) ?_))
 exact RLimboO.close (a := some ⟨g, 0, none⟩) (r0 := none) (r1 := none) (r2 := none) Lm.nil RTag.nil rfl rfl rfl rfl rfl rfl rfl rfl rfl rfl
def leastI (o : Option Nat) : Int := match o with | none => -1 | some j => j
set_option maxHeartbeats 4000000 in
theorem refLeast {b : Nat} {m : Lm} {now : Int} {F : St} [t : Take L (some ⟨b, 0, none⟩) (RLimboO m) F] (h2 : 2 ≤ now) (h3 : now ≤ 9223372036854775807) :
  Fx Tryz.prog 235 [.pointer (some ⟨b, 0, none⟩), .int .i64 now] L (fun v L' => v = .int .i64 (leastI (leastUp now m 3)) ∧ L = L') := by
 refine Fx.kept (t := t) ?_
 refine Fx.mk Tryz.func235 k235 nb_ ?_
 dsimp only [c235, kG, kS, kH, kM, kN, kF, kL, envOf, Nat.reduceAdd]
 refine Cx.openp (t := t) rfl ?_
 rintro ⟨⟨⟨r0, c0⟩, ⟨r1, c1⟩, ⟨r2, c2⟩⟩, ⟨u0, u1, u2, l⟩⟩
 simp only [refL, List.cons_append, List.nil_append]
 refine Cx.liftp fun hT => ?_
 refine go ?_
 refine Cx.lp (α := {k : Nat // k ≤ 3}) (fun k => [(0, .pointer (some ⟨b, 0, none⟩)), (1, .int .i64 now), (5, .int .i64 (leastI (leastUp now m k.1))), (6, .int .i64 k.1)]) (fun _ => _) (fun k => 3 - k.1) ⟨0, by omega⟩
  (sub.cons rfl (sub.cons rfl (sub.cons rfl (sub.cons rfl sub.nil)))) (Ent.refl _) ?_
 rintro ⟨k, hk⟩
 dsimp only
 have hst : ∀ {k : Nat} {v : Int}, leastI (leastUp now m (k + 1)) = v → some (Value.int .i64 v) = some (Value.int .i64 (leastI (leastUp now m (k + 1)))) := fun h => by rw [h]
 rcases (show k = 0 ∨ k = 1 ∨ k = 2 ∨ k = 3 by omega) with rfl | rfl | rfl | rfl
 ·refine go ?_
  refine Cx.ordc rfl kr_ ?_
  refine ge ?_
  by_cases hx : m.x0 = []
  ·have ho : m.open_ now 0 = false := by simp [Lm.open_, openM, Lm.items, hx]
   refine Ev.no 19 rfl (decide_eq_false (by rw [hx]; decide)) ?_
   refine ge ?_
   refine go ?_
   exact Klp.nm ⟨0 + 1, by omega⟩ (sub.cons rfl (sub.cons rfl (sub.cons (Eq.trans rfl (hst (congrArg leastI (leastUp_no ho)))) (sub.cons rfl sub.nil)))) (Ent.refl _) (by simp)
  ·have hu := hT.h0 hx
   have hp := List.length_pos_iff.2 hx
   refine Ev.yes 19 rfl (decide_eq_true (by omega)) ?_
   refine ge ?_
   rw [w64 (n := now - 2) (by omega) (by omega)]
   by_cases h4 : m.t0 ≤ now - 2
   ·have ho : m.open_ now 0 = true := by simp [Lm.open_, openM, Lm.items, Lm.tag]; exact ⟨hp, h4⟩
    refine Ev.yes 30 rfl (decide_eq_true (by omega)) ?_
    refine ge ?_
    refine go ?_
    exact Klp.nm ⟨0 + 1, by omega⟩ (sub.cons rfl (sub.cons rfl (sub.cons (Eq.trans rfl (hst (congrArg leastI (leastUp_first ho rfl)))) (sub.cons rfl sub.nil)))) (Ent.refl _) (by simp)
   ·have ho : m.open_ now 0 = false := by simp [Lm.open_, openM, Lm.items, Lm.tag]; intro _; omega
    refine Ev.no 30 rfl (decide_eq_false (by omega)) ?_
    refine ge ?_
    refine go ?_
    exact Klp.nm ⟨0 + 1, by omega⟩ (sub.cons rfl (sub.cons rfl (sub.cons (Eq.trans rfl (hst (congrArg leastI (leastUp_no ho)))) (sub.cons rfl sub.nil)))) (Ent.refl _) (by simp)
 ·refine go ?_
  refine Cx.ordc rfl kr_ ?_
  refine ge ?_
  by_cases hx : m.x1 = []
  ·have ho : m.open_ now 1 = false := by simp [Lm.open_, openM, Lm.items, hx]
   refine Ev.no 19 rfl (decide_eq_false (by rw [hx]; decide)) ?_
   refine ge ?_
   refine go ?_
   exact Klp.nm ⟨1 + 1, by omega⟩ (sub.cons rfl (sub.cons rfl (sub.cons (Eq.trans rfl (hst (congrArg leastI (leastUp_no ho)))) (sub.cons rfl sub.nil)))) (Ent.refl _) (by simp)
  ·have hu := hT.h1 hx
   have hp := List.length_pos_iff.2 hx
   refine Ev.yes 19 rfl (decide_eq_true (by omega)) ?_
   refine ge ?_
   rw [w64 (n := now - 2) (by omega) (by omega)]
   by_cases h4 : m.t1 ≤ now - 2
   ·have ho : m.open_ now 1 = true := by simp [Lm.open_, openM, Lm.items, Lm.tag]; exact ⟨hp, h4⟩
    refine Ev.yes 30 rfl (decide_eq_true (by omega)) ?_
    refine ge ?_
    rcases hlu : leastUp now m 1 with _ | j
    ·refine Ev.yes 33 rfl (decide_eq_true (by simp [leastI])) ?_
     refine ge ?_
     refine go ?_
     exact Klp.nm ⟨1 + 1, by omega⟩ (sub.cons rfl (sub.cons rfl (sub.cons (Eq.trans rfl (hst (congrArg leastI (leastUp_first ho hlu)))) (sub.cons rfl sub.nil)))) (Ent.refl _) (by simp)
    ·refine Ev.no 33 rfl (decide_eq_false (by simp [leastI])) ?_
     have hj := leastUp_lt hlu
     rcases (show j = 0 by omega) with rfl
     ·have hv := hT.h0 (open_ne hj.2)
      refine ge ?_
      by_cases h5 : m.t1 < m.t0
      ·refine Cx.cyes rfl (decide_eq_true (by omega)) ?_
       refine go ?_
       exact Klp.nm ⟨1 + 1, by omega⟩ (sub.cons rfl (sub.cons rfl (sub.cons (Eq.trans rfl (hst (congrArg leastI (leastUp_less ho hlu h5)))) (sub.cons rfl sub.nil)))) (Ent.refl _) (by simp)
      ·refine Cx.cno rfl (decide_eq_false (by omega)) ?_
       refine go ?_
       exact Klp.nm ⟨1 + 1, by omega⟩ (sub.cons rfl (sub.cons rfl (sub.cons (Eq.trans rfl (hst (congrArg leastI (leastUp_keep ho hlu h5)))) (sub.cons rfl sub.nil)))) (Ent.refl _) (by simp)
   ·have ho : m.open_ now 1 = false := by simp [Lm.open_, openM, Lm.items, Lm.tag]; intro _; omega
    refine Ev.no 30 rfl (decide_eq_false (by omega)) ?_
    refine ge ?_
    refine go ?_
    exact Klp.nm ⟨1 + 1, by omega⟩ (sub.cons rfl (sub.cons rfl (sub.cons (Eq.trans rfl (hst (congrArg leastI (leastUp_no ho)))) (sub.cons rfl sub.nil)))) (Ent.refl _) (by simp)
 ·refine go ?_
  refine Cx.ordc rfl kr_ ?_
  refine ge ?_
  by_cases hx : m.x2 = []
  ·have ho : m.open_ now 2 = false := by simp [Lm.open_, openM, Lm.items, hx]
   refine Ev.no 19 rfl (decide_eq_false (by rw [hx]; decide)) ?_
   refine ge ?_
   refine go ?_
   exact Klp.nm ⟨2 + 1, by omega⟩ (sub.cons rfl (sub.cons rfl (sub.cons (Eq.trans rfl (hst (congrArg leastI (leastUp_no ho)))) (sub.cons rfl sub.nil)))) (Ent.refl _) (by simp)
  ·have hu := hT.h2 hx
   have hp := List.length_pos_iff.2 hx
   refine Ev.yes 19 rfl (decide_eq_true (by omega)) ?_
   refine ge ?_
   rw [w64 (n := now - 2) (by omega) (by omega)]
   by_cases h4 : m.t2 ≤ now - 2
   ·have ho : m.open_ now 2 = true := by simp [Lm.open_, openM, Lm.items, Lm.tag]; exact ⟨hp, h4⟩
    refine Ev.yes 30 rfl (decide_eq_true (by omega)) ?_
    refine ge ?_
    rcases hlu : leastUp now m 2 with _ | j
    ·refine Ev.yes 33 rfl (decide_eq_true (by simp [leastI])) ?_
     refine ge ?_
     refine go ?_
     exact Klp.nm ⟨2 + 1, by omega⟩ (sub.cons rfl (sub.cons rfl (sub.cons (Eq.trans rfl (hst (congrArg leastI (leastUp_first ho hlu)))) (sub.cons rfl sub.nil)))) (Ent.refl _) (by simp)
    ·refine Ev.no 33 rfl (decide_eq_false (by simp [leastI])) ?_
     have hj := leastUp_lt hlu
     rcases (show j = 0 ∨ j = 1 by omega) with rfl | rfl
     ·have hv := hT.h0 (open_ne hj.2)
      refine ge ?_
      by_cases h5 : m.t2 < m.t0
      ·refine Cx.cyes rfl (decide_eq_true (by omega)) ?_
       refine go ?_
       exact Klp.nm ⟨2 + 1, by omega⟩ (sub.cons rfl (sub.cons rfl (sub.cons (Eq.trans rfl (hst (congrArg leastI (leastUp_less ho hlu h5)))) (sub.cons rfl sub.nil)))) (Ent.refl _) (by simp)
      ·refine Cx.cno rfl (decide_eq_false (by omega)) ?_
       refine go ?_
       exact Klp.nm ⟨2 + 1, by omega⟩ (sub.cons rfl (sub.cons rfl (sub.cons (Eq.trans rfl (hst (congrArg leastI (leastUp_keep ho hlu h5)))) (sub.cons rfl sub.nil)))) (Ent.refl _) (by simp)
     ·have hv := hT.h1 (open_ne hj.2)
      refine ge ?_
      by_cases h5 : m.t2 < m.t1
      ·refine Cx.cyes rfl (decide_eq_true (by omega)) ?_
       refine go ?_
       exact Klp.nm ⟨2 + 1, by omega⟩ (sub.cons rfl (sub.cons rfl (sub.cons (Eq.trans rfl (hst (congrArg leastI (leastUp_less ho hlu h5)))) (sub.cons rfl sub.nil)))) (Ent.refl _) (by simp)
      ·refine Cx.cno rfl (decide_eq_false (by omega)) ?_
       refine go ?_
       exact Klp.nm ⟨2 + 1, by omega⟩ (sub.cons rfl (sub.cons rfl (sub.cons (Eq.trans rfl (hst (congrArg leastI (leastUp_keep ho hlu h5)))) (sub.cons rfl sub.nil)))) (Ent.refl _) (by simp)
   ·have ho : m.open_ now 2 = false := by simp [Lm.open_, openM, Lm.items, Lm.tag]; intro _; omega
    refine Ev.no 30 rfl (decide_eq_false (by omega)) ?_
    refine ge ?_
    refine go ?_
    exact Klp.nm ⟨2 + 1, by omega⟩ (sub.cons rfl (sub.cons rfl (sub.cons (Eq.trans rfl (hst (congrArg leastI (leastUp_no ho)))) (sub.cons rfl sub.nil)))) (Ent.refl _) (by simp)
 ·refine go ?_
  refine Kr.one (.inr rfl) rfl ?_ ⟨rfl, rfl⟩
  exact RLimboO.close (a := some ⟨b, 0, none⟩) (r0 := r0) (r1 := r1) (r2 := r2) m hT rfl rfl rfl rfl rfl rfl rfl rfl rfl rfl
end
end Go.Proofs.YtggnbdeokmdjbaaGreat


namespace Go.Proofs.YtggnbdeokmdjbaaGreat
open Go
attribute [local irreducible] Sx Cx Rx Fx Krg Ksq Kbl Klp Kr
theorem mm_ext {a b : Mm} (hl : a.ws.length = b.ws.length) (hn : a.n = b.n) (h : ∀ i, a.at_ i = b.at_ i) : a = b := by
 obtain ⟨aw, an⟩ := a
 obtain ⟨bw, bn⟩ := b
 simp only at hl hn
 subst hn
 congr 1
 refine List.ext_getElem hl fun i h1 h2 => ?_
 have := h i
 simp only [Mm.at_, List.getD_eq_getElem?_getD, List.getElem?_eq_getElem h1, List.getElem?_eq_getElem h2, Option.getD_some] at this
 exact this
def rUp (k : Sk) (m : Mm) : Nat → Mm
 | 0 => m.lay k.head 1
 | i + 1 => if i + 1 = k.n then ((rUp k m i).lay (k.links + i) ((i + 2) % (k.n + 1))).lay (k.links + i) 0 else (rUp k m i).lay (k.links + i) ((i + 2) % (k.n + 1))
theorem rUp_len (k : Sk) (m : Mm) : ∀ i, (rUp k m i).ws.length = m.ws.length
 | 0 => Mm.len_lay
 | i + 1 => by
   unfold rUp
   split <;> simp only [Mm.len_lay] <;> exact rUp_len k m i
theorem rUp_n (k : Sk) (m : Mm) : ∀ i, (rUp k m i).n = m.n
 | 0 => rfl
 | i + 1 => by
   unfold rUp
   split <;> exact rUp_n k m i
theorem rUp_at {k : Sk} {m : Mm} {len : Nat} (hk : k.ok len) (hl : m.ws.length = len) : ∀ i, i ≤ k.n → ∀ a, (rUp k m i).at_ a = if k.head = a then 1 else if k.links ≤ a ∧ a < k.links + i then (if a - k.links + 1 = k.n then 0 else a - k.links + 2) else m.at_ a
 | 0, _, a => by
   have := hk.h
   unfold rUp
   rw [Mm.at_lay _ (by omega)]
   split
   ·rfl
   ·rw [if_neg (by omega)]
 | i + 1, hi, a => by
   have ih := rUp_at hk hl i (by omega)
   have hll := rUp_len k m i
   have h1 := hk.l; have h2 := hk.a
   unfold rUp
   split
   ·rename_i he
    rw [Mm.at_lay _ (by rw [Mm.len_lay]; omega), Mm.at_lay _ (by omega), ih]
    by_cases e : k.links + i = a
    ·rw [if_pos e, if_neg (by omega), if_pos (by omega), if_pos (by omega)]
    ·rw [if_neg e, if_neg e]
     by_cases hh : k.head = a
     ·rw [if_pos hh, if_pos hh]
     ·rw [if_neg hh, if_neg hh]
      by_cases hr : k.links ≤ a ∧ a < k.links + i
      ·rw [if_pos hr, if_pos (show k.links ≤ a ∧ a < k.links + (i + 1) by omega)]
      ·rw [if_neg hr, if_neg (show ¬ (k.links ≤ a ∧ a < k.links + (i + 1)) by omega)]
   ·rename_i he
    rw [Mm.at_lay _ (by omega), ih]
    by_cases e : k.links + i = a
    ·rw [if_pos e, if_neg (by omega), if_pos (by omega), if_neg (by omega), Nat.mod_eq_of_lt (by omega)]; omega
    ·rw [if_neg e]
     by_cases hh : k.head = a
     ·rw [if_pos hh, if_pos hh]
     ·rw [if_neg hh, if_neg hh]
      by_cases hr : k.links ≤ a ∧ a < k.links + i
      ·rw [if_pos hr, if_pos (show k.links ≤ a ∧ a < k.links + (i + 1) by omega)]
      ·rw [if_neg hr, if_neg (show ¬ (k.links ≤ a ∧ a < k.links + (i + 1)) by omega)]
theorem rUp_fill {k : Sk} {m : Mm} {len : Nat} (hk : k.ok len) (hl : m.ws.length = len) : rUp k m k.n = fillM k m := by
 have k1 := hk.n1; have k3 := hk.h; have k4 := hk.l; have k5 := hk.a
 have hu := fillUp_at (k := k) (m := m) (i := k.n) (by omega)
 have hul := fillUp_len k m k.n
 refine mm_ext ?_ ?_ fun a => ?_
 ·rw [rUp_len, fillM_len]
 ·rw [rUp_n, fillM_n]
 ·rw [rUp_at hk hl k.n (Nat.le_refl _)]
  unfold fillM
  rw [Mm.at_lay _ (by rw [Mm.len_lay]; omega), Mm.at_lay _ (by omega)]
  by_cases hh : k.head = a
  ·rw [if_pos hh, if_pos hh]
  ·rw [if_neg hh, if_neg hh]
   by_cases hr : k.links ≤ a ∧ a < k.links + k.n
   ·rw [if_pos hr]
    by_cases e : k.links + k.n - 1 = a
    ·rw [if_pos e, if_pos (by omega)]
    ·rw [if_neg e, if_neg (by omega)]
     have := hu.1 (a - k.links) (by omega)
     rw [show k.links + (a - k.links) = a by omega] at this
     exact this.symm
   ·rw [if_neg hr, if_neg (by omega)]
    exact (hu.2 a (fun j hj => by omega)).symm
section
variable {L F G : St}
def rmemL (T : TypeId) (m : Mm) (a : Option Addr) (y : Option Addr × Nat) : St :=
 [lift (m.ok ∧ m.ws.length ≤ 8388608), pt a (Blk T [.slice y.1 m.ws.length y.2, .int .i64 (IntKind.i64.wrap (m.n : Int))]), pt y.1 (Row 89 1 m.ws.length y.2 (us m.ws))]
def RMemT (T : TypeId) (m : Mm) (a : Option Addr) : As := exs (rmemL T m a)
abbrev RMemO := RMemT 94
theorem RMemO.close {T : TypeId} {a r : Option Addr} {c n : Nat} {v : Value} {w : List Value} {F G : St} (m : Mm) (hm : m.ok ∧ m.ws.length ≤ 8388608) [t : Take L a (Blk T [.slice r n c, v]) F] [u : Take F r (Row 89 1 n c w) G]
  (hv : v = .int .i64 (IntKind.i64.wrap (m.n : Int))) (hn : n = m.ws.length) (hw : w = us m.ws) : Ent L (pt a (RMemT T m) :: G) := by
 subst hv; subst hn; subst hw
 refine Ent.trans (Ent.take1 (t := t) (Ent.of u.out)) ?_
 refine Ent.trans (Ent.lift hm (Ent.refl _)) ?_
 exact Ent.close (f := rmemL T m a) rfl (r, c)
theorem rmemNew (n : Nat) (h2 : n ≤ 8388608) : Fx Tryz.prog 156 [.int .i64 n] L (fun v L' => ∃ g, v = .pointer (some ⟨g, 0, none⟩) ∧ L' = pt (some ⟨g, 0, none⟩) (RMemO ⟨List.replicate n 0, 0⟩) :: L) := by
 refine Fx.mk Tryz.func156 k156 nb_ ?_
 dsimp only [c156, kG, kS, kH, kM, kN, kF, kL, envOf, Nat.reduceAdd]
 refine go ?_
 refine Sx.mk rfl rfl (by omega) (by omega) (by omega) (by omega) fun g => ?_
 refine go ?_
 refine Sx.bx rfl rfl fun q => ?_
 refine go ?_
 refine Kr.one (.inr rfl) rfl ?_ ⟨q, rfl, rfl⟩
 have hu : us (List.replicate n 0) = List.replicate n (.int .u64 0) := by simp [us, wd]
 refine RMemO.close (a := some ⟨q, 0, none⟩) (r := some ⟨g, 0, none⟩) ⟨List.replicate n 0, 0⟩ ⟨fun w hw => ?_, ?_⟩ rfl (by simp) ?_
 ·rw [List.eq_of_mem_replicate hw]; omega
 ·simpa using h2
 ·rw [hu, made_one]; simp
theorem refAt {x : Cn} (hx : x.ok) (fr : Int) (many i : Nat) (hi : i < many) (hf : 0 ≤ fr ∧ fr + i ≤ 1000000000) (hm : many ≤ 1000000000) : Fx Tryz.prog 109 [x.v, .int .i64 fr, .int .i64 many, .int .i64 i] L (fun v L' => v = .int .i64 (fr + i) ∧ L = L') := by
 refine Fx.mk Tryz.func109 k109 nb_ ?_
 dsimp only [c109, kG, kS, kH, kM, kN, kF, kL, envOf, Nat.reduceAdd]
 refine Cx.sq ?_
 refine Cx.rg ?_
 refine Sx.bx rfl rfl fun g => ?_
 refine go ?_
 refine Sx.ca rfl (refMay_ (x.w : Int) x.c x.wd x.sl x.ca x.ba) ?_
 rintro v L' ⟨rfl, rfl⟩
 rw [decide_eq_true (show MayC (x.w : Int) x.c x.wd x.sl x.ca x.ba from hx)]
 refine go ?_
 iterate 2 (try (refine Sx.gyes rfl (decide_eq_false (by omega)) ?_; refine go ?_))
 refine Cx.cno rfl (decide_eq_false (by omega)) ?_
 refine go ?_
 rw [w64 (n := fr + i) (by omega) (by omega)]
 exact Kr.one (.inr rfl) rfl Ent.drop ⟨rfl, rfl⟩
end
end Go.Proofs.YtggnbdeokmdjbaaGreat


namespace Go.Proofs.YtggnbdeokmdjbaaGreat
open Go
theorem lay1 {cs : List Value} {off : Nat} {u : Value} (h : off < cs.length) : lay cs off [u] = cs.set off u := by
 have := lay_cons cs off u [] (by simp; omega)
 rw [← this, lay_nil]
section
variable {P : Program} {N : Nat} {L F : St} {Kf : En → St → Prop} {e : En} {r : List It} {ms : List (Nat × (St → Prop))} {i ds sz : Nat} {rs : List Nat} {d : Option Nat} {g : Option (Nat × Bool)}
theorem Ev.strH {x v : X} {b off E n cap : Nat} {xs ys : List Value} {u : Value} [t : Take L (some ⟨b, 0, none⟩) (Row E sz n cap xs) F] (hd : lastly i r = true) (hg : gon (e.only rs) g = true)
  (hx : x.get (e.only rs) = some (.pointer (some ⟨b, off, none⟩))) (hv : v.get (e.only rs) = some u) (hu : cellsOf u = some [u]) (h1 : u.oneCell' = true) (hl : off < xs.length) (hy : xs.set off u = ys)
  (hp : Pres ds (fun v L' => v = undef ∧ L' = pt (some ⟨b, 0, none⟩) (Row E sz n cap ys) :: F) ms)
  (k : Ev P N Kf r ms (e.put d undef) (pt (some ⟨b, 0, none⟩) (Row E sz n cap ys) :: F)) : Ev P N Kf (⟨i, ds, rs, ⟨d, g, .st x v 1⟩⟩ :: r) ms e L :=
 .genH hd hp hg (fun e' hs K kk => Sx.str (t := t) (X.get_sub hx hs) (X.get_sub hv hs) hu rfl (by simp [ones, h1]) hl (by rw [lay1 hl, hy]) (Sx.nil (kk _ _ ⟨rfl, rfl⟩)))
  (fun v L' ⟨e1, e2⟩ => by subst e1; subst e2; exact k)
theorem Sx.str1 {l : List G} {K : En → St → Prop} {x v : X} {b off E n cap : Nat} {xs ys : List Value} {u : Value} [t : Take L (some ⟨b, 0, none⟩) (Row E sz n cap xs) F] (hx : x.get e = some (.pointer (some ⟨b, off, none⟩))) (hv : v.get e = some u)
  (hu : cellsOf u = some [u]) (h1 : u.oneCell' = true) (hl : off < xs.length) (hy : xs.set off u = ys) (k : Sx P N l (e.put d undef) K (pt (some ⟨b, 0, none⟩) (Row E sz n cap ys) :: F)) :
  Sx P N (⟨d, none, .st x v 1⟩ :: l) e K L := Sx.str hx hv hu rfl (by simp [ones, h1]) hl (by rw [lay1 hl, hy]) k
end
end Go.Proofs.YtggnbdeokmdjbaaGreat


namespace Go.Proofs.YtggnbdeokmdjbaaGreat
open Go
attribute [local irreducible] Sx Cx Rx Fx Krg Ksq Kbl Klp Kr
theorem natTmod (a b : Nat) : ((a : Int)).tmod (b : Int) = ((a % b : Nat) : Int) := by
 rw [Int.tmod_eq_emod_of_nonneg (Int.natCast_nonneg a)]
 exact (Int.natCast_emod a b).symm
section
variable {L F G : St}
abbrev RSkO (mp : Nat) (k : Sk) : Option Addr → As := Blk 147 (skV mp k)
theorem refPutHead (i : Int) (t : Nat) (h1 : -1 ≤ i) (h2 : i < 4294967295) (ht : t < 4294967296) : Fx Tryz.prog 226 [hdV i t] L (fun v L' => v = .tuple #[wd (t * 4294967296 + (i + 1).toNat), .bool true] ∧ L = L') := by
 refine Fx.mk Tryz.func226 k226 nb_ ?_
 dsimp only [c226, kG, kS, kH, kM, kN, kF, kL, envOf, Nat.reduceAdd]
 refine Cx.sq ?_
 refine Cx.rg ?_
 refine Sx.bx rfl rfl fun g => ?_
 refine go ?_
 iterate 3 (try (refine Sx.gyes rfl (decide_eq_false (by omega)) ?_; refine go ?_))
 refine Cx.cno rfl (decide_eq_false (by omega)) ?_
 refine go ?_
 rw [wrap64 (n := t) (by omega), w64 (n := i + 1) (by omega) (by omega), show i + 1 = (((i + 1).toNat : Nat) : Int) by omega, wrap64 (n := (i + 1).toNat) (by omega), show (t : Int) * 4294967296 = ((t * 4294967296 : Nat) : Int) by omega, wrap64 (n := t * 4294967296) (by omega),
  show ((t * 4294967296 : Nat) : Int) + ((i + 1).toNat : Nat) = ((t * 4294967296 + (i + 1).toNat : Nat) : Int) by omega, wrap64 (n := t * 4294967296 + (i + 1).toNat) (by omega)]
 exact Kr.two (.inr rfl) rfl rfl Ent.drop ⟨rfl, rfl⟩
theorem Cn.ok.b {x : Cn} (hx : x.ok) : x.w ≤ 64 ∧ x.c ≤ 4096 ∧ x.wd ≤ 1024 ∧ x.sl ≤ 4096 ∧ x.ca ≤ 64 ∧ x.ba ≤ 8 ∧ 1 ≤ x.w ∧ 1 ≤ x.c ∧ 8 ≤ x.wd ∧ 1 ≤ x.sl ∧ 1 ≤ x.ba := by
 obtain ⟨h1, h2, h3, h4, h5, h6, h7⟩ := hx
 omega
theorem refLen {x : Cn} (hx : x.ok) : Fx Tryz.prog 157 [x.v] L (fun v L' => v = .int .i64 (x.len : Int) ∧ L = L') := by
 obtain ⟨b1, b2, b3, b4, b5, b6, b7⟩ := hx.b
 have hmul : x.c * x.wd ≤ 4194304 := by have := Nat.mul_le_mul b2 b3; omega
 refine Fx.mk Tryz.func157 k157 nb_ ?_
 dsimp only [c157, kG, kS, kH, kM, kN, kF, kL, envOf, Nat.reduceAdd]
 refine Cx.sq ?_
 refine Cx.rg ?_
 refine Sx.bx rfl rfl fun g => ?_
 refine go ?_
 refine Sx.ca rfl (refMay_ (x.w : Int) x.c x.wd x.sl x.ca x.ba) ?_
 rintro v L' ⟨rfl, rfl⟩
 rw [decide_eq_true (show MayC (x.w : Int) x.c x.wd x.sl x.ca x.ba from hx)]
 refine go ?_
 rw [show (x.c : Int) * x.wd = ((x.c * x.wd : Nat) : Int) by push_cast; rfl, w64 (n := (3 : Int) + x.w) (by omega) (by omega), w64 (n := (2 : Int) * x.sl) (by omega) (by omega), w64 (n := (3 : Int) + x.w + 2 * x.sl) (by omega) (by omega), w64 (n := (3 : Int) + x.w + 2 * x.sl + x.c) (by omega) (by omega),
  w64 (n := ((x.c * x.wd : Nat) : Int)) (by omega) (by omega), w64 (n := (3 : Int) + x.w + 2 * x.sl + x.c + ((x.c * x.wd : Nat) : Int)) (by omega) (by omega)]
 refine Kr.one (.inr rfl) rfl Ent.drop ⟨congrArg (Value.int .i64) ?_, rfl⟩
 unfold Cn.len; omega
theorem refLink {x : Cn} (hx : x.ok) (i : Nat) (hi : i < x.c) : Fx Tryz.prog 158 [x.v, .int .i64 i] L (fun v L' => v = .int .i64 ((x.link + i : Nat) : Int) ∧ L = L') := by
 obtain ⟨b1, b2, b3, b4, b5, b6, b7⟩ := hx.b
 refine Fx.mk Tryz.func158 k158 nb_ ?_
 dsimp only [c158, kG, kS, kH, kM, kN, kF, kL, envOf, Nat.reduceAdd]
 refine Cx.sq ?_
 refine Cx.rg ?_
 refine Sx.bx rfl rfl fun g => ?_
 refine go ?_
 rw [w64 (n := (3 : Int) + x.w) (by omega) (by omega), w64 (n := (2 : Int) * x.sl) (by omega) (by omega), w64 (n := (3 : Int) + x.w + 2 * x.sl) (by omega) (by omega)]
 refine Sx.ca rfl (refAt hx ((3 : Int) + x.w + 2 * x.sl) x.c i hi (by omega) (by omega)) ?_
 rintro v L' ⟨rfl, rfl⟩
 refine go ?_
 refine Kr.one (.inr rfl) rfl Ent.drop ⟨congrArg (Value.int .i64) ?_, rfl⟩
 unfold Cn.link; omega
theorem refSlot {x : Cn} (hx : x.ok) (i : Nat) (hi : i < x.sl) : Fx Tryz.prog 68 [x.v, .int .i64 i] L (fun v L' => v = .int .i64 ((x.slot + i : Nat) : Int) ∧ L = L') := by
 obtain ⟨b1, b2, b3, b4, b5, b6, b7⟩ := hx.b
 refine Fx.mk Tryz.func68 k68 nb_ ?_
 dsimp only [c68, kG, kS, kH, kM, kN, kF, kL, envOf, Nat.reduceAdd]
 refine Cx.sq ?_
 refine Cx.rg ?_
 refine Sx.bx rfl rfl fun g => ?_
 refine go ?_
 rw [w64 (n := (3 : Int) + x.w) (by omega) (by omega), w64 (n := (3 : Int) + x.w + x.sl) (by omega) (by omega)]
 refine Sx.ca rfl (refAt hx ((3 : Int) + x.w + x.sl) x.sl i hi (by omega) (by omega)) ?_
 rintro v L' ⟨rfl, rfl⟩
 refine go ?_
 refine Kr.one (.inr rfl) rfl Ent.drop ⟨congrArg (Value.int .i64) ?_, rfl⟩
 unfold Cn.slot; omega
theorem refPin {x : Cn} (hx : x.ok) (i : Nat) (hi : i < x.w) : Fx Tryz.prog 33 [x.v, .int .i64 i] L (fun v L' => v = .int .i64 ((3 + i : Nat) : Int) ∧ L = L') := by
 obtain ⟨b1, b2, b3, b4, b5, b6, b7⟩ := hx.b
 refine Fx.mk Tryz.func33 k33 nb_ ?_
 dsimp only [c33, kG, kS, kH, kM, kN, kF, kL, envOf, Nat.reduceAdd]
 refine Cx.sq ?_
 refine Cx.rg ?_
 refine Sx.bx rfl rfl fun g => ?_
 refine go ?_
 refine Sx.ca rfl (refAt hx (3 : Int) x.w i hi (by omega) (by omega)) ?_
 rintro v L' ⟨rfl, rfl⟩
 refine go ?_
 refine Kr.one (.inr rfl) rfl Ent.drop ⟨congrArg (Value.int .i64) ?_, rfl⟩
 omega
set_option maxHeartbeats 2000000 in
theorem refFill {sb mp : Nat} {k : Sk} {m : Mm} (hk : k.ok m.ws.length) [t : Take L (some ⟨mp, 0, none⟩) (RMemO m) F] [s : Take F (some ⟨sb, 0, none⟩) (RSkO mp k) G] :
  Fx Tryz.prog 159 [.pointer (some ⟨sb, 0, none⟩)] L (fun v L' => L' = pt (some ⟨mp, 0, none⟩) (RMemO (fillM k m)) :: F) := by
 have hfill := rUp_fill hk rfl
 have hk0 := hk
 obtain ⟨k1, k2, k3, k4, k5, k6⟩ := hk
 refine Fx.mk Tryz.func159 k159 nb_ ?_
 dsimp only [c159, kG, kS, kH, kM, kN, kF, kL, envOf, Nat.reduceAdd]
 refine Cx.ent (Ent.trans (Ent.of t.out) (Ent.cons (Ent.of s.out))) ?_
 refine Cx.openp (a := some ⟨mp, 0, none⟩) rfl ?_
 rintro ⟨r, c⟩
 simp only [rmemL, List.cons_append, List.nil_append]
 refine Cx.liftp fun hm => ?_
 refine Cx.rowkey (a := r) fun hx0 hn0 _ hk1 => ?_
 obtain ⟨rg, rfl⟩ : ∃ g, r = some ⟨g, 0, none⟩ := by
  rcases hk1 with h | h
  ·omega
  ·exact h
 refine go ?_
 refine Sx.ca rfl (refPutHead 0 0 (by omega) (by omega) (by omega)) ?_
 rintro v L' ⟨rfl, rfl⟩
 refine go ?_
 refine Cx.ordc rfl kr_ ?_
 refine ge ?_
 refine Ev.strH (b := rg) kr_ rfl rfl rfl rfl rfl (by rw [length_us]; simp; omega) rfl (Pres.deps kr_) ?_
 refine ge ?_
 refine go ?_
 have hset : (us m.ws).set (0 + (k.head : Int).toNat * 1) (wd (0 * 4294967296 + (0 + 1 : Int).toNat)) = us (rUp k m 0).ws := by
  rw [show 0 + (k.head : Int).toNat * 1 = k.head by simp]
  exact us_set m.ws k.head 1
 refine Cx.lp (α := {i : Nat // i ≤ k.n}) (fun i => [(0, .pointer (some ⟨sb, 0, none⟩)), (4, .int .i64 i.1)])
  (fun i => pt (some ⟨rg, 0, none⟩) (Row 89 1 m.ws.length c (us (rUp k m i.1).ws)) :: pt (some ⟨mp, 0, none⟩) (Blk 94 [.slice (some ⟨rg, 0, none⟩) m.ws.length c, .int .i64 (IntKind.i64.wrap (m.n : Int))]) :: pt (some ⟨sb, 0, none⟩) (RSkO mp k) :: G)
  (fun i => k.n - i.1) ⟨0, by omega⟩ (sub.cons rfl (sub.cons rfl sub.nil)) (by rw [← hset]; exact Ent.refl _) ?_
 rintro ⟨i, hi⟩
 dsimp only
 have hil := rUp_len k m i
 have hul : (us (rUp k m i).ws).length = m.ws.length := by rw [length_us, hil]
 refine go ?_
 refine Cx.ifp rfl (fun h => ?_) (fun h => ?_)
 ·refine go ?_
  refine Cx.ordc rfl kr_ ?_
  refine ge ?_
  rw [w64 (n := (k.links : Int) + i) (by omega) (by omega), w64 (n := (i : Int) + 2) (by omega) (by omega), w64 (n := (k.n : Int) + 1) (by omega) (by omega)]
  refine Ev.pvH kr_ rfl rfl (by omega) ?_
  have hmlt : (i + 2) % (k.n + 1) < k.n + 1 := Nat.mod_lt _ (by omega)
  rw [show (i : Int) + 2 = ((i + 2 : Nat) : Int) by omega, show (k.n : Int) + 1 = ((k.n + 1 : Nat) : Int) by omega, natTmod]
  refine ge ?_
  rw [wrap64 (n := (i + 2) % (k.n + 1)) (by omega)]
  refine Ev.strH (b := rg) kr_ rfl rfl rfl rfl rfl (by rw [hul]; simp; omega) rfl (Pres.deps kr_) ?_
  refine ge ?_
  rw [show (us (rUp k m i).ws).set (0 + ((k.links : Int) + i).toNat * 1) (.int .u64 (((i + 2) % (k.n + 1) : Nat) : Int)) = us ((rUp k m i).lay (k.links + i) ((i + 2) % (k.n + 1))).ws by
   rw [show 0 + ((k.links : Int) + i).toNat * 1 = k.links + i by omega]
   exact us_set _ _ _]
  have hul2 : (us ((rUp k m i).lay (k.links + i) ((i + 2) % (k.n + 1))).ws).length = m.ws.length := by rw [length_us, Mm.len_lay, hil]
  refine go ?_
  rw [w64 (n := (k.n : Int) - 1) (by omega) (by omega)]
  refine Cx.ifp rfl (fun h2 => ?_) (fun h2 => ?_)
  ·have e : rUp k m (i + 1) = ((rUp k m i).lay (k.links + i) ((i + 2) % (k.n + 1))).lay (k.links + i) 0 := by rw [rUp.eq_def]; simp only; rw [if_pos (by omega)]
   refine go ?_
   refine Cx.orde rfl kr_ ?_
   refine ge ?_
   rw [w64 (n := (k.links : Int) + i) (by omega) (by omega)]
   refine ge ?_
   refine Ev.strH (b := rg) kr_ rfl rfl rfl rfl rfl (by rw [hul2]; simp; omega) rfl (Pres.deps kr_) ?_
   refine ge ?_
   rw [show (us ((rUp k m i).lay (k.links + i) ((i + 2) % (k.n + 1))).ws).set (0 + ((k.links : Int) + i).toNat * 1) (.int .u64 0) = us (rUp k m (i + 1)).ws by
    rw [show 0 + ((k.links : Int) + i).toNat * 1 = k.links + i by omega, e]
    exact us_set _ _ 0]
   refine go ?_
   rw [w64 (n := (i : Int) + 1) (by omega) (by omega)]
   exact Klp.nm ⟨i + 1, by omega⟩ (sub.cons rfl (sub.cons rfl sub.nil)) (Ent.refl _) (by dsimp only; omega)
  ·have e : rUp k m (i + 1) = (rUp k m i).lay (k.links + i) ((i + 2) % (k.n + 1)) := by rw [rUp.eq_def]; simp only; rw [if_neg (by omega)]
   rw [← e]
   refine go ?_
   rw [w64 (n := (i : Int) + 1) (by omega) (by omega)]
   exact Klp.nm ⟨i + 1, by omega⟩ (sub.cons rfl (sub.cons rfl sub.nil)) (Ent.refl _) (by dsimp only; omega)
 ·have hin : i = k.n := by omega
  subst hin
  refine go ?_
  refine Kr.none (.inl rfl) ?_ rfl
  have hl2 : (fillM k m).ws.length = m.ws.length := fillM_len k m
  refine Ent.trans ?_ (Ent.cons (Ent.of s.back))
  refine RMemO.close (a := some ⟨mp, 0, none⟩) (r := some ⟨rg, 0, none⟩) (fillM k m) ⟨fillM_ok hm.1 k2, by rw [hl2]; exact hm.2⟩ ?_ hl2.symm ?_
  ·rw [fillM_n]
  ·rw [hfill]
end
end Go.Proofs.YtggnbdeokmdjbaaGreat


namespace Go.Proofs.YtggnbdeokmdjbaaGreat
open Go
attribute [local irreducible] Sx Cx Rx Fx Krg Ksq Kbl Klp Kr
section
variable {L F G : St}
abbrev RWO (x : Cn) (rm rp rs re : Nat) : Option Addr → As := Blk 57 (x.l ++ [.pointer (some ⟨rm, 0, none⟩), .pointer (some ⟨rp, 0, none⟩), .pointer (some ⟨rs, 0, none⟩), .pointer (some ⟨re, 0, none⟩)])
abbrev REpO (x : Cn) (rm : Nat) : Option Addr → As := Blk 171 [.pointer (some ⟨rm, 0, none⟩), .int .i64 2, .int .i64 3, .int .i64 x.w]
def zeroM (x : Cn) : Mm := ⟨List.replicate x.len 0, 0⟩
theorem zeroM_len (x : Cn) : (zeroM x).ws.length = x.len := by simp [zeroM]
set_option maxHeartbeats 2000000 in
theorem refWNew {x : Cn} (hx : x.ok) : Fx Tryz.prog 66 [x.v] L (fun v L' => ∃ w rm rp rs re, v = .pointer (some ⟨w, 0, none⟩) ∧
  L' = pt (some ⟨w, 0, none⟩) (RWO x rm rp rs re) :: pt (some ⟨rm, 0, none⟩) (RMemO (fillM x.spare (fillM x.pool (zeroM x)))) :: pt (some ⟨rp, 0, none⟩) (RSkO rm x.pool) :: pt (some ⟨rs, 0, none⟩) (RSkO rm x.spare) :: pt (some ⟨re, 0, none⟩) (REpO x rm) :: L) := by
 obtain ⟨b1, b2, b3, b4, b5, b6, b7⟩ := hx.b
 have hlen := hx.len_le
 refine Fx.mk Tryz.func66 k66 nb_ ?_
 dsimp only [c66, kG, kS, kH, kM, kN, kF, kL, envOf, Nat.reduceAdd]
 refine Cx.sq ?_
 refine Cx.rg ?_
 refine Sx.bx rfl rfl fun g => ?_
 refine go ?_
 refine Sx.ca rfl (refLen hx) ?_
 rintro v L' ⟨rfl, rfl⟩
 refine go ?_
 refine Sx.ca rfl (rmemNew x.len hlen) ?_
 rintro v L' ⟨rm, rfl, rfl⟩
 refine go ?_
 refine Sx.bx rfl rfl fun w => ?_
 refine go ?_
 refine Cx.ordc rfl kr_ ?_
 refine ge ?_
 refine Ev.cakH kr_ rfl rfl (refLink hx 0 (by omega)) ?_
 refine ge ?_
 refine Ev.bxH kr_ rfl rfl rfl (Pres.deps kr_) fun rp => ?_
 refine ge ?_
 refine Ev.stbH (b := w) kr_ rfl rfl rfl rfl rfl (by rfl) rfl (Pres.deps kr_) ?_
 refine ge ?_
 refine go ?_
 refine Cx.ordc rfl kr_ ?_
 refine ge ?_
 refine Ev.cakH kr_ rfl rfl (refSlot hx 0 (by omega)) ?_
 refine ge ?_
 refine Ev.bxH kr_ rfl rfl rfl (Pres.deps kr_) fun rs => ?_
 refine ge ?_
 refine Ev.stbH (b := w) kr_ rfl rfl rfl rfl rfl (by rfl) rfl (Pres.deps kr_) ?_
 refine ge ?_
 refine go ?_
 refine Cx.ordc rfl kr_ ?_
 refine ge ?_
 refine Ev.cakH kr_ rfl rfl (refPin hx 0 (by omega)) ?_
 refine ge ?_
 refine Ev.bxH kr_ rfl rfl rfl (Pres.deps kr_) fun re => ?_
 refine ge ?_
 refine Ev.stbH (b := w) kr_ rfl rfl rfl rfl rfl (by rfl) rfl (Pres.deps kr_) ?_
 refine ge ?_
 refine go ?_
 refine Sx.ca rfl (refFill (sb := rp) (mp := rm) (k := x.pool) (m := zeroM x) (hx.pool (by rw [zeroM_len]; exact Nat.le_refl _) (by rw [zeroM_len]; exact hlen))) ?_
 rintro v L' rfl
 refine go ?_
 refine Sx.ca rfl (refFill (sb := rs) (mp := rm) (k := x.spare) (m := fillM x.pool (zeroM x)) (hx.spare (by rw [fillM_len, zeroM_len]; exact Nat.le_refl _) (by rw [fillM_len, zeroM_len]; exact hlen))) ?_
 rintro v L' rfl
 refine go ?_
 refine Kr.one (.inr rfl) rfl ?_ ⟨w, rm, rp, rs, re, rfl, rfl⟩
 exact ent
theorem refSupply {w rm rp rs re : Nat} {x : Cn} [t : Take L (some ⟨w, 0, none⟩) (RWO x rm rp rs re) F] : Fx Tryz.prog 67 [.pointer (some ⟨w, 0, none⟩)] L (fun v L' => ∃ s st lm, v = .pointer (some ⟨s, 0, none⟩) ∧
  L' = pt (some ⟨s, 0, none⟩) (Blk 85 [.pointer (some ⟨w, 0, none⟩), .pointer (some ⟨st, 0, none⟩), .pointer (some ⟨lm, 0, none⟩)]) :: pt (some ⟨lm, 0, none⟩) (RLimboO Lm.nil) :: pt (some ⟨st, 0, none⟩) (RefO (min (max (x.ca : Int) 0) 64) []) :: L) := by
 refine Fx.mk Tryz.func67 k67 nb_ ?_
 dsimp only [c67, kG, kS, kH, kM, kN, kF, kL, envOf, Nat.reduceAdd]
 refine go ?_
 refine Sx.ca rfl (refNew (x.ca : Int)) ?_
 rintro v L' ⟨st, rfl, rfl⟩
 refine go ?_
 refine Sx.ca rfl refLimboNew ?_
 rintro v L' ⟨lm, rfl, rfl⟩
 refine go ?_
 refine Sx.bx rfl rfl fun s => ?_
 refine go ?_
 exact Kr.one (.inr rfl) rfl (Ent.refl _) ⟨s, st, lm, rfl, rfl⟩
end
end Go.Proofs.YtggnbdeokmdjbaaGreat


namespace Go.Proofs.YtggnbdeokmdjbaaGreat
open Go
attribute [local irreducible] Sx Cx Rx Fx Krg Ksq Kbl Klp Kr
section
variable {L F G : St}
def zeroUp (x : Cn) (m : Mm) : Nat → Mm
 | 0 => m
 | i + 1 => (zeroUp x m i).lay (x.slot + i) 0
theorem zeroUp_len (x : Cn) (m : Mm) : ∀ i, (zeroUp x m i).ws.length = m.ws.length
 | 0 => rfl
 | i + 1 => by simp only [zeroUp, Mm.len_lay]; exact zeroUp_len x m i
def poolM (x : Cn) : Mm := fillM x.pool (zeroM x)
theorem poolM_len (x : Cn) : (poolM x).ws.length = x.len := by unfold poolM; rw [fillM_len, zeroM_len]
theorem rmemPut {rm : Nat} {m : Mm} {i : Nat} (hi : i < m.ws.length) {r : Nat} {c : Nat} (hm : m.ok ∧ m.ws.length ≤ 8388608) : Ent
  (pt (some ⟨r, 0, none⟩) (Row 89 1 m.ws.length c ((us m.ws).set i (wd 0))) :: pt (some ⟨rm, 0, none⟩) (Blk 94 [.slice (some ⟨r, 0, none⟩) m.ws.length c, .int .i64 (IntKind.i64.wrap (m.n : Int))]) :: G)
  (pt (some ⟨rm, 0, none⟩) (RMemO (m.lay i 0)) :: G) :=
 RMemO.close (a := some ⟨rm, 0, none⟩) (r := some ⟨r, 0, none⟩) (m.lay i 0) ⟨Mm.ok_lay hm.1 (by omega), by rw [Mm.len_lay]; exact hm.2⟩ rfl Mm.len_lay.symm (us_set m.ws i 0)
end
end Go.Proofs.YtggnbdeokmdjbaaGreat


namespace Go.Proofs.YtggnbdeokmdjbaaGreat
def pinI (w : Nat) : Int := ((w / 2 : Nat) : Int)
def behind (e w : Nat) : Prop := w % 2 = 1 ∧ pinI w ≠ cutE e
instance (e w : Nat) : Decidable (behind e w) := by unfold behind; infer_instance
structure AdvS where
 was : Nat
 worker : Nat
 won : Bool
 at_ : Nat
 done : Bool
def AdvS.init : AdvS := ⟨0, 0, false, 0, false⟩
end Go.Proofs.YtggnbdeokmdjbaaGreat


namespace Go.Proofs.YtggnbdeokmdjbaaGreat
open Go
attribute [local irreducible] Sx Cx Rx Fx Krg Ksq Kbl Klp Kr
section
variable {L F G : St}
theorem row_some {n cap : Nat} {r : Option Addr} {i : Nat} (hi : i < n) (h : (r = none ∧ n = 0 ∧ cap = 0) ∨ ∃ g, r = some ⟨g, 0, none⟩) : ∃ g, r = some ⟨g, 0, none⟩ := by
 rcases h with h | h
 ·omega
 ·exact h
theorem rmemKey {rm : Nat} {m : Mm} {F : St} [t : Take L (some ⟨rm, 0, none⟩) (RMemO m) F] : ∀ h, holds L h → m.ok ∧ m.ws.length ≤ 8388608 := by
 intro h hh
 obtain ⟨y, hy⟩ := holds_ex.1 (t.out h hh)
 exact (holds_lift.1 hy).1
theorem refLoad {rm : Nat} {m : Mm} (i : Nat) (hi : i < m.ws.length) [t : Take L (some ⟨rm, 0, none⟩) (RMemO m) F] :
  Fx Tryz.prog 95 [.pointer (some ⟨rm, 0, none⟩), .int .i64 i] L (fun v L' => v = wd (m.at_ i) ∧ L' = pt (some ⟨rm, 0, none⟩) (RMemO m.tick) :: F) := by
 refine Fx.mk Tryz.func95 k95 nb_ ?_
 dsimp only [c95, kG, kS, kH, kM, kN, kF, kL, envOf, Nat.reduceAdd]
 refine Cx.openp (t := t) rfl ?_
 rintro ⟨r, c⟩
 simp only [rmemL, List.cons_append, List.nil_append]
 refine Cx.liftp fun hm => ?_
 refine Cx.rowkey (a := r) fun hx0 hn0 _ hk1 => ?_
 obtain ⟨rg, rfl⟩ := row_some hi (hk1.imp (fun h => ⟨h.1, h.2.1, h.2.2⟩) id)
 refine gg ?_
 refine Sx.ldr (b := rg) rfl (v := wd (m.at_ i)) (by rw [show 0 + (i : Int).toNat * 1 = i by omega]; exact us_get (Mm.get hi)) ?_
 refine go ?_
 refine Kr.one (.inr rfl) rfl ?_ ⟨rfl, rfl⟩
 exact RMemO.close (a := some ⟨rm, 0, none⟩) (r := some ⟨rg, 0, none⟩) m.tick hm (by rw [wrap_succ]; rfl) rfl rfl
theorem refStore {rm : Nat} {m : Mm} (i v : Nat) (hi : i < m.ws.length) (hv : v < 18446744073709551616) [t : Take L (some ⟨rm, 0, none⟩) (RMemO m) F] :
  Fx Tryz.prog 201 [.pointer (some ⟨rm, 0, none⟩), .int .i64 i, wd v] L (fun u L' => u = .tuple #[] ∧ L' = pt (some ⟨rm, 0, none⟩) (RMemO (m.put i v)) :: F) := by
 refine Fx.mk Tryz.func201 k201 nb_ ?_
 dsimp only [c201, kG, kS, kH, kM, kN, kF, kL, envOf, Nat.reduceAdd]
 refine Cx.openp (t := t) rfl ?_
 rintro ⟨r, c⟩
 simp only [rmemL, List.cons_append, List.nil_append]
 refine Cx.liftp fun hm => ?_
 refine Cx.rowkey (a := r) fun hx0 hn0 _ hk1 => ?_
 obtain ⟨rg, rfl⟩ := row_some hi (hk1.imp (fun h => ⟨h.1, h.2.1, h.2.2⟩) id)
 refine gg ?_
 refine Sx.str1 (b := rg) rfl rfl rfl rfl (by rw [length_us]; simp; omega) rfl ?_
 refine go ?_
 refine Kr.none (.inl rfl) ?_ ⟨rfl, rfl⟩
 refine RMemO.close (a := some ⟨rm, 0, none⟩) (r := some ⟨rg, 0, none⟩) (m.put i v) ⟨Mm.ok_put hm.1 hv, by rw [Mm.len_put]; exact hm.2⟩ (by rw [wrap_succ]; rfl) Mm.len_put.symm ?_
 rw [show 0 + (i : Int).toNat * 1 = i by omega]
 exact us_set _ _ _
theorem refCas {rm : Nat} {m : Mm} (i o v : Nat) (hi : i < m.ws.length) (ho : o < 18446744073709551616) (hv : v < 18446744073709551616) [t : Take L (some ⟨rm, 0, none⟩) (RMemO m) F] :
  Fx Tryz.prog 183 [.pointer (some ⟨rm, 0, none⟩), .int .i64 i, wd o, wd v] L (fun u L' => u = .bool (decide (m.at_ i = o)) ∧ L' = pt (some ⟨rm, 0, none⟩) (RMemO (m.cas i o v)) :: F) := by
 refine Fx.mk Tryz.func183 k183 nb_ ?_
 dsimp only [c183, kG, kS, kH, kM, kN, kF, kL, envOf, Nat.reduceAdd]
 refine Cx.openp (t := t) rfl ?_
 rintro ⟨r, c⟩
 simp only [rmemL, List.cons_append, List.nil_append]
 refine Cx.liftp fun hm => ?_
 refine Cx.rowkey (a := r) fun hx0 hn0 _ hk1 => ?_
 obtain ⟨rg, rfl⟩ := row_some hi (hk1.imp (fun h => ⟨h.1, h.2.1, h.2.2⟩) id)
 refine gg ?_
 refine Sx.ldr (b := rg) rfl (v := wd (m.at_ i)) (by rw [show 0 + (i : Int).toNat * 1 = i by omega]; exact us_get (Mm.get hi)) ?_
 refine go ?_
 refine Cx.ifn rfl (fun h => ?_) (fun h => ?_)
 ·have hne : m.at_ i ≠ o := fun e => h (by rw [e])
  refine go ?_
  refine Kr.one (.inr rfl) rfl ?_ ⟨by rw [decide_eq_false hne], rfl⟩
  rw [show m.cas i o v = m.tick by unfold Mm.cas; rw [if_neg hne]]
  exact RMemO.close (a := some ⟨rm, 0, none⟩) (r := some ⟨rg, 0, none⟩) m.tick hm (by rw [wrap_succ]; rfl) rfl rfl
 ·have he : m.at_ i = o := by omega
  refine gg ?_
  refine Sx.str1 (b := rg) rfl rfl rfl rfl (by rw [length_us]; simp; omega) rfl ?_
  refine go ?_
  refine Kr.one (.inr rfl) rfl ?_ ⟨by rw [decide_eq_true he], rfl⟩
  rw [show m.cas i o v = m.put i v by unfold Mm.cas; rw [if_pos he]]
  refine RMemO.close (a := some ⟨rm, 0, none⟩) (r := some ⟨rg, 0, none⟩) (m.put i v) ⟨Mm.ok_put hm.1 hv, by rw [Mm.len_put]; exact hm.2⟩ (by rw [wrap_succ]; rfl) Mm.len_put.symm ?_
  rw [show 0 + (i : Int).toNat * 1 = i by omega]
  exact us_set _ _ _
theorem refCut (w : Nat) (hw : w < 18446744073709551616) : Fx Tryz.prog 94 [wd w] L (fun v L' => v = .int .i64 (cutE w) ∧ L = L') := by
 refine Fx.mk Tryz.func94 k94 nb_ ?_
 dsimp only [c94, kG, kS, kH, kM, kN, kF, kL, envOf, Nat.reduceAdd]
 refine go ?_
 refine Cx.ifp rfl (fun h => ?_) (fun h => ?_)
 ·refine go ?_
  exact Kr.one (.inr rfl) rfl (Ent.refl _) ⟨by unfold cutE; rw [Int.min_eq_right (by omega)], rfl⟩
 ·refine go ?_
  rw [w64 (n := (w : Int)) (by omega) (by omega)]
  exact Kr.one (.inr rfl) rfl (Ent.refl _) ⟨by unfold cutE; rw [Int.min_eq_left (by omega)], rfl⟩
theorem refGetHead (w : Nat) (hw : w < 18446744073709551616) : Fx Tryz.prog 179 [wd w] L (fun v L' => v = hdV (hdI w) (hdT w) ∧ L = L') := by
 refine Fx.mk Tryz.func179 k179 nb_ ?_
 dsimp only [c179, kG, kS, kH, kM, kN, kF, kL, envOf, Nat.reduceAdd]
 refine Cx.sq ?_
 refine Cx.rg ?_
 refine Sx.al fun g => ?_
 refine gg ?_
 have hm : (w : Int).tmod 4294967296 = ((w % 4294967296 : Nat) : Int) := natTmod w 4294967296
 have hdv : (w : Int).tdiv 4294967296 = (hdT w : Int) := (Int.ofNat_tdiv w 4294967296).symm
 have h3 := hdT_lt hw
 rw [hm, hdv, w64 (n := ((w % 4294967296 : Nat) : Int)) (by omega) (by omega), w64 (n := ((w % 4294967296 : Nat) : Int) - 1) (by omega) (by omega), wu64 (n := (hdT w : Int)) (by omega) (by omega), w64 (n := (hdT w : Int)) (by omega) (by omega)]
 refine Sx.st (b := g) rfl rfl rfl rfl rfl rfl ?_
 dsimp only [lay]
 refine go ?_
 exact Kr_cell (b := g) (.inr rfl) rfl rfl (L' := L) Ent.drop ⟨rfl, rfl⟩
theorem refTop {sb rm : Nat} {k : Sk} (w : Nat) (hw : w < 18446744073709551616) [t : Take L (some ⟨sb, 0, none⟩) (RSkO rm k) F] :
  Fx Tryz.prog 86 [.pointer (some ⟨sb, 0, none⟩), wd w] L (fun v L' => v = .int .i64 (k.top w) ∧ L = L') := by
 refine Fx.mk Tryz.func86 k86 nb_ ?_
 dsimp only [c86, kG, kS, kH, kM, kN, kF, kL, envOf, Nat.reduceAdd]
 refine go ?_
 refine Sx.ca rfl (refGetHead w hw) ?_
 rintro v L' ⟨rfl, rfl⟩
 refine go ?_
 refine Cx.ifp rfl (fun h => ?_) (fun h => ?_)
 ·refine go ?_
  exact Kr.one (.inr rfl) rfl (Ent.refl _) ⟨by unfold Sk.top; rw [if_neg (by omega)], rfl⟩
 ·refine go ?_
  exact Kr.one (.inr rfl) rfl (Ent.refl _) ⟨by unfold Sk.top; rw [if_pos (by omega)], rfl⟩
theorem refBelow {sb rm : Nat} {k : Sk} (w : Nat) (hw : w < 18446744073709551616) (hk : k.n ≤ 4096) [t : Take L (some ⟨sb, 0, none⟩) (RSkO rm k) F] :
  Fx Tryz.prog 87 [.pointer (some ⟨sb, 0, none⟩), wd w] L (fun v L' => v = .int .i64 (k.below w) ∧ L = L') := by
 refine Fx.mk Tryz.func87 k87 nb_ ?_
 dsimp only [c87, kG, kS, kH, kM, kN, kF, kL, envOf, Nat.reduceAdd]
 refine go ?_
 rw [wu64 (n := (k.n : Int)) (by omega) (by omega)]
 refine Cx.ifp rfl (fun h => ?_) (fun h => ?_)
 ·refine go ?_
  exact Kr.one (.inr rfl) rfl (Ent.refl _) ⟨by unfold Sk.below; rw [if_pos (by omega)], rfl⟩
 ·refine go ?_
  rw [w64 (n := (w : Int)) (by omega) (by omega), w64 (n := (w : Int) - 1) (by omega) (by omega)]
  exact Kr.one (.inr rfl) rfl (Ent.refl _) ⟨by unfold Sk.below; rw [if_neg (by omega)], rfl⟩
theorem refNextHead (i : Int) (t : Nat) (j : Int) (ht : t < 4294967296) : Fx Tryz.prog 264 [hdV i t, .int .i64 j] L (fun v L' => v = hdV j (laterT t) ∧ L = L') := by
 refine Fx.mk Tryz.func264 k264 nb_ ?_
 dsimp only [c264, kG, kS, kH, kM, kN, kF, kL, envOf, Nat.reduceAdd]
 refine Cx.sq ?_
 refine Cx.rg ?_
 refine Sx.bx rfl rfl fun q => ?_
 refine Sx.al fun g => ?_
 refine go ?_
 refine Cx.ifp rfl (fun h => ?_) (fun h => ?_)
 ·refine go ?_
  refine Sx.st (b := g) rfl rfl rfl rfl rfl rfl ?_
  dsimp only [lay]
  refine go ?_
  refine Kr_cell (b := g) (.inr rfl) rfl rfl (L' := L) (Ent.trans Ent.drop Ent.drop) ⟨?_, rfl⟩
  rw [show laterT t = 0 by unfold laterT; rw [if_neg (by omega)]]
  rfl
 ·refine go ?_
  rw [w64 (n := (t : Int) + 1) (by omega) (by omega)]
  refine Sx.st (b := g) rfl rfl rfl rfl rfl rfl ?_
  dsimp only [lay]
  refine go ?_
  refine Kr_cell (b := g) (.inr rfl) rfl rfl (L' := L) (Ent.trans Ent.drop Ent.drop) ⟨?_, rfl⟩
  rw [show laterT t = t + 1 by unfold laterT; rw [if_pos (by omega)]]
  rfl
theorem refNextW (w : Nat) (i : Int) (hw : w < 18446744073709551616) (h1 : -1 ≤ i) (h2 : i < 4294967295) : Fx Tryz.prog 218 [wd w, .int .i64 i] L (fun v L' => v = wd (nextW w i) ∧ L = L') := by
 refine Fx.mk Tryz.func218 k218 nb_ ?_
 dsimp only [c218, kG, kS, kH, kM, kN, kF, kL, envOf, Nat.reduceAdd]
 refine go ?_
 refine Sx.ca rfl (refGetHead w hw) ?_
 rintro v L' ⟨rfl, rfl⟩
 refine go ?_
 refine Sx.ca rfl (refNextHead _ _ i (hdT_lt hw)) ?_
 rintro v L' ⟨rfl, rfl⟩
 refine go ?_
 refine Sx.ca rfl (refPutHead i (laterT (hdT w)) h1 h2 (laterT_lt (hdT_lt hw))) ?_
 rintro v L' ⟨rfl, rfl⟩
 refine go ?_
 exact Kr.one (.inr rfl) rfl (Ent.refl _) ⟨rfl, rfl⟩
end
end Go.Proofs.YtggnbdeokmdjbaaGreat


namespace Go.Proofs.YtggnbdeokmdjbaaGreat
open Go
attribute [local irreducible] Sx Cx Rx Fx Krg Ksq Kbl Klp Kr
theorem ints_last {l : List Int} (h : l ≠ []) : (ints l)[l.length - 1]? = some (.int .i64 (lastI l)) := by
 unfold ints lastI
 rw [List.getElem?_map, List.getLastD_eq_getLast?, ← List.getLast?_eq_getElem?, List.getLast?_eq_some_getLast h]
 rfl
section
variable {L F G : St}
def rpopL (T : TypeId) (sb : Nat) (q : PopS) (a : Option Addr) (y : Option Addr × Nat) : St :=
 [pt a (Blk T [.pointer (some ⟨sb, 0, none⟩), .int .i64 q.most, .int .i64 (q.at_ : Nat), .int .i64 q.under, wd q.was, .slice y.1 q.got.length y.2, .bool q.done]), pt y.1 (Row 3 1 q.got.length y.2 (ints q.got))]
def RPopT (T : TypeId) (sb : Nat) (q : PopS) (a : Option Addr) : As := exs (rpopL T sb q a)
abbrev RPopO := RPopT 254
theorem RPopO.close {T : TypeId} {sb : Nat} {a r : Option Addr} {c n : Nat} {v0 v1 v2 v3 v4 v6 : Value} {w : List Value} {F G : St} (q : PopS) [t : Take L a (Blk T [v0, v1, v2, v3, v4, .slice r n c, v6]) F] [u : Take F r (Row 3 1 n c w) G]
  (h0 : v0 = .pointer (some ⟨sb, 0, none⟩)) (h1 : v1 = .int .i64 q.most) (h2 : v2 = .int .i64 (q.at_ : Nat)) (h3 : v3 = .int .i64 q.under) (h4 : v4 = wd q.was) (h5 : n = q.got.length) (h6 : v6 = .bool q.done) (hw : w = ints q.got) : Ent L (pt a (RPopT T sb q) :: G) := by
 subst h0 h1 h2 h3 h4 h5 h6 hw
 refine Ent.trans (Ent.take1 (t := t) (Ent.of u.out)) ?_
 exact Ent.close (f := rpopL T sb q a) rfl (r, c)
theorem refPopNew {sb rm : Nat} {k : Sk} (most : Int) [t : Take L (some ⟨sb, 0, none⟩) (RSkO rm k) F] :
  Fx Tryz.prog 196 [.pointer (some ⟨sb, 0, none⟩), .int .i64 most] L (fun v L' => ∃ b, v = .pointer (some ⟨b, 0, none⟩) ∧ L' = pt (some ⟨b, 0, none⟩) (RPopO sb (PopS.init most)) :: L) := by
 refine Fx.mk Tryz.func196 k196 nb_ ?_
 dsimp only [c196, kG, kS, kH, kM, kN, kF, kL, envOf, Nat.reduceAdd]
 refine go ?_
 refine Sx.bx rfl rfl fun b => ?_
 refine go ?_
 refine Kr.one (.inr rfl) rfl ?_ ⟨b, rfl, rfl⟩
 refine Ent.trans (Ent.rownil 3 1) ?_
 refine RPopO.close (a := some ⟨b, 0, none⟩) (r := none) (PopS.init most) rfl (congrArg (Value.int .i64) ?_) rfl rfl rfl rfl rfl rfl
 simp only [PopS.init, cond_true, cond_false]
 (repeat' split) <;> omega
set_option maxHeartbeats 1000000 in
theorem refPopStep {b sb rm : Nat} {k : Sk} {m : Mm} {q : PopS} {F1 F2 : St} (hk : k.ok m.ws.length) (hq : q.ok k) [t1 : Take L (some ⟨b, 0, none⟩) (RPopO sb q) F1] [t2 : Take F1 (some ⟨rm, 0, none⟩) (RMemO m) F2] [t3 : Take F2 (some ⟨sb, 0, none⟩) (RSkO rm k) G] :
  Fx Tryz.prog 164 [.pointer (some ⟨b, 0, none⟩)] L (fun v L' => v = .bool (!q.done) ∧ L' = pt (some ⟨b, 0, none⟩) (RPopO sb (popStep k m q).1) :: pt (some ⟨rm, 0, none⟩) (RMemO (popStep k m q).2) :: F2) := by
 obtain ⟨k1, k2, k3, k4, k5, k6⟩ := hk
 refine Fx.mk Tryz.func164 k164 nb_ ?_
 dsimp only [c164, kG, kS, kH, kM, kN, kF, kL, envOf, Nat.reduceAdd]
 refine Cx.ent (Ent.trans (Ent.of t1.out) (Ent.cons (Ent.trans (Ent.of t2.out) (Ent.cons (Ent.of t3.out))))) ?_
 refine Cx.pure (rmemKey (rm := rm) (m := m)) fun hm => ?_
 refine Cx.openp (a := some ⟨b, 0, none⟩) rfl ?_
 rintro ⟨r, c⟩
 simp only [rpopL, List.cons_append, List.nil_append]
 cases hd : q.done with
 | true =>
   have e1 : popStep k m q = (q, m) := by unfold popStep; rw [hd]; rfl
   rw [e1]
   refine go ?_
   refine Kr.one (.inr rfl) rfl (Ent.trans (RPopO.close (sb := sb) (a := some ⟨b, 0, none⟩) (r := r) q rfl rfl rfl rfl rfl rfl (by rw [hd]) rfl) (Ent.cons (Ent.cons (Ent.of t3.back)))) ⟨rfl, rfl⟩
 | false =>
   have ha := hq.a
   rcases (show q.at_ = 0 ∨ q.at_ = 1 ∨ q.at_ = 2 by omega) with h0 | h0 | h0
   ·have hwl := Mm.at_lt hm.1 k.head
    rw [h0]
    refine go ?_
    refine Cx.ordc rfl kr_ ?_
    refine ge ?_
    refine Ev.caH kr_ rfl rfl (refLoad (rm := rm) (m := m) k.head k3) (Pres.deps kr_) ?_
    rintro v L' ⟨rfl, rfl⟩
    refine ge ?_
    refine Ev.stbH (b := b) kr_ rfl rfl rfl rfl rfl (by rfl) rfl (Pres.deps kr_) ?_
    refine ge ?_
    refine go ?_
    refine Sx.ca rfl (refTop (sb := sb) (rm := rm) (k := k) (m.at_ k.head) hwl) ?_
    rintro v L' ⟨rfl, rfl⟩
    refine go ?_
    refine Cx.ifp rfl (fun h => ?_) (fun h => ?_)
    ·have e1 : popStep k m q = ({ q with was := m.at_ k.head, got := [], done := true }, m.tick) := by unfold popStep; rw [hd, h0]; simp only [Bool.false_eq_true, if_false]; rw [if_neg (by omega)]
     rw [e1]
     refine go ?_
     refine Kr.one (.inr rfl) rfl ?_ ⟨rfl, rfl⟩
     refine Ent.trans (Ent.rownil 3 1) ?_
     refine Ent.trans (RPopO.close (sb := sb) (a := some ⟨b, 0, none⟩) (r := none) { q with was := m.at_ k.head, got := [], done := true } rfl rfl (by rw [h0]) rfl rfl rfl rfl rfl) ?_
     refine Ent.cons ?_
     refine Ent.trans ?_ (Ent.cons (Ent.of t3.back))
     exact ent
    ·have e1 : popStep k m q = ({ q with was := m.at_ k.head, got := [k.top (m.at_ k.head)], at_ := 1 }, m.tick) := by unfold popStep; rw [hd, h0]; simp only [Bool.false_eq_true, if_false]; rw [if_pos (by omega)]
     rw [e1]
     refine go ?_
     refine Sx.bs (sz := 1) rfl rfl fun g => ?_
     refine go ?_
     refine Sx.apn rfl rfl (Rd.row (b := g) (E := 3) (cap := 1) rfl) rfl (by simp [maxLen]) (by omega) fun r' c' hc => ?_
     refine go ?_
     refine Kr.one (.inr rfl) rfl ?_ ⟨rfl, rfl⟩
     refine Ent.trans (RPopO.close (sb := sb) (a := some ⟨b, 0, none⟩) (r := r') { q with was := m.at_ k.head, got := [k.top (m.at_ k.head)], at_ := 1 } rfl rfl rfl rfl rfl rfl (by rw [hd]) rfl) ?_
     refine Ent.cons ?_
     refine Ent.trans ?_ (Ent.cons (Ent.of t3.back))
     exact ent
   ·have hne := hq.ne hd (by omega)
    have hlp := List.length_pos_iff.2 hne
    have hlen8 := hq.len
    have hlast := hq.g _ (lastI_mem hne)
    have hm8 := hq.m2
    have hwl := Mm.at_lt hm.1 (k.links + (lastI q.got).toNat)
    obtain ⟨bl, hbl⟩ : ∃ bl, k.below (m.at_ (k.links + (lastI q.got).toNat)) = bl := ⟨_, rfl⟩
    have hbl1 : -1 ≤ bl := hbl ▸ k.below_ge _
    have hbl2 : bl < k.n := hbl ▸ k.below_lt _
    refine Cx.rowkey (a := r) fun hx0 hn0 hc0 hk1 => ?_
    obtain ⟨rg, rfl⟩ := row_some hlp (hk1.imp (fun h => ⟨h.1, h.2.1, h.2.2⟩) id)
    rw [h0]
    refine go ?_
    refine Cx.ordc rfl kr_ ?_
    refine ge ?_
    rw [w64 (n := (q.got.length : Int) - 1) (by omega) (by omega)]
    refine ge ?_
    refine Ev.ldrH (b := rg) (v := .int .i64 (lastI q.got)) kr_ rfl rfl (by rw [show 0 + ((q.got.length : Int) - 1).toNat * 1 = q.got.length - 1 by omega]; exact ints_last hne) ?_
    refine ge ?_
    rw [w64 (n := (k.links : Int) + lastI q.got) (by omega) (by omega), show (k.links : Int) + lastI q.got = ((k.links + (lastI q.got).toNat : Nat) : Int) by omega]
    refine Ev.caH kr_ rfl rfl (refLoad (rm := rm) (m := m) (k.links + (lastI q.got).toNat) (by omega)) (Pres.deps kr_) ?_
    rintro v L' ⟨rfl, rfl⟩
    refine ge ?_
    refine Ev.cakH kr_ rfl rfl (refBelow (sb := sb) (rm := rm) (k := k) _ hwl k2) ?_
    rw [hbl]
    refine ge ?_
    refine Ev.stbH (b := b) kr_ rfl rfl rfl rfl rfl (by rfl) rfl (Pres.deps kr_) ?_
    refine ge ?_
    refine Cx.sq ?_
    refine Cx.ordc rfl kr_ ?_
    refine ge ?_
    by_cases hb0 : 0 ≤ bl
    ·refine Ev.yes 120 rfl (decide_eq_true hb0) ?_
     refine ge ?_
     refine Cx.ifp rfl (fun h => ?_) (fun h => ?_)
     ·have e1 : popStep k m q = ({ q with under := bl, got := q.got ++ [bl] }, m.tick) := by unfold popStep; rw [hd, h0]; simp only [Bool.false_eq_true, if_false, hbl]; rw [if_pos ⟨hb0, h⟩]
      rw [e1]
      refine go ?_
      refine Cx.orde rfl kr_ ?_
      refine ge ?_
      refine Ev.bsH (sz := 1) kr_ rfl rfl rfl (.dep rfl (.keep (fun v L' ⟨_, _, e⟩ => by subst e; exact Has.cell rfl) .nil)) fun g => ?_
      refine ge ?_
      refine Ev.apH (ra := some ⟨rg, 0, none⟩) kr_ rfl rfl rfl (Rd.row (b := g) (E := 3) (cap := 1) rfl) rfl (by simp [maxLen]; omega) (by omega) (Pres.deps kr_) fun r' c' hc hk2 => ?_
      refine ge ?_
      refine Ev.stbH (b := b) kr_ rfl rfl rfl rfl rfl (by rfl) rfl (Pres.deps kr_) ?_
      refine ge ?_
      refine go ?_
      refine Kr.one (.inr rfl) rfl ?_ ⟨rfl, rfl⟩
      refine Ent.trans (RPopO.close (sb := sb) (a := some ⟨b, 0, none⟩) (r := r') { q with under := bl, got := q.got ++ [bl] } rfl rfl (by rw [h0]) rfl rfl (by simp) (by rw [hd]) (by simp [ints, lay])) ?_
      refine Ent.cons ?_
      refine Ent.trans ?_ (Ent.cons (Ent.of t3.back))
      exact ent
     ·have e1 : popStep k m q = ({ q with under := bl, at_ := 2 }, m.tick) := by unfold popStep; rw [hd, h0]; simp only [Bool.false_eq_true, if_false, hbl]; rw [if_neg (fun hh => h hh.2)]
      rw [e1]
      refine go ?_
      refine Kr.one (.inr rfl) rfl ?_ ⟨rfl, rfl⟩
      refine Ent.trans (RPopO.close (sb := sb) (a := some ⟨b, 0, none⟩) (r := some ⟨rg, 0, none⟩) { q with under := bl, at_ := 2 } rfl rfl rfl rfl rfl rfl (by rw [hd]) rfl) ?_
      refine Ent.cons ?_
      refine Ent.trans ?_ (Ent.cons (Ent.of t3.back))
      exact ent
    ·refine Ev.no 120 rfl (decide_eq_false hb0) ?_
     have e1 : popStep k m q = ({ q with under := bl, at_ := 2 }, m.tick) := by unfold popStep; rw [hd, h0]; simp only [Bool.false_eq_true, if_false, hbl]; rw [if_neg (fun hh => hb0 hh.1)]
     rw [e1]
     refine ge ?_
     refine go ?_
     refine Kr.one (.inr rfl) rfl ?_ ⟨rfl, rfl⟩
     refine Ent.trans (RPopO.close (sb := sb) (a := some ⟨b, 0, none⟩) (r := some ⟨rg, 0, none⟩) { q with under := bl, at_ := 2 } rfl rfl rfl rfl rfl rfl (by rw [hd]) rfl) ?_
     refine Ent.cons ?_
     refine Ent.trans ?_ (Ent.cons (Ent.of t3.back))
     exact ent
   ·have hu1 := hq.u1
    have hu2 := hq.u2
    have hw := hq.w
    have hnw := nextW_lt (i := q.under) hw (by omega)
    have e1 : popStep k m q = ({ q with at_ := 0, done := decide (m.at_ k.head = q.was) }, m.cas k.head q.was (nextW q.was q.under)) := by unfold popStep; rw [hd, h0]; rfl
    rw [e1, h0]
    refine go ?_
    refine Cx.ordc rfl kr_ ?_
    refine ge ?_
    refine Ev.cakH kr_ rfl rfl (refNextW q.was q.under hw hu1 (by omega)) ?_
    refine ge ?_
    refine Ev.caH kr_ rfl rfl (refCas (rm := rm) (m := m) k.head q.was (nextW q.was q.under) k3 hw hnw) (Pres.deps kr_) ?_
    rintro v L' ⟨rfl, rfl⟩
    refine ge ?_
    refine Ev.stbH (b := b) kr_ rfl rfl rfl rfl rfl (by rfl) rfl (Pres.deps kr_) ?_
    refine ge ?_
    refine go ?_
    refine Kr.one (.inr rfl) rfl ?_ ⟨rfl, rfl⟩
    refine Ent.trans (RPopO.close (sb := sb) (a := some ⟨b, 0, none⟩) (r := r) { q with at_ := 0, done := decide (m.at_ k.head = q.was) } rfl rfl rfl rfl rfl rfl rfl rfl) ?_
    refine Ent.cons ?_
    refine Ent.trans ?_ (Ent.cons (Ent.of t3.back))
    exact ent
theorem refPopGot {b sb rm : Nat} {k : Sk} {q : PopS} {F1 : St} (hd : q.done = true) (hb : q.got.length ≤ 8) [t1 : Take L (some ⟨b, 0, none⟩) (RPopO sb q) F1] :
  Fx Tryz.prog 165 [.pointer (some ⟨b, 0, none⟩)] L (fun v L' => ∃ r c, v = .slice r q.got.length c ∧ L' = pt r (Row 3 1 q.got.length c (ints q.got)) :: pt (some ⟨b, 0, none⟩) (RPopO sb q) :: F1) := by
 refine Fx.mk Tryz.func165 k165 nb_ ?_
 dsimp only [c165, kG, kS, kH, kM, kN, kF, kL, envOf, Nat.reduceAdd]
 refine Cx.openp (t := t1) rfl ?_
 rintro ⟨r, c⟩
 simp only [rpopL, List.cons_append, List.nil_append]
 rw [hd]
 refine Cx.rowkey (a := r) fun hx0 hn0 hc0 hk1 => ?_
 refine go ?_
 refine Sx.apn rfl rfl (Rd.any (a := r) hx0 (hk1.imp (fun h => h.2.1) id)) (ones_ints _) (by simp [maxLen]; omega) (by omega) fun r' c' hc => ?_
 refine go ?_
 refine Kr.one (.inr rfl) rfl (Ent.cons ?_) ⟨r', c', rfl, rfl⟩
 exact RPopO.close (sb := sb) (a := some ⟨b, 0, none⟩) (r := r) q rfl rfl rfl rfl rfl rfl (by rw [hd]) rfl
end
end Go.Proofs.YtggnbdeokmdjbaaGreat


namespace Go.Proofs.YtggnbdeokmdjbaaGreat
open Go
attribute [local irreducible] Sx Cx Rx Fx Krg Ksq Kbl Klp Kr
section
variable {L F : St}
theorem anyOpen_least {now : Int} {m : Lm} (h : 2 ≤ now) : decide (0 ≤ leastI (leastUp now m 3)) = anyOpen now m := by
 refine decide_eq_decide.2 ?_
 cases hl : leastUp now m 3 with
 | none =>
   have hn := leastUp_none hl
   simp [leastI, hn 0 (by omega), hn 1 (by omega), hn 2 (by omega)]
 | some j =>
   have hj := leastUp_lt hl
   have h1 := hj.1
   simp only [leastI]
   refine ⟨fun _ => ⟨h, ?_⟩, fun _ => by omega⟩
   rcases (show j = 0 ∨ j = 1 ∨ j = 2 by omega) with rfl | rfl | rfl
   ·exact .inl hj.2
   ·exact .inr (.inl hj.2)
   ·exact .inr (.inr hj.2)
theorem refOpen {b : Nat} {m : Lm} {now : Int} {F : St} [t : Take L (some ⟨b, 0, none⟩) (RLimboO m) F] (h3 : now ≤ 9223372036854775807) :
  Fx Tryz.prog 234 [.pointer (some ⟨b, 0, none⟩), .int .i64 now] L (fun v L' => v = .bool (anyOpen now m) ∧ L = L') := by
 refine Fx.mk Tryz.func234 k234 nb_ ?_
 dsimp only [c234, kG, kS, kH, kM, kN, kF, kL, envOf, Nat.reduceAdd]
 refine go ?_
 refine Sx.ifp rfl (fun h => ?_) (fun h => ?_)
 ·refine go ?_
  refine Sx.ca rfl (refLeast (b := b) (m := m) (F := F) h h3) ?_
  rintro v L' ⟨rfl, rfl⟩
  refine go ?_
  exact Kr.one (.inr rfl) rfl (Ent.refl _) ⟨congrArg Value.bool (anyOpen_least h), rfl⟩
 ·have h' : ¬ 2 ≤ now := h
  refine go ?_
  exact Kr.one (.inr rfl) rfl (Ent.refl _) ⟨by simp [anyOpen, h'], rfl⟩
theorem refLimboLen {b : Nat} {m : Lm} {F : St} [t : Take L (some ⟨b, 0, none⟩) (RLimboO m) F] (hb : m.size ≤ 1000000000) :
  Fx Tryz.prog 167 [.pointer (some ⟨b, 0, none⟩)] L (fun v L' => v = .int .i64 m.size ∧ L = L') := by
 have hs : m.size = m.x0.length + m.x1.length + m.x2.length := rfl
 refine Fx.kept (t := t) ?_
 refine Fx.mk Tryz.func167 k167 nb_ ?_
 dsimp only [c167, kG, kS, kH, kM, kN, kF, kL, envOf, Nat.reduceAdd]
 refine Cx.openp (t := t) rfl ?_
 rintro ⟨⟨⟨r0, c0⟩, ⟨r1, c1⟩, ⟨r2, c2⟩⟩, ⟨u0, u1, u2, l⟩⟩
 simp only [refL, List.cons_append, List.nil_append]
 refine Cx.liftp fun hT => ?_
 refine go ?_
 refine Cx.ordc rfl kr_ ?_
 refine ge ?_
 rw [w64 (n := (m.x0.length : Int) + m.x1.length) (by omega) (by omega), w64 (n := (m.x0.length : Int) + m.x1.length + m.x2.length) (by omega) (by omega)]
 refine go ?_
 refine Kr.one (.inr rfl) rfl (RLimboO.close (a := some ⟨b, 0, none⟩) (r0 := r0) (r1 := r1) (r2 := r2) m hT rfl rfl rfl rfl rfl rfl rfl rfl rfl rfl) ⟨?_, rfl⟩
 refine congrArg (Value.int .i64) ?_
 omega
theorem refBucket {b : Nat} {m : Lm} {k : Int} {F : St} [t : Take L (some ⟨b, 0, none⟩) (RLimboO m) F] (hb : m.size ≤ 1000000000) :
  Fx Tryz.prog 29 [.pointer (some ⟨b, 0, none⟩), .int .i64 k] L (fun v L' =>
   ((k < 0 ∨ 3 ≤ k ∨ m.items k.toNat = []) ∧ v = .tuple #[.int .i64 0, .slice none 0 0] ∧ L' = pt (some ⟨b, 0, none⟩) (RLimboO m) :: F) ∨
   (¬ (k < 0 ∨ 3 ≤ k ∨ m.items k.toNat = []) ∧ ∃ ro co, v = .tuple #[.int .i64 (m.tag k.toNat), .slice ro (m.items k.toNat).length co] ∧ L' = pt ro (Row 3 1 (m.items k.toNat).length co (ints (m.items k.toNat))) :: pt (some ⟨b, 0, none⟩) (RLimboO m) :: F)) := by
 have hs : m.size = m.x0.length + m.x1.length + m.x2.length := rfl
 refine Fx.mk Tryz.func29 k29 nb_ ?_
 dsimp only [c29, kG, kS, kH, kM, kN, kF, kL, envOf, Nat.reduceAdd]
 refine Cx.openp (t := t) rfl ?_
 rintro ⟨⟨⟨r0, c0⟩, ⟨r1, c1⟩, ⟨r2, c2⟩⟩, ⟨u0, u1, u2, l⟩⟩
 simp only [refL, List.cons_append, List.nil_append]
 refine Cx.liftp fun hT => ?_
 refine Cx.rowkey (a := r0) fun hx0 hn0 _ hk0 => ?_
 refine Cx.rowkey (a := r1) fun hx1 hn1 _ hk1 => ?_
 refine Cx.rowkey (a := r2) fun hx2 hn2 _ hk2 => ?_
 refine go ?_
 refine Sx.ifp rfl (fun h1 => ?_) (fun h1 => ?_)
 ·refine go ?_
  exact Kr.two (.inr rfl) rfl rfl (RLimboO.close (a := some ⟨b, 0, none⟩) (r0 := r0) (r1 := r1) (r2 := r2) m hT rfl rfl rfl rfl rfl rfl rfl rfl rfl rfl) (.inl ⟨.inl h1, rfl, rfl⟩)
 refine go ?_
 refine Sx.ifp rfl (fun h2 => ?_) (fun h2 => ?_)
 ·refine go ?_
  exact Kr.two (.inr rfl) rfl rfl (RLimboO.close (a := some ⟨b, 0, none⟩) (r0 := r0) (r1 := r1) (r2 := r2) m hT rfl rfl rfl rfl rfl rfl rfl rfl rfl rfl) (.inl ⟨.inr (.inl (by omega)), rfl, rfl⟩)
 rcases (show k = 0 ∨ k = 1 ∨ k = 2 by omega) with rfl | rfl | rfl
 ·refine gg ?_
  refine Cx.ifp rfl (fun h3 => ?_) (fun h3 => ?_)
  ·refine go ?_
   exact Kr.two (.inr rfl) rfl rfl (RLimboO.close (a := some ⟨b, 0, none⟩) (r0 := r0) (r1 := r1) (r2 := r2) m hT rfl rfl rfl rfl rfl rfl rfl rfl rfl rfl) (.inl ⟨.inr (.inr (List.eq_nil_of_length_eq_zero (by simpa [Lm.items] using h3))), rfl, rfl⟩)
  have h4 : m.x0 ≠ [] := fun e => h3 (by rw [e]; rfl)
  have hu := hT.h0 h4
  refine go ?_
  refine Cx.ordc rfl kr_ ?_
  refine ge ?_
  refine Ev.apnH kr_ rfl rfl rfl (Rd.any (a := r0) hx0 (hk0.imp (fun h => h.2.1) id)) (ones_ints _) (by simp [maxLen]; omega) (by omega) (.dep rfl (.keep (fun v L' ⟨_, _, _, _, _, e⟩ => by subst e; exact Has.cell rfl) .nil)) fun ra ca hc _ => ?_
  refine ge ?_
  refine go ?_
  refine Kr.two (.inr rfl) rfl rfl ?_ (.inr ⟨?_, ra, ca, by rw [hu]; rfl, rfl⟩)
  ·exact Ent.cons (RLimboO.close (a := some ⟨b, 0, none⟩) (r0 := r0) (r1 := r1) (r2 := r2) m hT rfl rfl rfl rfl rfl rfl rfl rfl rfl rfl)
  ·rintro (h | h | h)
   ·omega
   ·omega
   ·exact h4 h
 ·refine gg ?_
  refine Cx.ifp rfl (fun h3 => ?_) (fun h3 => ?_)
  ·refine go ?_
   exact Kr.two (.inr rfl) rfl rfl (RLimboO.close (a := some ⟨b, 0, none⟩) (r0 := r0) (r1 := r1) (r2 := r2) m hT rfl rfl rfl rfl rfl rfl rfl rfl rfl rfl) (.inl ⟨.inr (.inr (List.eq_nil_of_length_eq_zero (by simpa [Lm.items] using h3))), rfl, rfl⟩)
  have h4 : m.x1 ≠ [] := fun e => h3 (by rw [e]; rfl)
  have hu := hT.h1 h4
  refine go ?_
  refine Cx.ordc rfl kr_ ?_
  refine ge ?_
  refine Ev.apnH kr_ rfl rfl rfl (Rd.any (a := r1) hx1 (hk1.imp (fun h => h.2.1) id)) (ones_ints _) (by simp [maxLen]; omega) (by omega) (.dep rfl (.keep (fun v L' ⟨_, _, _, _, _, e⟩ => by subst e; exact Has.cell rfl) .nil)) fun ra ca hc _ => ?_
  refine ge ?_
  refine go ?_
  refine Kr.two (.inr rfl) rfl rfl ?_ (.inr ⟨?_, ra, ca, by rw [hu]; rfl, rfl⟩)
  ·exact Ent.cons (RLimboO.close (a := some ⟨b, 0, none⟩) (r0 := r0) (r1 := r1) (r2 := r2) m hT rfl rfl rfl rfl rfl rfl rfl rfl rfl rfl)
  ·rintro (h | h | h)
   ·omega
   ·omega
   ·exact h4 h
 ·refine gg ?_
  refine Cx.ifp rfl (fun h3 => ?_) (fun h3 => ?_)
  ·refine go ?_
   exact Kr.two (.inr rfl) rfl rfl (RLimboO.close (a := some ⟨b, 0, none⟩) (r0 := r0) (r1 := r1) (r2 := r2) m hT rfl rfl rfl rfl rfl rfl rfl rfl rfl rfl) (.inl ⟨.inr (.inr (List.eq_nil_of_length_eq_zero (by simpa [Lm.items] using h3))), rfl, rfl⟩)
  have h4 : m.x2 ≠ [] := fun e => h3 (by rw [e]; rfl)
  have hu := hT.h2 h4
  refine go ?_
  refine Cx.ordc rfl kr_ ?_
  refine ge ?_
  refine Ev.apnH kr_ rfl rfl rfl (Rd.any (a := r2) hx2 (hk2.imp (fun h => h.2.1) id)) (ones_ints _) (by simp [maxLen]; omega) (by omega) (.dep rfl (.keep (fun v L' ⟨_, _, _, _, _, e⟩ => by subst e; exact Has.cell rfl) .nil)) fun ra ca hc _ => ?_
  refine ge ?_
  refine go ?_
  refine Kr.two (.inr rfl) rfl rfl ?_ (.inr ⟨?_, ra, ca, by rw [hu]; rfl, rfl⟩)
  ·exact Ent.cons (RLimboO.close (a := some ⟨b, 0, none⟩) (r0 := r0) (r1 := r1) (r2 := r2) m hT rfl rfl rfl rfl rfl rfl rfl rfl rfl rfl)
  ·rintro (h | h | h)
   ·omega
   ·omega
   ·exact h4 h
theorem RTag.put0 {m : Lm} {u0 u1 u2 l : Int} (h : RTag m u0 u1 u2 l) : RTag (m.put 0 0 []) u0 u1 u2 l := ⟨fun x => absurd rfl x, h.h1, h.h2, h.hl⟩
theorem RTag.put1 {m : Lm} {u0 u1 u2 l : Int} (h : RTag m u0 u1 u2 l) : RTag (m.put 1 0 []) u0 u1 u2 l := ⟨h.h0, fun x => absurd rfl x, h.h2, h.hl⟩
theorem RTag.put2 {m : Lm} {u0 u1 u2 l : Int} (h : RTag m u0 u1 u2 l) : RTag (m.put 2 0 []) u0 u1 u2 l := ⟨h.h0, h.h1, fun x => absurd rfl x, h.hl⟩
set_option maxHeartbeats 4000000 in
theorem refReady {b : Nat} {m : Lm} {now : Int} {F : St} [t : Take L (some ⟨b, 0, none⟩) (RLimboO m) F] (hb : m.size ≤ 100000000) (hnow : now ≤ 9223372036854775807) :
  Fx Tryz.prog 175 [.pointer (some ⟨b, 0, none⟩), .int .i64 now] L (fun v L' => ∃ ro co, v = .slice ro (readyAll now m).1.length co ∧
   L' = pt ro (Row 3 1 (readyAll now m).1.length co (ints (readyAll now m).1)) :: pt (some ⟨b, 0, none⟩) (RLimboO (readyAll now m).2) :: F) := by
 refine Fx.mk Tryz.func175 k175 nb_ ?_
 dsimp only [c175, kG, kS, kH, kM, kN, kF, kL, envOf, Nat.reduceAdd]
 refine Cx.ent (Ent.trans (Ent.of t.out) (Ent.rownil 3 1)) ?_
 refine go ?_
 refine Cx.lp (α := {p : (List Int × Lm) × (Option Addr × Nat) // p.1.1.length + p.1.2.size = m.size ∧ p.1.1 ++ (readyAll now p.1.2).1 = (readyAll now m).1 ∧ (readyAll now p.1.2).2 = (readyAll now m).2})
  (fun p => [(0, .pointer (some ⟨b, 0, none⟩)), (1, .int .i64 now), (5, .slice p.1.2.1 p.1.1.1.length p.1.2.2)])
  (fun p => pt p.1.2.1 (Row 3 1 p.1.1.1.length p.1.2.2 (ints p.1.1.1)) :: pt (some ⟨b, 0, none⟩) (RLimboO p.1.1.2) :: F) (fun p => p.1.1.2.cnt) ⟨(([], m), (none, 0)), by simp, by simp, rfl⟩ (sub.cons rfl (sub.cons rfl (sub.cons rfl sub.nil))) (Ent.refl _) ?_
 rintro ⟨⟨⟨out, m'⟩, ⟨ro, co⟩⟩, hsz, he1, he2⟩
 dsimp only at hsz he1 he2 ⊢
 refine go ?_
 refine Sx.ca rfl (refOpen (b := b) (m := m') hnow) ?_
 rintro v L' ⟨rfl, rfl⟩
 refine go ?_
 have hall : ∀ o, 2 ≤ now → leastUp now m' 3 = o → readyAll now m' = match o with
    | none => ([], m')
    | some j => (m'.items j ++ (readyAll now (m'.put j 0 [])).1, (readyAll now (m'.put j 0 [])).2) := by
   intro o h2 ho
   unfold readyAll
   simp only [if_pos h2]
   cases o with
   | none =>
     cases hc : m'.cnt with
     | zero => rfl
     | succ c => simp [readyM, ho]
   | some j =>
     rw [cnt_put (leastUp_lt ho).1 (open_ne (leastUp_lt ho).2)]
     simp [readyM, ho]
 refine Cx.cd rfl (fun hop => ?_) (fun hop => ?_)
 ·have h2 : 2 ≤ now := (of_decide_eq_true hop).1
  rw [← anyOpen_least h2] at hop
  have hl := of_decide_eq_true hop
  refine go ?_
  refine Sx.ca rfl (refLeast (b := b) (m := m') h2 hnow) ?_
  rintro v L' ⟨rfl, rfl⟩
  rcases hlu : leastUp now m' 3 with _ | j
  ·rw [hlu] at hl; exact absurd hl (by decide)
  have hra := hall _ h2 hlu
  have hj := (leastUp_lt hlu).1
  have hne := open_ne (leastUp_lt hlu).2
  have hsp := size_put (m := m') hj
  have hcp := cnt_put hj hne
  have hm1 : out.length + (m'.x0.length + m'.x1.length + m'.x2.length) = m.size := hsz
  dsimp only at hra
  rw [hra, ← List.append_assoc] at he1
  rw [hra] at he2
  simp only [leastI]
  refine Sx.openp (a := some ⟨b, 0, none⟩) rfl ?_
  rintro ⟨⟨⟨r0, c0⟩, ⟨r1, c1⟩, ⟨r2, c2⟩⟩, ⟨u0, u1, u2, l⟩⟩
  simp only [refL, List.cons_append, List.nil_append]
  refine Sx.liftp fun hT => ?_
  rcases (show j = 0 ∨ j = 1 ∨ j = 2 by omega) with rfl | rfl | rfl
  ·refine gg ?_
   refine Sx.rowkey (a := r0) fun hxj hnj _ hkj => ?_
   refine Sx.ap (ra := ro) rfl rfl (Rd.any (a := r0) hxj (hkj.imp (fun h => h.2.1) id)) (ones_ints _) (by simp [maxLen]; omega) (by omega) fun ra ca hc => ?_
   refine gg ?_
   refine Klp.nm ⟨((out ++ m'.items 0, m'.put 0 0 []), (ra, ca)), by dsimp only; rw [List.length_append]; omega, he1, he2⟩ (sub.cons rfl (sub.cons rfl (sub.cons ?_ sub.nil))) ?_ (by dsimp only; omega)
   ·show _ = some (Value.slice ra (out ++ m'.items 0).length ca)
    rw [show (out ++ m'.items 0).length = out.length + m'.x0.length by simp [Lm.items]]
    rfl
   ·dsimp only
    rw [ints_append, List.length_append]
    refine Ent.take1 (t := inferInstance) ?_
    refine Ent.trans (Ent.rownil 3 1) ?_
    refine Ent.trans (RLimboO.close (a := some ⟨b, 0, none⟩) (r0 := none) (r1 := r1) (r2 := r2) (m'.put 0 0 []) hT.put0 rfl rfl rfl rfl rfl rfl rfl rfl rfl rfl) ?_
    exact ent
  ·refine gg ?_
   refine Sx.rowkey (a := r1) fun hxj hnj _ hkj => ?_
   refine Sx.ap (ra := ro) rfl rfl (Rd.any (a := r1) hxj (hkj.imp (fun h => h.2.1) id)) (ones_ints _) (by simp [maxLen]; omega) (by omega) fun ra ca hc => ?_
   refine gg ?_
   refine Klp.nm ⟨((out ++ m'.items 1, m'.put 1 0 []), (ra, ca)), by dsimp only; rw [List.length_append]; omega, he1, he2⟩ (sub.cons rfl (sub.cons rfl (sub.cons ?_ sub.nil))) ?_ (by dsimp only; omega)
   ·show _ = some (Value.slice ra (out ++ m'.items 1).length ca)
    rw [show (out ++ m'.items 1).length = out.length + m'.x1.length by simp [Lm.items]]
    rfl
   ·dsimp only
    rw [ints_append, List.length_append]
    refine Ent.take1 (t := inferInstance) ?_
    refine Ent.trans (Ent.rownil 3 1) ?_
    refine Ent.trans (RLimboO.close (a := some ⟨b, 0, none⟩) (r0 := r0) (r1 := none) (r2 := r2) (m'.put 1 0 []) hT.put1 rfl rfl rfl rfl rfl rfl rfl rfl rfl rfl) ?_
    exact ent
  ·refine gg ?_
   refine Sx.rowkey (a := r2) fun hxj hnj _ hkj => ?_
   refine Sx.ap (ra := ro) rfl rfl (Rd.any (a := r2) hxj (hkj.imp (fun h => h.2.1) id)) (ones_ints _) (by simp [maxLen]; omega) (by omega) fun ra ca hc => ?_
   refine gg ?_
   refine Klp.nm ⟨((out ++ m'.items 2, m'.put 2 0 []), (ra, ca)), by dsimp only; rw [List.length_append]; omega, he1, he2⟩ (sub.cons rfl (sub.cons rfl (sub.cons ?_ sub.nil))) ?_ (by dsimp only; omega)
   ·show _ = some (Value.slice ra (out ++ m'.items 2).length ca)
    rw [show (out ++ m'.items 2).length = out.length + m'.x2.length by simp [Lm.items]]
    rfl
   ·dsimp only
    rw [ints_append, List.length_append]
    refine Ent.take1 (t := inferInstance) ?_
    refine Ent.trans (Ent.rownil 3 1) ?_
    refine Ent.trans (RLimboO.close (a := some ⟨b, 0, none⟩) (r0 := r0) (r1 := r1) (r2 := none) (m'.put 2 0 []) hT.put2 rfl rfl rfl rfl rfl rfl rfl rfl rfl rfl) ?_
    exact ent
 ·refine go ?_
  have hra : readyAll now m' = ([], m') := by
   by_cases h2 : 2 ≤ now
   ·rw [← anyOpen_least h2] at hop
    have hl := of_decide_eq_false hop
    rcases hlu : leastUp now m' 3 with _ | j
    ·exact hall _ h2 hlu
    ·rw [hlu] at hl; exact absurd (show (0 : Int) ≤ leastI (some j) by simp [leastI]) hl
   ·unfold readyAll; rw [if_neg h2]
  rw [hra] at he1 he2
  simp only [List.append_nil] at he1
  subst he1; subst he2
  exact Kr.one (.inr rfl) rfl (Ent.refl _) ⟨ro, co, rfl, rfl⟩
end
end Go.Proofs.YtggnbdeokmdjbaaGreat


namespace Go.Proofs.YtggnbdeokmdjbaaGreat
open Go
attribute [local irreducible] Sx Cx Rx Fx Krg Ksq Kbl Klp Kr
section
variable {L F : St}
theorem RTag.put_0 {m : Lm} {u0 u1 u2 l tag : Int} {xs : List Int} (h : RTag m u0 u1 u2 l) : RTag { m.put 0 tag xs with last := tag } tag u1 u2 tag := ⟨fun _ => rfl, h.h1, h.h2, .inl rfl⟩
theorem RTag.put_1 {m : Lm} {u0 u1 u2 l tag : Int} {xs : List Int} (h : RTag m u0 u1 u2 l) : RTag { m.put 1 tag xs with last := tag } u0 tag u2 tag := ⟨h.h0, fun _ => rfl, h.h2, .inl rfl⟩
theorem RTag.put_2 {m : Lm} {u0 u1 u2 l tag : Int} {xs : List Int} (h : RTag m u0 u1 u2 l) : RTag { m.put 2 tag xs with last := tag } u0 u1 tag tag := ⟨h.h0, h.h1, fun _ => rfl, .inl rfl⟩
set_option maxHeartbeats 4000000 in
theorem refRetire {b : Nat} {m : Lm} {tag : Int} {ys : List Int} {ya : Option Addr} {n c : Nat} {F : St} [t : Take L (some ⟨b, 0, none⟩) (RLimboO m) F] (hr : Rd F 1 ya n (ints ys)) (hb : m.size + n ≤ 1000000000) :
  Fx Tryz.prog 107 [.pointer (some ⟨b, 0, none⟩), .int .i64 tag, .slice ya n c] L (fun v L' =>
   (refused m tag ys ∧ v = .tuple #[.slice none 0 0, .bool false] ∧ L' = pt (some ⟨b, 0, none⟩) (RLimboO m) :: F) ∨
   (¬ refused m tag ys ∧ ∃ ro co, v = .tuple #[.slice ro (outM m tag).length co, .bool true] ∧ L' = pt ro (Row 3 1 (outM m tag).length co (ints (outM m tag))) :: pt (some ⟨b, 0, none⟩) (RLimboO (retireM m tag ys)) :: F)) := by
 have hn : n = ys.length := by have := hr.1; simp [ints] at this; omega
 have hy0 : (n : Int) = 0 ↔ ys = [] := by rw [← List.length_eq_zero_iff]; omega
 unfold Lm.size at hb
 refine Fx.mk Tryz.func107 k107 nb_ ?_
 dsimp only [c107, kG, kS, kH, kM, kN, kF, kL, envOf, Nat.reduceAdd]
 refine Cx.openp (t := t) rfl ?_
 rintro ⟨⟨⟨r0, c0⟩, ⟨r1, c1⟩, ⟨r2, c2⟩⟩, ⟨u0, u1, u2, l⟩⟩
 simp only [refL, List.cons_append, List.nil_append]
 refine Cx.liftp fun hT => ?_
 refine Cx.rowkey (a := r0) fun hx0 hn0 _ hk0 => ?_
 refine Cx.rowkey (a := r1) fun hx1 hn1 _ hk1 => ?_
 refine Cx.rowkey (a := r2) fun hx2 hn2 _ hk2 => ?_
 have hl := hT.hl
 refine go ?_
 refine Sx.ifp rfl (fun h1 => ?_) (fun h1 => ?_)
 ·refine go ?_
  exact Kr.two (.inr rfl) rfl rfl (RLimboO.close (a := some ⟨b, 0, none⟩) (r0 := r0) (r1 := r1) (r2 := r2) m hT rfl rfl rfl rfl rfl rfl rfl rfl rfl rfl) (.inl ⟨.inl (hy0.1 h1), rfl, rfl⟩)
 refine go ?_
 refine Sx.ifp rfl (fun h2 => ?_) (fun h2 => ?_)
 ·refine go ?_
  exact Kr.two (.inr rfl) rfl rfl (RLimboO.close (a := some ⟨b, 0, none⟩) (r0 := r0) (r1 := r1) (r2 := r2) m hT rfl rfl rfl rfl rfl rfl rfl rfl rfl rfl) (.inl ⟨.inr (.inl h2), rfl, rfl⟩)
 refine go ?_
 refine Sx.ifp rfl (fun h3 => ?_) (fun h3 => ?_)
 ·refine go ?_
  exact Kr.two (.inr rfl) rfl rfl (RLimboO.close (a := some ⟨b, 0, none⟩) (r0 := r0) (r1 := r1) (r2 := r2) m hT rfl rfl rfl rfl rfl rfl rfl rfl rfl rfl) (.inl ⟨.inr (.inr (.inl h3)), rfl, rfl⟩)
 refine go ?_
 refine Cx.cd rfl (fun h4 => ?_) (fun h4 => ?_)
 ·have h4' : tag < l := by simpa [pick] using h4
  refine go ?_
  exact Kr.two (.inr rfl) rfl rfl (RLimboO.close (a := some ⟨b, 0, none⟩) (r0 := r0) (r1 := r1) (r2 := r2) m hT rfl rfl rfl rfl rfl rfl rfl rfl rfl rfl) (.inl ⟨.inr (.inr (.inr (by omega))), rfl, rfl⟩)
 have h4' : ¬ tag < l := by simpa [pick] using h4
 have hnr : ¬ refused m tag ys := by
  rintro (h | h | h | h)
  ·exact h1 (hy0.2 h)
  ·exact h2 h
  ·exact h3 h
  ·omega
 have hmod : tag.tmod 3 = (bucketOf tag : Int) := by
  unfold bucketOf
  rw [Int.tmod_eq_emod]
  split <;> omega
 refine go ?_
 refine Sx.pv rfl (by decide) ?_
 rw [hmod]
 have hlt : bucketOf tag < 3 := Nat.mod_lt _ (by omega)
 have hout : outM m tag = if m.tag (bucketOf tag) < tag then m.items (bucketOf tag) else [] := rfl
 have hret : retireM m tag ys = { m.put (bucketOf tag) tag ((if m.tag (bucketOf tag) < tag then [] else m.items (bucketOf tag)) ++ ys) with last := tag } := rfl
 rw [hout, hret]
 generalize bucketOf tag = k at hlt ⊢
 rcases (show k = 0 ∨ k = 1 ∨ k = 2 by omega) with rfl | rfl | rfl
 ·refine gg ?_
  have hti : m.tag 0 = m.t0 := rfl
  have hit : m.items 0 = m.x0 := rfl
  refine Sx.ifp rfl (fun h5 => ?_) (fun h5 => ?_)
  ·have hne : m.x0 ≠ [] := fun e => by rw [e] at h5; exact absurd h5 (by decide)
   have hu := hT.h0 hne
   refine gg ?_
   refine Cx.ifp rfl (fun h6 => ?_) (fun h6 => ?_)
   ·refine gg ?_
    refine Cx.ordc rfl kr_ ?_
    refine ge ?_
    refine Ev.pass 4 rfl kr_ ?_
    refine Ev.bring 2 rfl ?_
    refine ge ?_
    refine Ev.apnH kr_ rfl rfl rfl (Rd.nil _ _ _) rfl (by simp [maxLen]; try omega) (by omega) (Pres.deps kr_) fun ra ca hc _ => ?_
    refine ge ?_
    refine Ev.apH (ra := ra) kr_ rfl rfl rfl (hr.ent (by repeat (first | exact Ent.refl _ | (refine Ent.trans Ent.drop ?_)))) (ones_ints _) (by simp [maxLen]; omega) (by omega) (Pres.deps kr_) fun rb cb hc2 _ => ?_
    refine ge ?_
    refine Ev.stbH (b := b) kr_ rfl rfl rfl rfl rfl (by rfl) rfl (Pres.deps kr_) ?_
    refine ge ?_
    refine go ?_
    have h7 : m.t0 < tag := by omega
    rw [hti, hit, if_pos h7, if_pos h7]
    refine Kr.two (.inr rfl) rfl rfl ?_ (.inr ⟨hnr, r0, c0, rfl, rfl⟩)
    refine Ent.trans (RLimboO.close (a := some ⟨b, 0, none⟩) (r0 := rb) (r1 := r1) (r2 := r2) { m.put 0 tag ([] ++ ys) with last := tag } hT.put_0 rfl rfl rfl rfl (by simp [Lm.put, Lm.items]; omega) rfl rfl (by simp [Lm.put, Lm.items, ints_append]) rfl rfl) ?_
    exact ent
   ·refine gg ?_
    refine Cx.ordc rfl kr_ ?_
    refine ge ?_
    refine Ev.pass 4 rfl kr_ ?_
    refine Ev.bring 2 rfl ?_
    refine ge ?_
    refine Ev.apnH kr_ rfl rfl rfl (Rd.any (a := r0) hx0 (hk0.imp (fun h => h.2.1) id)) (ones_ints _) (by simp [maxLen]; try omega) (by omega) (Pres.deps kr_) fun ra ca hc _ => ?_
    refine ge ?_
    refine Ev.apH (ra := ra) kr_ rfl rfl rfl (hr.ent (by repeat (first | exact Ent.refl _ | (refine Ent.trans Ent.drop ?_)))) (ones_ints _) (by simp [maxLen]; omega) (by omega) (Pres.deps kr_) fun rb cb hc2 _ => ?_
    refine ge ?_
    refine Ev.stbH (b := b) kr_ rfl rfl rfl rfl rfl (by rfl) rfl (Pres.deps kr_) ?_
    refine ge ?_
    refine go ?_
    have h7 : ¬ m.t0 < tag := by omega
    rw [hti, hit, if_neg h7, if_neg h7]
    refine Kr.two (.inr rfl) rfl rfl ?_ (.inr ⟨hnr, none, 0, rfl, rfl⟩)
    refine Ent.trans (RLimboO.close (a := some ⟨b, 0, none⟩) (r0 := rb) (r1 := r1) (r2 := r2) { m.put 0 tag (m.x0 ++ ys) with last := tag } hT.put_0 rfl rfl rfl rfl (by simp [Lm.put, Lm.items]; omega) rfl rfl (by simp [Lm.put, Lm.items, ints_append]) rfl rfl) ?_
    refine Ent.trans (Ent.rownil 3 1) ?_
    exact ent
  ·have hnil : m.x0 = [] := List.eq_nil_of_length_eq_zero (by omega)
   refine gg ?_
   refine Cx.ordc rfl kr_ ?_
   refine ge ?_
   refine Ev.pass 4 rfl kr_ ?_
   refine Ev.bring 2 rfl ?_
   refine ge ?_
   refine Ev.apnH kr_ rfl rfl rfl (Rd.any (a := r0) hx0 (hk0.imp (fun h => h.2.1) id)) (ones_ints _) (by simp [maxLen]; try omega) (by omega) (Pres.deps kr_) fun ra ca hc _ => ?_
   refine ge ?_
   refine Ev.apH (ra := ra) kr_ rfl rfl rfl (hr.ent (by repeat (first | exact Ent.refl _ | (refine Ent.trans Ent.drop ?_)))) (ones_ints _) (by simp [maxLen]; omega) (by omega) (Pres.deps kr_) fun rb cb hc2 _ => ?_
   refine ge ?_
   refine Ev.stbH (b := b) kr_ rfl rfl rfl rfl rfl (by rfl) rfl (Pres.deps kr_) ?_
   refine ge ?_
   refine go ?_
   rw [hit, hnil, ite_self]
   refine Kr.two (.inr rfl) rfl rfl ?_ (.inr ⟨hnr, none, 0, rfl, rfl⟩)
   refine Ent.trans (RLimboO.close (a := some ⟨b, 0, none⟩) (r0 := rb) (r1 := r1) (r2 := r2) { m.put 0 tag ([] ++ ys) with last := tag } hT.put_0 rfl rfl rfl rfl (by simp [Lm.put, Lm.items, hnil]; omega) rfl rfl (by simp [Lm.put, Lm.items, ints, hnil]) rfl rfl) ?_
   refine Ent.trans (Ent.rownil 3 1) ?_
   exact ent
 ·refine gg ?_
  have hti : m.tag 1 = m.t1 := rfl
  have hit : m.items 1 = m.x1 := rfl
  refine Sx.ifp rfl (fun h5 => ?_) (fun h5 => ?_)
  ·have hne : m.x1 ≠ [] := fun e => by rw [e] at h5; exact absurd h5 (by decide)
   have hu := hT.h1 hne
   refine gg ?_
   refine Cx.ifp rfl (fun h6 => ?_) (fun h6 => ?_)
   ·refine gg ?_
    refine Cx.ordc rfl kr_ ?_
    refine ge ?_
    refine Ev.pass 4 rfl kr_ ?_
    refine Ev.bring 2 rfl ?_
    refine ge ?_
    refine Ev.apnH kr_ rfl rfl rfl (Rd.nil _ _ _) rfl (by simp [maxLen]; try omega) (by omega) (Pres.deps kr_) fun ra ca hc _ => ?_
    refine ge ?_
    refine Ev.apH (ra := ra) kr_ rfl rfl rfl (hr.ent (by repeat (first | exact Ent.refl _ | (refine Ent.trans Ent.drop ?_)))) (ones_ints _) (by simp [maxLen]; omega) (by omega) (Pres.deps kr_) fun rb cb hc2 _ => ?_
    refine ge ?_
    refine Ev.stbH (b := b) kr_ rfl rfl rfl rfl rfl (by rfl) rfl (Pres.deps kr_) ?_
    refine ge ?_
    refine go ?_
    have h7 : m.t1 < tag := by omega
    rw [hti, hit, if_pos h7, if_pos h7]
    refine Kr.two (.inr rfl) rfl rfl ?_ (.inr ⟨hnr, r1, c1, rfl, rfl⟩)
    refine Ent.trans (RLimboO.close (a := some ⟨b, 0, none⟩) (r0 := r0) (r1 := rb) (r2 := r2) { m.put 1 tag ([] ++ ys) with last := tag } hT.put_1 rfl rfl rfl rfl rfl (by simp [Lm.put, Lm.items]; omega) rfl rfl (by simp [Lm.put, Lm.items, ints_append]) rfl) ?_
    exact ent
   ·refine gg ?_
    refine Cx.ordc rfl kr_ ?_
    refine ge ?_
    refine Ev.pass 4 rfl kr_ ?_
    refine Ev.bring 2 rfl ?_
    refine ge ?_
    refine Ev.apnH kr_ rfl rfl rfl (Rd.any (a := r1) hx1 (hk1.imp (fun h => h.2.1) id)) (ones_ints _) (by simp [maxLen]; try omega) (by omega) (Pres.deps kr_) fun ra ca hc _ => ?_
    refine ge ?_
    refine Ev.apH (ra := ra) kr_ rfl rfl rfl (hr.ent (by repeat (first | exact Ent.refl _ | (refine Ent.trans Ent.drop ?_)))) (ones_ints _) (by simp [maxLen]; omega) (by omega) (Pres.deps kr_) fun rb cb hc2 _ => ?_
    refine ge ?_
    refine Ev.stbH (b := b) kr_ rfl rfl rfl rfl rfl (by rfl) rfl (Pres.deps kr_) ?_
    refine ge ?_
    refine go ?_
    have h7 : ¬ m.t1 < tag := by omega
    rw [hti, hit, if_neg h7, if_neg h7]
    refine Kr.two (.inr rfl) rfl rfl ?_ (.inr ⟨hnr, none, 0, rfl, rfl⟩)
    refine Ent.trans (RLimboO.close (a := some ⟨b, 0, none⟩) (r0 := r0) (r1 := rb) (r2 := r2) { m.put 1 tag (m.x1 ++ ys) with last := tag } hT.put_1 rfl rfl rfl rfl rfl (by simp [Lm.put, Lm.items]; omega) rfl rfl (by simp [Lm.put, Lm.items, ints_append]) rfl) ?_
    refine Ent.trans (Ent.rownil 3 1) ?_
    exact ent
  ·have hnil : m.x1 = [] := List.eq_nil_of_length_eq_zero (by omega)
   refine gg ?_
   refine Cx.ordc rfl kr_ ?_
   refine ge ?_
   refine Ev.pass 4 rfl kr_ ?_
   refine Ev.bring 2 rfl ?_
   refine ge ?_
   refine Ev.apnH kr_ rfl rfl rfl (Rd.any (a := r1) hx1 (hk1.imp (fun h => h.2.1) id)) (ones_ints _) (by simp [maxLen]; try omega) (by omega) (Pres.deps kr_) fun ra ca hc _ => ?_
   refine ge ?_
   refine Ev.apH (ra := ra) kr_ rfl rfl rfl (hr.ent (by repeat (first | exact Ent.refl _ | (refine Ent.trans Ent.drop ?_)))) (ones_ints _) (by simp [maxLen]; omega) (by omega) (Pres.deps kr_) fun rb cb hc2 _ => ?_
   refine ge ?_
   refine Ev.stbH (b := b) kr_ rfl rfl rfl rfl rfl (by rfl) rfl (Pres.deps kr_) ?_
   refine ge ?_
   refine go ?_
   rw [hit, hnil, ite_self]
   refine Kr.two (.inr rfl) rfl rfl ?_ (.inr ⟨hnr, none, 0, rfl, rfl⟩)
   refine Ent.trans (RLimboO.close (a := some ⟨b, 0, none⟩) (r0 := r0) (r1 := rb) (r2 := r2) { m.put 1 tag ([] ++ ys) with last := tag } hT.put_1 rfl rfl rfl rfl rfl (by simp [Lm.put, Lm.items, hnil]; omega) rfl rfl (by simp [Lm.put, Lm.items, ints, hnil]) rfl) ?_
   refine Ent.trans (Ent.rownil 3 1) ?_
   exact ent
 ·refine gg ?_
  have hti : m.tag 2 = m.t2 := rfl
  have hit : m.items 2 = m.x2 := rfl
  refine Sx.ifp rfl (fun h5 => ?_) (fun h5 => ?_)
  ·have hne : m.x2 ≠ [] := fun e => by rw [e] at h5; exact absurd h5 (by decide)
   have hu := hT.h2 hne
   refine gg ?_
   refine Cx.ifp rfl (fun h6 => ?_) (fun h6 => ?_)
   ·refine gg ?_
    refine Cx.ordc rfl kr_ ?_
    refine ge ?_
    refine Ev.pass 4 rfl kr_ ?_
    refine Ev.bring 2 rfl ?_
    refine ge ?_
    refine Ev.apnH kr_ rfl rfl rfl (Rd.nil _ _ _) rfl (by simp [maxLen]; try omega) (by omega) (Pres.deps kr_) fun ra ca hc _ => ?_
    refine ge ?_
    refine Ev.apH (ra := ra) kr_ rfl rfl rfl (hr.ent (by repeat (first | exact Ent.refl _ | (refine Ent.trans Ent.drop ?_)))) (ones_ints _) (by simp [maxLen]; omega) (by omega) (Pres.deps kr_) fun rb cb hc2 _ => ?_
    refine ge ?_
    refine Ev.stbH (b := b) kr_ rfl rfl rfl rfl rfl (by rfl) rfl (Pres.deps kr_) ?_
    refine ge ?_
    refine go ?_
    have h7 : m.t2 < tag := by omega
    rw [hti, hit, if_pos h7, if_pos h7]
    refine Kr.two (.inr rfl) rfl rfl ?_ (.inr ⟨hnr, r2, c2, rfl, rfl⟩)
    refine Ent.trans (RLimboO.close (a := some ⟨b, 0, none⟩) (r0 := r0) (r1 := r1) (r2 := rb) { m.put 2 tag ([] ++ ys) with last := tag } hT.put_2 rfl rfl rfl rfl rfl rfl (by simp [Lm.put, Lm.items]; omega) rfl rfl (by simp [Lm.put, Lm.items, ints_append])) ?_
    exact ent
   ·refine gg ?_
    refine Cx.ordc rfl kr_ ?_
    refine ge ?_
    refine Ev.pass 4 rfl kr_ ?_
    refine Ev.bring 2 rfl ?_
    refine ge ?_
    refine Ev.apnH kr_ rfl rfl rfl (Rd.any (a := r2) hx2 (hk2.imp (fun h => h.2.1) id)) (ones_ints _) (by simp [maxLen]; try omega) (by omega) (Pres.deps kr_) fun ra ca hc _ => ?_
    refine ge ?_
    refine Ev.apH (ra := ra) kr_ rfl rfl rfl (hr.ent (by repeat (first | exact Ent.refl _ | (refine Ent.trans Ent.drop ?_)))) (ones_ints _) (by simp [maxLen]; omega) (by omega) (Pres.deps kr_) fun rb cb hc2 _ => ?_
    refine ge ?_
    refine Ev.stbH (b := b) kr_ rfl rfl rfl rfl rfl (by rfl) rfl (Pres.deps kr_) ?_
    refine ge ?_
    refine go ?_
    have h7 : ¬ m.t2 < tag := by omega
    rw [hti, hit, if_neg h7, if_neg h7]
    refine Kr.two (.inr rfl) rfl rfl ?_ (.inr ⟨hnr, none, 0, rfl, rfl⟩)
    refine Ent.trans (RLimboO.close (a := some ⟨b, 0, none⟩) (r0 := r0) (r1 := r1) (r2 := rb) { m.put 2 tag (m.x2 ++ ys) with last := tag } hT.put_2 rfl rfl rfl rfl rfl rfl (by simp [Lm.put, Lm.items]; omega) rfl rfl (by simp [Lm.put, Lm.items, ints_append])) ?_
    refine Ent.trans (Ent.rownil 3 1) ?_
    exact ent
  ·have hnil : m.x2 = [] := List.eq_nil_of_length_eq_zero (by omega)
   refine gg ?_
   refine Cx.ordc rfl kr_ ?_
   refine ge ?_
   refine Ev.pass 4 rfl kr_ ?_
   refine Ev.bring 2 rfl ?_
   refine ge ?_
   refine Ev.apnH kr_ rfl rfl rfl (Rd.any (a := r2) hx2 (hk2.imp (fun h => h.2.1) id)) (ones_ints _) (by simp [maxLen]; try omega) (by omega) (Pres.deps kr_) fun ra ca hc _ => ?_
   refine ge ?_
   refine Ev.apH (ra := ra) kr_ rfl rfl rfl (hr.ent (by repeat (first | exact Ent.refl _ | (refine Ent.trans Ent.drop ?_)))) (ones_ints _) (by simp [maxLen]; omega) (by omega) (Pres.deps kr_) fun rb cb hc2 _ => ?_
   refine ge ?_
   refine Ev.stbH (b := b) kr_ rfl rfl rfl rfl rfl (by rfl) rfl (Pres.deps kr_) ?_
   refine ge ?_
   refine go ?_
   rw [hit, hnil, ite_self]
   refine Kr.two (.inr rfl) rfl rfl ?_ (.inr ⟨hnr, none, 0, rfl, rfl⟩)
   refine Ent.trans (RLimboO.close (a := some ⟨b, 0, none⟩) (r0 := r0) (r1 := r1) (r2 := rb) { m.put 2 tag ([] ++ ys) with last := tag } hT.put_2 rfl rfl rfl rfl rfl rfl (by simp [Lm.put, Lm.items, hnil]; omega) rfl rfl (by simp [Lm.put, Lm.items, ints, hnil])) ?_
   refine Ent.trans (Ent.rownil 3 1) ?_
   exact ent
end
end Go.Proofs.YtggnbdeokmdjbaaGreat


namespace Go.Proofs.YtggnbdeokmdjbaaGreat
open Go
attribute [local irreducible] Sx Cx Rx Fx Krg Ksq Kbl Klp Kr
section
variable {L F G : St}
theorem refTakeI {b : Nat} {most : Int} (xs : List Int) {F : St} [t : Take L (some ⟨b, 0, none⟩) (RefO most xs) F] (hb : xs.length ≤ 100000000) :
  Fx Tryz.prog 227 [.pointer (some ⟨b, 0, none⟩)] L (fun v L' => v = .tuple #[.int .i64 (lastI xs), .bool (decide (xs ≠ []))] ∧ L' = pt (some ⟨b, 0, none⟩) (RefO most xs.dropLast) :: F) := by
 rcases List.eq_nil_or_concat xs with rfl | ⟨ys, x, rfl⟩
 ·exact refTakeNone
 ·rw [List.concat_eq_append] at t hb ⊢
  refine (refTakeSome (t := t) (by simp at hb; omega)).mono ?_
  rintro v L' ⟨rfl, rfl⟩
  simp [lastI]
def rsupL (T : TypeId) (w : Nat) (S : SupS) (a : Option Addr) (y : Nat × Nat) : St :=
 [pt a (Blk T [.pointer (some ⟨w, 0, none⟩), .pointer (some ⟨y.1, 0, none⟩), .pointer (some ⟨y.2, 0, none⟩)]), pt (some ⟨y.1, 0, none⟩) (RefO S.most S.xs), pt (some ⟨y.2, 0, none⟩) (RLimboO S.lm)]
def RSupT (T : TypeId) (w : Nat) (S : SupS) (a : Option Addr) : As := exs (rsupL T w S a)
abbrev RSupO := RSupT 85
theorem RSupO.close {T : TypeId} {w st lm : Nat} {a : Option Addr} {m : Int} {xs : List Int} {l : Lm} {F0 F1 G : St} (S : SupS)
  [t : Take L a (Blk T [.pointer (some ⟨w, 0, none⟩), .pointer (some ⟨st, 0, none⟩), .pointer (some ⟨lm, 0, none⟩)]) F0] [u : Take F0 (some ⟨st, 0, none⟩) (RefO m xs) F1] [q : Take F1 (some ⟨lm, 0, none⟩) (RLimboO l) G]
  (hm : m = S.most) (hx : xs = S.xs) (hl : l = S.lm) : Ent L (pt a (RSupT T w S) :: G) := by
 subst hm; subst hx; subst hl
 refine Ent.trans (Ent.take1 (t := t) (Ent.trans (Ent.of u.out) (Ent.cons (Ent.of q.out)))) ?_
 exact Ent.close (f := rsupL T w S a) rfl (st, lm)
theorem refSupRetire {s w : Nat} {S : SupS} {F : St} [t : Take L (some ⟨s, 0, none⟩) (RSupO w S) F] {tag : Int} {ys : List Int} {ya : Option Addr} {n c : Nat} (hr : Rd F 1 ya n (ints ys)) (hb : S.lm.size + n ≤ 100000000) (hx : S.xs.length ≤ 100000000) :
  Fx Tryz.prog 28 [.pointer (some ⟨s, 0, none⟩), .int .i64 tag, .slice ya n c] L (fun v L' =>
   (refused S.lm tag ys ∧ v = .bool false ∧ L' = pt (some ⟨s, 0, none⟩) (RSupO w S) :: F) ∨
   (¬ refused S.lm tag ys ∧ v = .bool true ∧ L' = pt (some ⟨s, 0, none⟩) (RSupO w ⟨S.most, S.xs ++ outM S.lm tag, retireM S.lm tag ys⟩) :: F)) := by
 have hz := size_retire S.lm tag ys
 refine Fx.mk Tryz.func28 k28 nb_ ?_
 dsimp only [c28, kG, kS, kH, kM, kN, kF, kL, envOf, Nat.reduceAdd]
 refine Cx.openp (t := t) rfl ?_
 rintro ⟨st, lm⟩
 simp only [rsupL, List.cons_append, List.nil_append]
 refine go ?_
 refine Sx.ca rfl (refRetire (b := lm) (m := S.lm) (ys := ys) (hr.ent (by repeat (first | exact Ent.refl _ | (refine Ent.trans Ent.drop ?_)))) (by omega)) ?_
 rintro v L' (⟨h, rfl, rfl⟩ | ⟨h, ro, co, rfl, rfl⟩)
 ·refine go ?_
  refine Sx.ca rfl (refGive (b := st) (ys := []) (Rd.nil _ _ _) (by omega)) ?_
  rintro v L' ⟨rfl, rfl⟩
  refine go ?_
  exact Kr.one (.inr rfl) rfl (RSupO.close (a := some ⟨s, 0, none⟩) (st := st) (lm := lm) (w := w) S rfl (List.append_nil _) rfl) (.inl ⟨h, rfl, rfl⟩)
 ·refine Sx.rowkey (a := ro) fun hx0 hn0 _ hk0 => ?_
  refine go ?_
  refine Sx.ca rfl (refGive (b := st) (Rd.any (a := ro) hx0 (hk0.imp (fun h => h.2.1) id)) (by omega)) ?_
  rintro v L' ⟨rfl, rfl⟩
  refine go ?_
  refine Kr.one (.inr rfl) rfl (Ent.trans (RSupO.close (a := some ⟨s, 0, none⟩) (st := st) (lm := lm) (w := w) ⟨S.most, S.xs ++ outM S.lm tag, retireM S.lm tag ys⟩ rfl rfl rfl) ?_) (.inr ⟨h, rfl, rfl⟩)
  exact ent
theorem refSupReady {s w : Nat} {S : SupS} {F : St} [t : Take L (some ⟨s, 0, none⟩) (RSupO w S) F] {now : Int} (hb : S.lm.size ≤ 100000000) (hx : S.xs.length ≤ 100000000) (hn : now ≤ 9223372036854775807) :
  Fx Tryz.prog 80 [.pointer (some ⟨s, 0, none⟩), .int .i64 now] L (fun v L' => v = .int .i64 (readyAll now S.lm).1.length ∧ L' = pt (some ⟨s, 0, none⟩) (RSupO w (S.ready now)) :: F) := by
 have hz := size_ready now S.lm
 refine Fx.mk Tryz.func80 k80 nb_ ?_
 dsimp only [c80, kG, kS, kH, kM, kN, kF, kL, envOf, Nat.reduceAdd]
 refine Cx.openp (t := t) rfl ?_
 rintro ⟨st, lm⟩
 simp only [rsupL, List.cons_append, List.nil_append]
 refine go ?_
 refine Sx.ca rfl (refReady (b := lm) (m := S.lm) (now := now) hb hn) ?_
 rintro v L' ⟨ro, co, rfl, rfl⟩
 refine Sx.rowkey (a := ro) fun hx0 hn0 _ hk0 => ?_
 refine go ?_
 refine Sx.ca rfl (refGive (b := st) (Rd.any (a := ro) hx0 (hk0.imp (fun h => h.2.1) id)) (by omega)) ?_
 rintro v L' ⟨rfl, rfl⟩
 refine go ?_
 refine Kr.one (.inr rfl) rfl (Ent.trans (RSupO.close (a := some ⟨s, 0, none⟩) (st := st) (lm := lm) (w := w) (S.ready now) rfl rfl rfl) ?_) ⟨rfl, rfl⟩
 exact ent
def TakeS.ch (t : TakeS) : Int := if t.is_ then t.chunk else -1
abbrev rtkB (b s : Nat) (at_ : Nat) (ch seen : Int) (pp : Value) (d : Bool) : As := pt (some ⟨b, 0, none⟩) (Blk 169 [.pointer (some ⟨s, 0, none⟩), .int .i64 (at_ : Nat), .int .i64 ch, .int .i64 seen, pp, .bool d])
def rtakeDL (T : TypeId) (s : Nat) (t : TakeS) (a : Option Addr) (y : Nat × Value) : St := [pt a (Blk T [.pointer (some ⟨s, 0, none⟩), .int .i64 (y.1 : Nat), .int .i64 t.ch, .int .i64 t.seen, y.2, .bool true])]
def rtakeLL (T : TypeId) (s : Nat) (t : TakeS) (a : Option Addr) (y : Value) : St := [pt a (Blk T [.pointer (some ⟨s, 0, none⟩), .int .i64 0, .int .i64 (-1), .int .i64 t.seen, y, .bool false])]
def rtakePL (T : TypeId) (s rp : Nat) (t : TakeS) (a : Option Addr) (y : Nat) : St := [pt a (Blk T [.pointer (some ⟨s, 0, none⟩), .int .i64 1, .int .i64 (-1), .int .i64 t.seen, .pointer (some ⟨y, 0, none⟩), .bool false]), pt (some ⟨y, 0, none⟩) (RPopO rp t.q)]
def RTakeT (T : TypeId) (s rp : Nat) (t : TakeS) (a : Option Addr) : As := bif t.done then exs (rtakeDL T s t a) else bif Nat.beq t.at_ 0 then exs (rtakeLL T s t a) else exs (rtakePL T s rp t a)
abbrev RTakeO := RTakeT 169
theorem RTakeO.d {T : TypeId} {s rp : Nat} {t : TakeS} {a : Option Addr} (h : t.done = true) : RTakeT T s rp t a = exs (rtakeDL T s t a) := by unfold RTakeT; rw [h]; rfl
theorem RTakeO.l {T : TypeId} {s rp : Nat} {t : TakeS} {a : Option Addr} (h : t.done = false) (h0 : t.at_ = 0) : RTakeT T s rp t a = exs (rtakeLL T s t a) := by unfold RTakeT; rw [h, h0]; rfl
theorem RTakeO.p {T : TypeId} {s rp : Nat} {t : TakeS} {a : Option Addr} (h : t.done = false) (h0 : t.at_ ≠ 0) : RTakeT T s rp t a = exs (rtakePL T s rp t a) := by
 unfold RTakeT
 have : Nat.beq t.at_ 0 = false := by
  cases hb : Nat.beq t.at_ 0 with
  | false => rfl
  | true => exact absurd (Nat.eq_of_beq_eq_true hb) h0
 rw [h, this]; rfl
theorem RTakeO.closeD {b s rp n : Nat} {ch seen : Int} {pp : Value} (t : TakeS) (h : t.done = true) (hc : ch = t.ch) (hs : seen = t.seen) : Ent (rtkB b s n ch seen pp true :: G) (pt (some ⟨b, 0, none⟩) (RTakeO s rp t) :: G) := by
 subst hc; subst hs
 exact Ent.close (f := rtakeDL 169 s t (some ⟨b, 0, none⟩)) (RTakeO.d h) (n, pp)
theorem RTakeO.closeL {b s rp : Nat} {seen : Int} {pp : Value} (t : TakeS) (h : t.done = false) (h0 : t.at_ = 0) (hs : seen = t.seen) : Ent (rtkB b s 0 (-1) seen pp false :: G) (pt (some ⟨b, 0, none⟩) (RTakeO s rp t) :: G) := by
 subst hs
 exact Ent.close (f := rtakeLL 169 s t (some ⟨b, 0, none⟩)) (RTakeO.l h h0) pp
theorem RTakeO.closeP {b s rp p : Nat} {seen : Int} {q : PopS} (t : TakeS) (h : t.done = false) (h0 : t.at_ ≠ 0) (hs : seen = t.seen) (hq : q = t.q) : Ent (rtkB b s 1 (-1) seen (.pointer (some ⟨p, 0, none⟩)) false :: pt (some ⟨p, 0, none⟩) (RPopO rp q) :: G) (pt (some ⟨b, 0, none⟩) (RTakeO s rp t) :: G) := by
 subst hs; subst hq
 exact Ent.close (f := rtakePL 169 s rp t (some ⟨b, 0, none⟩)) (RTakeO.p h h0) p
abbrev rtkV (s : Nat) (at_ : Nat) (ch seen : Int) (pp : Value) (d : Bool) : Option Addr → As := Blk 169 [.pointer (some ⟨s, 0, none⟩), .int .i64 (at_ : Nat), .int .i64 ch, .int .i64 seen, pp, .bool d]
theorem refKept {b s w n : Nat} {S : SupS} {seen : Int} {pp : Value} {F1 : St} (hb : S.xs.length ≤ 100000000) [t1 : Take L (some ⟨b, 0, none⟩) (rtkV s n (-1) seen pp false) F1] [t2 : Take F1 (some ⟨s, 0, none⟩) (RSupO w S) G] :
  Fx Tryz.prog 162 [.pointer (some ⟨b, 0, none⟩)] L
   (fun v L' => v = .tuple #[] ∧ L' = rtkB b s n (if S.xs = [] then -1 else lastI S.xs) seen pp (decide (S.xs ≠ [])) :: pt (some ⟨s, 0, none⟩) (RSupO w S.kept) :: G) := by
 refine Fx.mk Tryz.func162 k162 nb_ ?_
 dsimp only [c162, kG, kS, kH, kM, kN, kF, kL, envOf, Nat.reduceAdd]
 refine Cx.ent (Ent.trans (Ent.of t1.out) (Ent.cons (Ent.of t2.out))) ?_
 refine Cx.openp (a := some ⟨s, 0, none⟩) rfl ?_
 rintro ⟨st, lm⟩
 simp only [rsupL, List.cons_append, List.nil_append]
 refine go ?_
 refine Sx.ca rfl (refTakeI (b := st) S.xs hb) ?_
 rintro v L' ⟨rfl, rfl⟩
 by_cases hx : S.xs = []
 ·rw [decide_eq_false (fun h => h hx), if_pos hx]
  refine go ?_
  refine Kr.none (.inl rfl) ?_ ⟨rfl, rfl⟩
  refine Ent.trans ?_ Ent.swap
  refine Ent.trans (RSupO.close (a := some ⟨s, 0, none⟩) (st := st) (lm := lm) (w := w) S.kept rfl rfl rfl) (Ent.cons ?_)
  exact ent
 ·rw [decide_eq_true hx, if_neg hx]
  refine go ?_
  refine Kr.none (.inl rfl) ?_ ⟨rfl, rfl⟩
  refine Ent.trans ?_ Ent.swap
  refine Ent.trans (RSupO.close (a := some ⟨s, 0, none⟩) (st := st) (lm := lm) (w := w) S.kept rfl rfl rfl) (Ent.cons ?_)
  exact ent
theorem refTakePop {b s w rm rp rs re n : Nat} {x : Cn} {S : SupS} {ch seen : Int} {pp : Value} {F1 F2 F3 : St} (hb : x.ba ≤ 8) [t1 : Take L (some ⟨b, 0, none⟩) (rtkV s n ch seen pp false) F1] [t2 : Take F1 (some ⟨s, 0, none⟩) (RSupO w S) F2] [t3 : Take F2 (some ⟨w, 0, none⟩) (RWO x rm rp rs re) F3] [t4 : Take F3 (some ⟨rp, 0, none⟩) (RSkO rm x.pool) G] :
  Fx Tryz.prog 163 [.pointer (some ⟨b, 0, none⟩)] L
   (fun v L' => ∃ p, v = .tuple #[] ∧ L' = rtkB b s 1 ch seen (.pointer (some ⟨p, 0, none⟩)) false :: pt (some ⟨p, 0, none⟩) (RPopO rp (PopS.init x.ba)) :: pt (some ⟨s, 0, none⟩) (RSupO w S) :: F2) := by
 refine Fx.mk Tryz.func163 k163 nb_ ?_
 dsimp only [c163, kG, kS, kH, kM, kN, kF, kL, envOf, Nat.reduceAdd]
 refine Cx.ent (Ent.trans (Ent.of t1.out) (Ent.cons (Ent.trans (Ent.of t2.out) (Ent.cons (Ent.trans (Ent.of t3.out) (Ent.cons (Ent.of t4.out))))))) ?_
 refine Cx.openp (a := some ⟨s, 0, none⟩) rfl ?_
 rintro ⟨st, lm⟩
 simp only [rsupL, List.cons_append, List.nil_append]
 refine Cx.orde rfl kr_ ?_
 refine ge ?_
 refine Ev.caH kr_ rfl rfl (refPopNew (sb := rp) (rm := rm) (k := x.pool) (x.ba : Int)) (Pres.deps kr_) ?_
 rintro v L' ⟨p, rfl, rfl⟩
 refine ge ?_
 refine Ev.stbH (b := b) kr_ rfl rfl rfl rfl rfl (by rfl) rfl (Pres.deps kr_) ?_
 refine ge ?_
 refine Ev.stbH (b := b) kr_ rfl rfl rfl rfl rfl (by rfl) rfl (Pres.deps kr_) ?_
 refine ge ?_
 refine Kr.none (.inl rfl) ?_ ⟨p, rfl, rfl⟩
 refine Ent.trans (Ent.take (a := some ⟨b, 0, none⟩)) (Ent.cons ?_)
 refine Ent.trans (Ent.take (a := some ⟨p, 0, none⟩)) (Ent.cons ?_)
 refine Ent.trans (RSupO.close (a := some ⟨s, 0, none⟩) (st := st) (lm := lm) (w := w) S rfl rfl rfl) (Ent.cons ?_)
 refine Ent.trans ?_ (Ent.of t3.back)
 refine Ent.trans ?_ (Ent.cons (Ent.of t4.back))
 exact ent
end
end Go.Proofs.YtggnbdeokmdjbaaGreat


namespace Go.Proofs.YtggnbdeokmdjbaaGreat
open Go
attribute [local irreducible] Sx Cx Rx Fx Krg Ksq Kbl Klp Kr
theorem holds_perm {L M : St} (p : L.Perm M) : ∀ {h : Hp}, holds L h → holds M h := by
 induction p with
 | nil => exact fun H => H
 | cons x _ ih => exact fun H => holds_cons (fun _ => ih) H
 | swap x y l => exact fun H => holds_swap H
 | trans _ _ ih1 ih2 => exact fun H => ih2 (ih1 H)
theorem Ent.perm {L M : St} (p : L.Perm M) : Ent L M := .of fun _ => holds_perm p
def many (n : Nat) (f : Nat → St) : St := (List.range n).flatMap f
def updS (f : Nat → St) (i : Nat) (s : St) : Nat → St := fun j => if j = i then s else f j
theorem Ent.deep {M N G : St} : Ent (N ++ (M ++ G)) (M ++ (N ++ G)) := by
 rw [← List.append_assoc, ← List.append_assoc]; exact .perm (List.perm_append_comm.append_right _)
theorem many_zero (f : Nat → St) : many 0 f = [] := rfl
theorem many_succ (n : Nat) (f : Nat → St) : many (n + 1) f = many n f ++ f n := by simp [many, List.range_succ]
theorem many_congr {n : Nat} {f g : Nat → St} (h : ∀ i, i < n → f i = g i) : many n f = many n g := by
 induction n with
 | zero => rfl
 | succ n ih => rw [many_succ, many_succ, ih fun i hi => h i (by omega), h n (by omega)]
theorem updS_same (f : Nat → St) (i : Nat) (s : St) : updS f i s i = s := if_pos rfl
theorem updS_ne (f : Nat → St) {i j : Nat} (s : St) (h : j ≠ i) : updS f i s j = f j := if_neg h
theorem updS_updS (f : Nat → St) (i : Nat) (s t : St) : updS (updS f i s) i t = updS f i t := by
 funext j; unfold updS; split <;> rfl
theorem many_perm {n : Nat} {f : Nat → St} : ∀ {i : Nat}, i < n → (many n f).Perm (f i ++ many n (updS f i [])) := by
 induction n with
 | zero => intro i h; omega
 | succ n ih =>
   intro i h
   rw [many_succ, many_succ]
   by_cases e : i = n
   ·subst e
    rw [updS_same, List.append_nil, many_congr (g := f) fun j hj => updS_ne f [] (by omega)]
    exact List.perm_append_comm
   ·rw [updS_ne f [] (show n ≠ i by omega), ← List.append_assoc]
    exact (ih (by omega)).append_right _
theorem Ent.one {n i : Nat} {f : Nat → St} {G : St} (h : i < n) : Ent (many n f ++ G) (f i ++ (many n (updS f i []) ++ G)) := by
 rw [← List.append_assoc]; exact .perm ((many_perm h).append_right _)
theorem Ent.oneBack {n i : Nat} {f : Nat → St} {s : St} {G : St} (h : i < n) : Ent (s ++ (many n (updS f i []) ++ G)) (many n (updS f i s) ++ G) := by
 have := (many_perm (f := updS f i s) h).append_right G
 rw [updS_same, updS_updS, List.append_assoc] at this
 exact .perm this.symm
theorem Ent.app {A B X : St} (h : Ent A B) : Ent (X ++ A) (X ++ B) := by
 induction X with
 | nil => exact h
 | cons P X ih => exact Ent.cons ih
theorem Ent.dropA {A B : St} : Ent (A ++ B) B := by
 induction A with
 | nil => exact Ent.refl _
 | cons P X ih => exact Ent.trans Ent.drop ih
class Many (L : St) (n : outParam Nat) (f : outParam (Nat → St)) (N G : outParam St) : Prop where
 eq : L = N ++ (many n f ++ G)
instance (priority := high) Many.here (n : Nat) (f : Nat → St) (G : St) : Many (many n f ++ G) n f [] G := ⟨rfl⟩
instance Many.there (P : As) (L : St) (n : Nat) (f : Nat → St) (N G : St) [t : Many L n f N G] : Many (P :: L) n f (P :: N) G := ⟨by rw [t.eq]; rfl⟩
theorem Ent.ith {L : St} {n : Nat} {f : Nat → St} {N G : St} [t : Many L n f N G] (i : Nat) (h : i < n) : Ent L (f i ++ (N ++ (many n (updS f i []) ++ G))) := by
 rw [t.eq]
 exact Ent.trans Ent.deep (Ent.trans (Ent.one h) (Ent.app Ent.deep))
theorem Ent.ithBack {n : Nat} {f : Nat → St} {N G s : St} {i : Nat} (h : i < n) : Ent (s ++ (N ++ (many n (updS f i []) ++ G))) (N ++ (many n (updS f i s) ++ G)) :=
 Ent.trans (Ent.app Ent.deep) (Ent.trans (Ent.oneBack h) Ent.deep)
theorem entm {L M : St} (h : Ent L M := by repeat (first | exact Ent.refl _ | (refine Ent.take1 ?_) | (refine Ent.trans Ent.drop ?_) | (refine Ent.trans Ent.dropA ?_))) : Ent L M := h
theorem updS_id (f : Nat → St) (i : Nat) : updS f i (f i) = f := by
 funext j; unfold updS; split
 ·rename_i h; rw [h]
 ·rfl
def ptrs (n : Nat) (U : Nat → Nat) : List Value := (List.range n).map fun i => .pointer (some ⟨U i, 0, none⟩)
theorem ptrs_succ (n : Nat) (U : Nat → Nat) : ptrs (n + 1) U = ptrs n U ++ [.pointer (some ⟨U n, 0, none⟩)] := by simp [ptrs, List.range_succ]
theorem ptrs_get {n i : Nat} {U : Nat → Nat} (h : i < n) : (ptrs n U)[i]? = some (.pointer (some ⟨U i, 0, none⟩)) := by simp [ptrs, h]
theorem ptrs_congr {n : Nat} {U V : Nat → Nat} (h : ∀ i, i < n → U i = V i) : ptrs n U = ptrs n V := by
 unfold ptrs
 refine List.map_congr_left fun i hi => ?_
 rw [h i (List.mem_range.1 hi)]
structure Who where
 u : Nat
 pb : Nat
 s : Nat
section
variable {L F G : St}
def whoL (mp w : Nat) (x : Cn) (q : Who) (S S2 : SupS) : St :=
 [pt (some ⟨q.u, 0, none⟩) (SupO mp q.pb x S), pt (some ⟨q.pb, 0, none⟩) (SkO mp x.pool), pt (some ⟨q.s, 0, none⟩) (RSupO w S2)]
end
end Go.Proofs.YtggnbdeokmdjbaaGreat


namespace Go.Proofs.YtggnbdeokmdjbaaGreat
open Go
attribute [local irreducible] Sx Cx Rx Fx Krg Ksq Kbl Klp Kr
section
variable {L F G : St}
theorem SupS.kept_nil {s : SupS} (h : s.xs = []) : s.kept = s := by
 cases s; simp only [SupS.kept]; simp only at h; subst h; rfl
theorem refTakeNew {s w rm rp rs re : Nat} {x : Cn} {S : SupS} {F1 F2 : St} (hx : x.ok) (hb : S.xs.length + S.lm.size ≤ 1000000) [t2 : Take L (some ⟨s, 0, none⟩) (RSupO w S) F1] [t3 : Take F1 (some ⟨w, 0, none⟩) (RWO x rm rp rs re) F2] [t4 : Take F2 (some ⟨rp, 0, none⟩) (RSkO rm x.pool) G] :
  Fx Tryz.prog 74 [.pointer (some ⟨s, 0, none⟩)] L
   (fun v L' => ∃ b, v = .pointer (some ⟨b, 0, none⟩) ∧ L' = pt (some ⟨b, 0, none⟩) (RTakeO s rp (takeInit x.ba S).2) :: pt (some ⟨s, 0, none⟩) (RSupO w (takeInit x.ba S).1) :: F1) := by
 obtain ⟨b1, b2, b3, b4, b5, b6, b7⟩ := hx.b
 refine Fx.mk Tryz.func74 k74 nb_ ?_
 dsimp only [c74, kG, kS, kH, kM, kN, kF, kL, envOf, Nat.reduceAdd]
 refine go ?_
 refine Sx.bx rfl rfl fun b => ?_
 refine go ?_
 refine Sx.ca rfl (refKept (b := b) (s := s) (w := w) (S := S) (n := 0) (seen := -1) (pp := .pointer none) (by omega)) ?_
 rintro v L' ⟨rfl, rfl⟩
 by_cases hxs : S.xs = []
 ·rw [decide_eq_false (fun h => h hxs), if_pos hxs, SupS.kept_nil hxs]
  refine Sx.nil ?_
  refine Krg.i ?_
  refine Ksq.nm ?_
  refine Cx.sq ?_
  refine Cx.sq ?_
  refine Cx.ent (Ent.cons (Ent.cons (Ent.trans (Ent.of t3.out) (Ent.cons (Ent.of t4.out))))) ?_
  refine Cx.openp (a := some ⟨s, 0, none⟩) rfl ?_
  rintro ⟨st, lm⟩
  simp only [rsupL, List.cons_append, List.nil_append]
  refine go ?_
  refine Sx.ca rfl (refLimboLen (b := lm) (m := S.lm) (by omega)) ?_
  rintro v L' ⟨rfl, rfl⟩
  refine go ?_
  by_cases hz : 0 < S.lm.size
  ·have e0 : takeInit x.ba S = (S, TakeS.none_) := by unfold takeInit keepT; rw [if_pos hxs]; simp only; rw [if_pos hz]
   rw [e0]
   refine Cx.cno rfl (decide_eq_false (by omega)) ?_
   refine go ?_
   refine Kr.one (.inr rfl) rfl ?_ ⟨b, rfl, rfl⟩
   refine Ent.trans (Ent.trans (Ent.take (a := some ⟨b, 0, none⟩)) (RTakeO.closeL (rp := rp) TakeS.none_ rfl rfl rfl)) (Ent.cons ?_)
   refine Ent.trans (RSupO.close (a := some ⟨s, 0, none⟩) (st := st) (lm := lm) (w := w) S rfl rfl rfl) (Ent.cons ?_)
   exact Ent.trans (Ent.cons (Ent.of t4.back)) (Ent.of t3.back)
  ·have e0 : takeInit x.ba S = (S, { TakeS.none_ with at_ := 1, q := PopS.init x.ba }) := by unfold takeInit keepT; rw [if_pos hxs]; simp only; rw [if_neg hz]
   rw [e0]
   refine Cx.cyes rfl (decide_eq_true (by omega)) ?_
   refine Cx.ent (RSupO.close (a := some ⟨s, 0, none⟩) (st := st) (lm := lm) (w := w) S rfl rfl rfl) ?_
   refine go ?_
   refine Sx.ca rfl (refTakePop (b := b) (s := s) (w := w) (rm := rm) (rp := rp) (rs := rs) (re := re) (x := x) (S := S) (n := 0) (ch := -1) (seen := -1) (pp := .pointer none) b6) ?_
   rintro v L' ⟨p, rfl, rfl⟩
   refine go ?_
   refine Kr.one (.inr rfl) rfl ?_ ⟨b, rfl, rfl⟩
   refine Ent.trans (RTakeO.closeP (rp := rp) { TakeS.none_ with at_ := 1, q := PopS.init x.ba } rfl (by simp) rfl rfl) (Ent.cons (Ent.cons ?_))
   exact Ent.trans (Ent.cons (Ent.of t4.back)) (Ent.of t3.back)
 ·have e0 : takeInit x.ba S = (S.kept, { TakeS.none_ with chunk := lastI S.xs, is_ := true, done := true }) := by unfold takeInit keepT; rw [if_neg hxs]
  rw [e0, decide_eq_true hxs, if_neg hxs]
  refine go ?_
  refine Kr.one (.inr rfl) rfl ?_ ⟨b, rfl, rfl⟩
  refine Ent.trans (RTakeO.closeD (rp := rp) { TakeS.none_ with chunk := lastI S.xs, is_ := true, done := true } rfl rfl rfl) ?_
  exact Ent.refl _
set_option maxHeartbeats 1000000 in
theorem refTakeStep {b s w rm rp rs re : Nat} {x : Cn} {S : SupS} {m : Mm} {t : TakeS} {F1 F2 F3 F4 : St} (hx : x.ok) (hl : x.len ≤ m.ws.length) (ht : t.ok) (hq : t.done = false → t.at_ = 1 → t.q.ok x.pool) (hb : S.xs.length + S.lm.size ≤ 1000000)
  [t1 : Take L (some ⟨b, 0, none⟩) (RTakeO s rp t) F1] [t2 : Take F1 (some ⟨s, 0, none⟩) (RSupO w S) F2] [t3 : Take F2 (some ⟨rm, 0, none⟩) (RMemO m) F3] [t4 : Take F3 (some ⟨w, 0, none⟩) (RWO x rm rp rs re) F4] [t5 : Take F4 (some ⟨rp, 0, none⟩) (RSkO rm x.pool) G] :
  Fx Tryz.prog 69 [.pointer (some ⟨b, 0, none⟩)] L
   (fun v L' => v = .bool (!t.done) ∧ L' = pt (some ⟨b, 0, none⟩) (RTakeO s rp (takeStep x.pool x.ba m S t).2.2) :: pt (some ⟨s, 0, none⟩) (RSupO w (takeStep x.pool x.ba m S t).2.1) :: pt (some ⟨rm, 0, none⟩) (RMemO (takeStep x.pool x.ba m S t).1) :: F3) := by
 obtain ⟨b1, b2, b3, b4, b5, b6, b7⟩ := hx.b
 have hl3 : 3 ≤ x.len := by unfold Cn.len; omega
 have hback : Ent (pt (some ⟨w, 0, none⟩) (RWO x rm rp rs re) :: pt (some ⟨rp, 0, none⟩) (RSkO rm x.pool) :: G) F3 := Ent.trans (Ent.cons (Ent.of t5.back)) (Ent.of t4.back)
 refine Fx.mk Tryz.func69 k69 nb_ ?_
 dsimp only [c69, kG, kS, kH, kM, kN, kF, kL, envOf, Nat.reduceAdd]
 refine Cx.ent (Ent.trans (Ent.of t1.out) (Ent.cons (Ent.trans (Ent.of t2.out) (Ent.cons (Ent.trans (Ent.of t3.out) (Ent.cons (Ent.trans (Ent.of t4.out) (Ent.cons (Ent.of t5.out))))))))) ?_
 refine Cx.pure (rmemKey (rm := rm) (m := m)) fun hm => ?_
 cases hd : t.done with
 | true =>
   have e1 : takeStep x.pool x.ba m S t = (m, S, t) := by unfold takeStep; rw [hd]; rfl
   rw [e1]
   refine Cx.openp (a := some ⟨b, 0, none⟩) (RTakeO.d hd) ?_
   rintro ⟨n, pp⟩
   simp only [rtakeDL, List.cons_append, List.nil_append]
   refine go ?_
   exact Kr.one (.inr rfl) rfl (Ent.trans (RTakeO.closeD t hd rfl rfl) (Ent.cons (Ent.cons (Ent.cons hback)))) ⟨rfl, rfl⟩
 | false =>
   have ha := ht.a
   rcases (show t.at_ = 0 ∨ t.at_ = 1 by omega) with h0 | h0
   ·have hlt := Mm.at_lt hm.1 2
    have hsz := size_ready (cutE (m.at_ 2)) S.lm
    have hsx : (S.ready (cutE (m.at_ 2))).xs.length ≤ 100000000 := by
     show (S.xs ++ (readyAll (cutE (m.at_ 2)) S.lm).1).length ≤ _
     rw [List.length_append]; omega
    refine Cx.openp (a := some ⟨b, 0, none⟩) (RTakeO.l hd h0) ?_
    rintro pp
    simp only [rtakeLL, List.cons_append, List.nil_append]
    refine Cx.openp (a := some ⟨s, 0, none⟩) rfl ?_
    rintro ⟨st, lm⟩
    simp only [rsupL, List.cons_append, List.nil_append]
    refine go ?_
    refine Sx.ca rfl (refLoad (rm := rm) (m := m) 2 (by omega)) ?_
    rintro v L' ⟨rfl, rfl⟩
    refine go ?_
    refine Sx.ca rfl (refCut (m.at_ 2) hlt) ?_
    rintro v L' ⟨rfl, rfl⟩
    refine go ?_
    refine Cx.ent (RSupO.close (a := some ⟨s, 0, none⟩) (st := st) (lm := lm) (w := w) S rfl rfl rfl) ?_
    refine Cx.ordc rfl kr_ ?_
    refine ge ?_
    refine Ev.caH kr_ rfl rfl (refSupReady (s := s) (w := w) (S := S) (now := cutE (m.at_ 2)) (by omega) (by omega) (by unfold cutE; omega)) (Pres.deps kr_) ?_
    rintro v L' ⟨rfl, rfl⟩
    refine ge ?_
    refine go ?_
    refine Sx.ca rfl (refKept (b := b) (s := s) (w := w) (S := S.ready (cutE (m.at_ 2))) (n := 0) (seen := cutE (m.at_ 2)) (pp := pp) hsx) ?_
    rintro v L' ⟨rfl, rfl⟩
    by_cases hxs : (S.ready (cutE (m.at_ 2))).xs = []
    ·have e1 : takeStep x.pool x.ba m S t = (m.tick, S.ready (cutE (m.at_ 2)), { t with seen := cutE (m.at_ 2), at_ := 1, q := PopS.init x.ba }) := by
      unfold takeStep keepT; rw [hd, h0]; simp only [Bool.false_eq_true, if_false]; rw [if_pos hxs]
     rw [e1, decide_eq_false (show ¬ ((S.ready (cutE (m.at_ 2))).xs ≠ []) from fun h => h hxs), if_pos hxs, SupS.kept_nil hxs]
     refine go ?_
     refine Sx.ca rfl (refTakePop (b := b) (s := s) (w := w) (rm := rm) (rp := rp) (rs := rs) (re := re) (x := x) (S := S.ready (cutE (m.at_ 2))) (n := 0) (ch := -1) (seen := cutE (m.at_ 2)) (pp := pp) b6) ?_
     rintro v L' ⟨p, rfl, rfl⟩
     refine go ?_
     refine Kr.one (.inr rfl) rfl ?_ ⟨rfl, rfl⟩
     refine Ent.trans (RTakeO.closeP (rp := rp) { t with seen := cutE (m.at_ 2), at_ := 1, q := PopS.init x.ba } hd (by simp) rfl rfl) (Ent.cons (Ent.cons ?_))
     refine Ent.trans ?_ (Ent.cons hback)
     exact ent
    ·have e1 : takeStep x.pool x.ba m S t = (m.tick, (S.ready (cutE (m.at_ 2))).kept, { t with seen := cutE (m.at_ 2), chunk := lastI (S.ready (cutE (m.at_ 2))).xs, is_ := true, done := true }) := by
      unfold takeStep keepT; rw [hd, h0]; simp only [Bool.false_eq_true, if_false]; rw [if_neg hxs]
     rw [e1, decide_eq_true hxs, if_neg hxs]
     refine go ?_
     refine Kr.one (.inr rfl) rfl ?_ ⟨rfl, rfl⟩
     refine Ent.trans (RTakeO.closeD (rp := rp) { t with seen := cutE (m.at_ 2), chunk := lastI (S.ready (cutE (m.at_ 2))).xs, is_ := true, done := true } rfl rfl rfl) (Ent.cons (Ent.cons ?_))
     refine Ent.trans ?_ (Ent.cons hback)
     exact ent
   ·have hk := hx.pool (n := m.ws.length) hl hm.2
    have hqo := hq hd h0
    refine Cx.openp (a := some ⟨b, 0, none⟩) (RTakeO.p hd (by omega)) ?_
    rintro p
    simp only [rtakePL, List.cons_append, List.nil_append]
    refine go ?_
    refine Sx.ca rfl (refPopStep (b := p) (sb := rp) (rm := rm) (k := x.pool) (m := m) (q := t.q) hk hqo) ?_
    rintro v L' ⟨rfl, rfl⟩
    have hq' := popStep_ok hk hm.1 hqo
    obtain ⟨q1, hq1⟩ : ∃ q1, (popStep x.pool m t.q).1 = q1 := ⟨_, rfl⟩
    obtain ⟨m1, hm1⟩ : ∃ m1, (popStep x.pool m t.q).2 = m1 := ⟨_, rfl⟩
    have hp1 : popStep x.pool m t.q = (q1, m1) := by rw [← hq1, ← hm1]
    rw [hq1] at hq'
    rw [hp1]
    dsimp only
    cases hqd : q1.done with
    | false =>
      have e1 : takeStep x.pool x.ba m S t = (m1, S, { t with q := q1 }) := by unfold takeStep; rw [hd, h0]; simp only [Bool.false_eq_true, if_false]; rw [hp1]; simp only [hqd, Bool.false_eq_true, if_false]
      rw [e1]
      refine Sx.nil ?_
      refine Krg.i ?_
      refine Ksq.nm ?_
      refine Cx.sq ?_
      refine Cx.openp (a := some ⟨p, 0, none⟩) rfl ?_
      rintro ⟨r, c⟩
      simp only [rpopL, List.cons_append, List.nil_append]
      rw [hqd]
      refine go ?_
      refine Kr.one (.inr rfl) rfl ?_ ⟨rfl, rfl⟩
      refine Ent.trans (RPopO.close (sb := rp) (a := some ⟨p, 0, none⟩) (r := r) q1 rfl rfl rfl rfl rfl rfl (by rw [hqd]) rfl) ?_
      refine Ent.trans (Ent.trans (Ent.take (a := some ⟨b, 0, none⟩)) (RTakeO.closeP (rp := rp) { t with q := q1 } hd (by dsimp only; omega) rfl rfl)) (Ent.cons ?_)
      refine Ent.trans ?_ (Ent.cons (Ent.cons hback))
      exact ent
    | true =>
      have e1 : takeStep x.pool x.ba m S t = (m1, popped S { t with q := q1 }) := by unfold takeStep; rw [hd, h0]; simp only [Bool.false_eq_true, if_false]; rw [hp1]; simp only [hqd, if_true]
      rw [e1]
      refine Sx.nil ?_
      refine Krg.i ?_
      refine Ksq.nm ?_
      refine Cx.sq ?_
      refine Cx.openp (a := some ⟨p, 0, none⟩) rfl ?_
      rintro ⟨r, c⟩
      simp only [rpopL, List.cons_append, List.nil_append]
      rw [hqd]
      refine go ?_
      refine Sx.ent (RPopO.close (sb := rp) (a := some ⟨p, 0, none⟩) (r := r) q1 rfl rfl rfl rfl rfl rfl (by rw [hqd]) rfl) ?_
      refine Sx.ca rfl (refPopGot (b := p) (sb := rp) (rm := rm) (k := x.pool) (q := q1) hqd hq'.len) ?_
      rintro v L' ⟨ro, co, rfl, rfl⟩
      refine go ?_
      cases hg : q1.got with
      | nil =>
        have e2 : popped S { t with q := q1 } = (S, { t with q := q1, done := true }) := by unfold popped; simp only [hg]
        rw [e2]
        refine go ?_
        refine Kr.one (.inr rfl) rfl ?_ ⟨rfl, rfl⟩
        refine Ent.trans (Ent.trans (Ent.take (a := some ⟨b, 0, none⟩)) (RTakeO.closeD (rp := rp) { t with q := q1, done := true } rfl (by unfold TakeS.ch; simp only; rw [(ht.i hd).2]; rfl) rfl)) (Ent.cons ?_)
        refine Ent.trans ?_ (Ent.cons (Ent.cons hback))
        exact ent
      | cons y l =>
        have e2 : popped S { t with q := q1 } = (S.give l, { t with q := q1, chunk := y, is_ := true, done := true }) := by unfold popped; simp only [hg]
        have h8 := hq'.len
        rw [hg] at h8
        simp only [List.length_cons] at h8 ⊢
        rw [e2]
        refine Cx.cyes rfl (decide_eq_true (by omega)) ?_
        refine Cx.rowkey (a := ro) fun hx0 hn0 hc0 hk0 => ?_
        obtain ⟨rg, rfl⟩ := row_some (i := 0) (by omega) (hk0.imp (fun h => ⟨h.1, h.2.1, h.2.2⟩) id)
        refine gg ?_
        refine Sx.ldr (b := rg) rfl (v := .int .i64 y) rfl ?_
        refine go ?_
        refine Cx.ent (Ent.take (a := some ⟨s, 0, none⟩)) ?_
        refine Cx.openp (a := some ⟨s, 0, none⟩) rfl ?_
        rintro ⟨st, lm⟩
        simp only [rsupL, List.cons_append, List.nil_append]
        refine Cx.ordc rfl kr_ ?_
        refine ge ?_
        refine Ev.caH kr_ rfl rfl (refGive (b := st) (ys := l) (Rd.suffix_ (g := rg) (i := 1) hx0 hn0 (by omega)) (by omega)) (Pres.deps kr_) ?_
        rintro v L' ⟨rfl, rfl⟩
        refine ge ?_
        refine go ?_
        refine Kr.one (.inr rfl) rfl ?_ ⟨rfl, rfl⟩
        refine Ent.trans (Ent.trans (Ent.take (a := some ⟨b, 0, none⟩)) (RTakeO.closeD (rp := rp) { t with q := q1, chunk := y, is_ := true, done := true } rfl rfl rfl)) (Ent.cons ?_)
        refine Ent.trans (RSupO.close (a := some ⟨s, 0, none⟩) (st := st) (lm := lm) (w := w) (S.give l) rfl rfl rfl) (Ent.cons ?_)
        refine Ent.trans ?_ (Ent.cons hback)
        exact ent
end
end Go.Proofs.YtggnbdeokmdjbaaGreat


namespace Go.Proofs.YtggnbdeokmdjbaaGreat
structure Rt where
 gen : Nat
 mrk : Nat
 cl : Nat
 off : Nat
def rtOf (w : Nat) : Rt := ⟨w / 4294967296, w / 65536 % 65536, w / 4096 % 16, w % 4096⟩
def Rt.w (r : Rt) : Nat := r.gen * 4294967296 + r.mrk * 65536 + r.cl * 4096 + r.off
structure Rt.ok (r : Rt) : Prop where
 g : r.gen < 4294967296
 m : r.mrk ≤ 4097
 c : r.cl ≤ 3
 o : r.off ≤ 1024
def Rt.live (r : Rt) (gen : Int) : Prop := 1 ≤ r.mrk ∧ (r.gen : Int) = gen
instance (r : Rt) (gen : Int) : Decidable (r.live gen) := by unfold Rt.live; infer_instance
def Rt.chunk (r : Rt) : Int := if r.mrk < 2 then -1 else (r.mrk : Int) - 2
def roundS (cl n : Nat) : Nat := (n + 2 ^ cl - 1) / 2 ^ cl * 2 ^ cl
def fitsS (wd off need : Nat) : Prop := 2 * need ≤ wd ∧ off + need ≤ wd
instance (wd off need : Nat) : Decidable (fitsS wd off need) := by unfold fitsS; infer_instance
def afterS (wd need : Nat) : Nat := if wd < 2 * need then wd else need
structure CreS where
 at_ : Nat
 cnt : Nat
 slot : Int
 point : Nat
 was : Nat
 code : Nat
 q : PopS
 done : Bool
def CreS.init : CreS := ⟨0, 0, -1, 0, 0, 0, PopS.init 1, false⟩
def nextRt (cl w : Nat) : Rt := ⟨laterT (rtOf w).gen, 1, cl, 0⟩
structure CreS.ok (k : Sk) (c : CreS) : Prop where
 a : c.at_ ≤ 2
 q : c.q.ok k
 w : c.was < 18446744073709551616
 s : c.at_ ≠ 0 → 0 ≤ c.slot ∧ c.slot < k.n
 n : c.cnt ≤ 1000000
structure EndS where
 at_ : Nat
 cnt : Nat
 was : Nat
 code : Nat
 chunk : Int
 point : Nat
 done : Bool
def EndS.init : EndS := ⟨0, 0, 0, 0, -1, 0, false⟩
structure Hd where
 slot : Int
 gen : Int
 chunk : Int
 off : Int
 len : Int
def Hd.zero : Hd := ⟨0, 0, 0, 0, 0⟩
structure AlV where
 cnt : Nat
 hand : Int
 zat : Nat
 asked : Bool
 ends : Bool
 need : Nat
 point : Nat
 was : Nat
 code : Nat
 obj : Hd
structure AlS where
 at_ : Nat
 v : AlV
 t : TakeS
 g : PushS
 done : Bool
def AlV.init : AlV := ⟨0, -1, 0, false, false, 0, 0, 0, 0, Hd.zero⟩
end Go.Proofs.YtggnbdeokmdjbaaGreat


namespace Go.Proofs.YtggnbdeokmdjbaaGreat
open Go
attribute [local irreducible] Sx Cx Rx Fx Krg Ksq Kbl Klp Kr
section
variable {L F G : St}
def Cn.root (x : Cn) : Nat := 3 + x.w
def Cn.word (x : Cn) : Nat := 3 + x.w + x.sl + x.sl + x.c
end
end Go.Proofs.YtggnbdeokmdjbaaGreat


namespace Go.Proofs.YtggnbdeokmdjbaaGreat
open Go
section
variable {P : Program} {N : Nat} {e : En} {L F : St}
end
section
variable {P : Program} {N : Nat} {Kf : En → St → Prop} {r : List It} {ms : List (Nat × (St → Prop))} {e : En} {L F : St} {i ds : Nat} {rs : List Nat} {d : Option Nat} {g : Option (Nat × Bool)}
end
end Go.Proofs.YtggnbdeokmdjbaaGreat


namespace Go.Proofs.YtggnbdeokmdjbaaGreat
open Go
attribute [local irreducible] Sx Cx Rx Fx Krg Ksq Kbl Klp Kr
section
variable {L F G : St}
end
end Go.Proofs.YtggnbdeokmdjbaaGreat


namespace Go.Proofs.YtggnbdeokmdjbaaGreat
open Go
attribute [local irreducible] Sx Cx Rx Fx Krg Ksq Kbl Klp Kr
section
variable {L F G : St}
theorem Sx.re {P : Program} {N : Nat} {l : List Go.Proofs.YtggnbdeokmdjbaaGreat.G} {e : En} {K : En → St → Prop} {b : Option Addr} {T : TypeId} {vs : List Value} {L : St} (vs' : List Value) (h : vs = vs') (k : Sx P N l e K (pt b (Blk T vs') :: L)) : Sx P N l e K (pt b (Blk T vs) :: L) := h ▸ k
def CreS.rt (cl : Nat) (c : CreS) : Rt := if c.at_ = 2 then nextRt cl c.was else ⟨0, 0, 0, 0⟩
end
end Go.Proofs.YtggnbdeokmdjbaaGreat


namespace Go.Proofs.YtggnbdeokmdjbaaGreat
open Go
attribute [local irreducible] Sx Cx Rx Fx Krg Ksq Kbl Klp Kr
section
variable {L F G : St}
end
end Go.Proofs.YtggnbdeokmdjbaaGreat


namespace Go.Proofs.YtggnbdeokmdjbaaGreat
open Go
attribute [local irreducible] Sx Cx Rx Fx Krg Ksq Kbl Klp Kr
section
variable {L F G : St}
end
end Go.Proofs.YtggnbdeokmdjbaaGreat


namespace Go.Proofs.YtggnbdeokmdjbaaGreat
structure AlP where
 k : Sk
 ro : Nat
 wo : Nat
 wd : Nat
 ba : Int
 slot : Nat
 gen : Int
 n : Nat
abbrev gNone : PushS := ⟨[], 0, 0, true⟩
def TakeS.zero : TakeS := ⟨0, 0, false, 0, PopS.init 1, true⟩
noncomputable def alClose (k : Sk) (s : SupS) (v : AlV) (t : TakeS) (code : Nat) (o : Hd) : SupS × AlS :=
 let s1 := if 0 ≤ v.hand then s.give [v.hand] else s
 let g := giveInit k (s1.xs.take (overK s1.most s1.xs))
 ({ s1 with xs := s1.xs.drop (overK s1.most s1.xs) }, ⟨6, { v with code := code, obj := o, point := v.cnt, ends := true, hand := -1 }, t, g, g.done⟩)
def alTaken (v : AlV) (t : TakeS) : AlS := if t.is_ then ⟨3, { v with hand := t.chunk }, t, gNone, false⟩ else ⟨0, v, t, gNone, false⟩
noncomputable def alSeen (p : AlP) (s : SupS) (v : AlV) (t : TakeS) : SupS × AlS :=
 if (rtOf v.was).live p.gen then
  let v1 : AlV := { v with need := roundS (rtOf v.was).cl p.n }
  if 2 ≤ (rtOf v.was).mrk ∧ fitsS p.wd (rtOf v.was).off (roundS (rtOf v.was).cl p.n) then (s, ⟨1, v1, t, gNone, false⟩)
  else if 0 ≤ v.hand then (s, ⟨4, v1, t, gNone, false⟩)
  else if v.asked then alClose p.k s v1 t 6 Hd.zero
  else if (takeInit p.ba s).2.done then ((takeInit p.ba s).1, alTaken { v1 with asked := true } (takeInit p.ba s).2)
  else ((takeInit p.ba s).1, ⟨2, { v1 with asked := true }, (takeInit p.ba s).2, gNone, false⟩)
 else alClose p.k s v t 3 Hd.zero
noncomputable def alStep (p : AlP) (m : Mm) (s : SupS) (a : AlS) : Mm × SupS × AlS :=
 if a.done then (m, s, a) else
 let v : AlV := { a.v with cnt := a.v.cnt + 1 }
 let w := rtOf a.v.was
 match a.at_ with
 | 0 => (m.tick, alSeen p s { v with was := m.at_ (p.ro + p.slot) } a.t)
 | 1 => if m.at_ (p.ro + p.slot) = a.v.was then (m.put (p.ro + p.slot) (Rt.w ⟨w.gen, w.mrk, w.cl, w.off + v.need⟩), alClose p.k s v a.t 0 ⟨p.slot, p.gen, w.chunk, w.off, p.n⟩) else (m.tick, s, ⟨0, v, a.t, gNone, false⟩)
 | 2 => ((takeStep p.k p.ba m s a.t).1, (takeStep p.k p.ba m s a.t).2.1, if (takeStep p.k p.ba m s a.t).2.2.done then alTaken v (takeStep p.k p.ba m s a.t).2.2 else ⟨2, v, (takeStep p.k p.ba m s a.t).2.2, gNone, false⟩)
 | 3 => (m.put (p.wo + v.hand.toNat * p.wd + v.zat) 0, s, ⟨if v.zat + 1 < p.wd then 3 else 4, { v with zat := v.zat + 1 }, a.t, gNone, false⟩)
 | 4 => (m.put (p.k.links + v.hand.toNat) (w.chunk + 1).toNat, s, ⟨5, v, a.t, gNone, false⟩)
 | 5 => if m.at_ (p.ro + p.slot) = a.v.was then (m.put (p.ro + p.slot) (Rt.w ⟨w.gen, 2 + v.hand.toNat, w.cl, afterS p.wd v.need⟩), alClose p.k s { v with hand := -1 } a.t 0 ⟨p.slot, p.gen, v.hand, 0, p.n⟩) else (m.tick, s, ⟨0, v, a.t, gNone, false⟩)
 | _ => ((pushStep p.k m a.g).2, s, ⟨6, v, a.t, (pushStep p.k m a.g).1, (pushStep p.k m a.g).1.done⟩)
def AlS.init : AlS := ⟨0, AlV.init, TakeS.zero, gNone, false⟩
noncomputable def alIt (p : AlP) : Nat → Mm × SupS × AlS → Mm × SupS × AlS
 | 0, r => r
 | j + 1, r => alStep p (alIt p j r).1 (alIt p j r).2.1 (alIt p j r).2.2
end Go.Proofs.YtggnbdeokmdjbaaGreat


namespace Go.Proofs.YtggnbdeokmdjbaaGreat
open Go
attribute [local irreducible] Sx Cx Rx Fx Krg Ksq Kbl Klp Kr
section
variable {L F G : St}
theorem supTake {u mp pb : Nat} {x : Cn} {s : SupS} {F : St} (hx : x.ok) (hb : s.xs.length + s.lm.size ≤ 1000000) [t : Take L (some ⟨u, 0, none⟩) (SupO mp pb x s) F] :
  Fx Tryz.prog 55 [.pointer (some ⟨u, 0, none⟩)] L (fun v L' => ∃ b, v = .pointer (some ⟨b, 0, none⟩) ∧ L' = pt (some ⟨b, 0, none⟩) (TakeO u pb x.pool (takeInit x.ba s).2) :: pt (some ⟨u, 0, none⟩) (SupO mp pb x (takeInit x.ba s).1) :: F) := by
 refine Fx.mk Tryz.func55 k55 nb_ ?_
 dsimp only [c55, kG, kS, kH, kM, kN, kF, kL, envOf, Nat.reduceAdd]
 refine Cx.ent (Ent.of t.out) ?_
 refine go ?_
 refine Sx.bx rfl rfl fun b => ?_
 refine go ?_
 refine Sx.ca rfl (takeKept (b := b) (u := u) (mp := mp) (pb := pb) (x := x) (s := s) (by omega)) ?_
 rintro v L' ⟨rfl, rfl⟩
 by_cases hxs : s.xs = []
 ·have hk : s.kept = s := by unfold SupS.kept; rw [hxs]; simp only [List.dropLast_nil]; rw [← hxs]
  rw [decide_eq_false (fun h : s.xs ≠ [] => h hxs), hk, show lastI s.xs = 0 by rw [hxs]; rfl]
  refine go ?_
  refine Sx.openp (a := some ⟨u, 0, none⟩) rfl ?_
  rintro ⟨sh, lm⟩
  simp only [supL, List.cons_append, List.nil_append]
  refine go ?_
  refine Sx.ca rfl (limboLen (b := lm) (m := s.lm) (by omega)) ?_
  rintro v L' ⟨rfl, rfl⟩
  refine go ?_
  by_cases hz : 0 < s.lm.size
  ·have e : takeInit x.ba s = (s, TakeS.none_) := by unfold takeInit keepT; rw [if_pos hxs]; simp only [if_pos hz]
   rw [e]
   refine Cx.cyes rfl (decide_eq_true (by omega)) ?_
   refine go ?_
   refine Sx.ca rfl (machGo (b := b)) ?_
   rintro v L' ⟨rfl, rfl⟩
   refine go ?_
   refine Kr.one (.inr rfl) rfl ?_ ⟨b, rfl, rfl⟩
   refine Ent.trans ?_ (TakeO.closeL (n1 := .nilFunc) (n2 := .nilFunc) (n3 := .nilFunc) (pp := .pointer none) (cnt := 0) TakeS.none_ rfl rfl rfl rfl rfl)
   refine Ent.cons ?_
   refine Ent.trans (SupO.close (a := some ⟨u, 0, none⟩) (sh := sh) (lm := lm) (mp := mp) (pb := pb) (x := x) s rfl rfl rfl) (Ent.refl _)
  ·have e : takeInit x.ba s = (s, { TakeS.none_ with at_ := 1, q := PopS.init x.ba }) := by unfold takeInit keepT; rw [if_pos hxs]; simp only [if_neg hz]
   rw [e]
   refine Cx.cno rfl (decide_eq_false (by omega)) ?_
   refine Cx.ent (Ent.trans (Ent.swap) (Ent.trans (Ent.cons (Ent.refl _)) (SupO.close (a := some ⟨u, 0, none⟩) (sh := sh) (lm := lm) (mp := mp) (pb := pb) (x := x) s rfl rfl rfl))) ?_
   refine go ?_
   refine Sx.ca rfl (takeAsk (b := b) (u := u) (mp := mp) (pb := pb) (x := x) (s := s) hx) ?_
   rintro v L' rfl
   refine go ?_
   refine Kr.one (.inr rfl) rfl ?_ ⟨b, rfl, rfl⟩
   exact Ent.refl _
 ·have e : takeInit x.ba s = (s.kept, { TakeS.none_ with chunk := lastI s.xs, is_ := true, done := true }) := by unfold takeInit keepT; rw [if_neg hxs]
  rw [e, decide_eq_true (show s.xs ≠ [] from hxs)]
  refine go ?_
  exact Kr.one (.inr rfl) rfl (TakeO.closeD _ rfl rfl rfl rfl) ⟨b, rfl, rfl⟩
end
end Go.Proofs.YtggnbdeokmdjbaaGreat


namespace Go.Proofs.YtggnbdeokmdjbaaGreat
open Go
attribute [local irreducible] Sx Cx Rx Fx Krg Ksq Kbl Klp Kr
section
variable {L F G : St}
abbrev Cn.al (x : Cn) (slot : Nat) (gen : Int) (n : Nat) : AlP := ⟨x.pool, x.root, x.word, x.wd, x.ba, slot, gen, n⟩
section
variable {T : TypeId} {g u pb : Nat} {x : Cn} {slot : Nat} {gen : Int} {n : Nat} {s : AlS} {a : Option Addr}
end
end
end Go.Proofs.YtggnbdeokmdjbaaGreat


namespace Go.Proofs.YtggnbdeokmdjbaaGreat
open Go
attribute [local irreducible] Sx Cx Rx Fx Krg Ksq Kbl Klp Kr
section
variable {L F G : St}
end
end Go.Proofs.YtggnbdeokmdjbaaGreat


namespace Go.Proofs.YtggnbdeokmdjbaaGreat
open Go
attribute [local irreducible] Sx Cx Rx Fx Krg Ksq Kbl Klp Kr
section
variable {L F G : St}
end
end Go.Proofs.YtggnbdeokmdjbaaGreat


namespace Go.Proofs.YtggnbdeokmdjbaaGreat
open Go
attribute [local irreducible] Sx Cx Rx Fx Krg Ksq Kbl Klp Kr
section
variable {L F G : St}
end
end Go.Proofs.YtggnbdeokmdjbaaGreat


namespace Go.Proofs.YtggnbdeokmdjbaaGreat
open Go
attribute [local irreducible] Sx Cx Rx Fx Krg Ksq Kbl Klp Kr
section
variable {L F G : St}
end
end Go.Proofs.YtggnbdeokmdjbaaGreat


namespace Go.Proofs.YtggnbdeokmdjbaaGreat
open Go
attribute [local irreducible] Sx Cx Rx Fx Krg Ksq Kbl Klp Kr
section
variable {L F G : St}
end
end Go.Proofs.YtggnbdeokmdjbaaGreat


namespace Go.Proofs.YtggnbdeokmdjbaaGreat
open Go
attribute [local irreducible] Sx Cx Rx Fx Krg Ksq Kbl Klp Kr
structure AlOk (x : Cn) (a : AlS) : Prop where
 o0 : a.at_ ≤ 6
 o1 : a.v.cnt ≤ 1000000
 o2 : -1 ≤ a.v.hand
 o3 : a.v.hand < x.c
 o4 : (rtOf a.v.was).ok
 o5 : a.at_ = 1 → (rtOf a.v.was).off + a.v.need ≤ x.wd
 o6 : a.at_ = 5 → 1 ≤ a.v.need ∧ a.v.need ≤ x.wd
 o7 : a.at_ = 3 ∨ a.at_ = 4 ∨ a.at_ = 5 → 0 ≤ a.v.hand
 o8 : a.at_ = 3 → a.v.zat < x.wd
 o9 : a.at_ = 2 → a.t.ok
section
variable {L F G : St}
end
end Go.Proofs.YtggnbdeokmdjbaaGreat


namespace Go.Proofs.YtggnbdeokmdjbaaGreat
open Go
attribute [local irreducible] Sx Cx Rx Fx Krg Ksq Kbl Klp Kr
section
variable {L F G : St}
end
end Go.Proofs.YtggnbdeokmdjbaaGreat


namespace Go.Proofs.YtggnbdeokmdjbaaGreat
structure ColS where
 at_ : Nat
 a : AdvS
 g : PushS
 done : Bool
def ColS.init : ColS := ⟨0, AdvS.init, ⟨[], 0, 0, true⟩, false⟩
end Go.Proofs.YtggnbdeokmdjbaaGreat


namespace Go.Proofs.YtggnbdeokmdjbaaGreat
open Go
attribute [local irreducible] Sx Cx Rx Fx Krg Ksq Kbl Klp Kr
section
variable {L F G : St}
end
end Go.Proofs.YtggnbdeokmdjbaaGreat


namespace Go.Proofs.YtggnbdeokmdjbaaGreat
end Go.Proofs.YtggnbdeokmdjbaaGreat


namespace Go.Proofs.YtggnbdeokmdjbaaGreat
structure Agree (A : Nat → Prop) (m m2 : Mm) : Prop where
 len : m2.ws.length = m.ws.length
 n : m2.n = m.n
 at_ : ∀ a, A a → m2.at_ a = m.at_ a
structure Covers (A : Nat → Prop) (k : Sk) : Prop where
 h : A k.head
 l : ∀ i, i < k.n → A (k.links + i)
structure TkOk (k : Sk) (len : Nat) (r : Mm × SupS × TakeS) : Prop where
 m : r.1.ok
 l : r.1.ws.length = len
 t : r.2.2.ok
 q : r.2.2.done = false → r.2.2.at_ = 1 → r.2.2.q.ok k
def SupS.size (s : SupS) : Nat := s.xs.length + s.lm.size
end Go.Proofs.YtggnbdeokmdjbaaGreat


namespace Go.Proofs.YtggnbdeokmdjbaaGreat
structure AlGood (x : Cn) (slot : Nat) (r : Mm × SupS × AlS) : Prop where
 l : r.1.ws.length = x.len
 m : r.1.ok
 k : (rtOf (r.1.at_ (x.root + slot))).ok
 s : r.2.1.xs.length + r.2.1.lm.size ≤ 1000
 m0 : 0 ≤ r.2.1.most
 m2 : r.2.1.most ≤ 64
 a : r.2.2.done = false → AlOk x r.2.2
structure AlRun (x : Cn) (p : AlP) (r : Mm × SupS × AlS) (N : Nat) : Prop where
 good : ∀ j, j ≤ N → AlGood x p.slot (alIt p j r)
 nd : ∀ j, j < N → (alIt p j r).2.2.done = false
 d : (alIt p N r).2.2.done = true
structure RefOk (k : Sk) (a : AlS) : Prop where
 code : a.v.code = 0
 obj : a.v.obj = Hd.zero
 hd : a.at_ ≤ 2 → a.v.hand = -1
 z : a.at_ ≤ 2 → a.v.zat = 0
 a5 : a.at_ ≤ 5
 ask : a.at_ = 2 → a.v.asked = true
 q : a.at_ = 2 → a.t.q.ok k
 t1 : a.at_ = 2 → a.t.at_ = 1 ∧ a.t.done = false
 n1 : a.at_ ≠ 1
 ti : a.at_ = 2 → a.t.is_ = false
section
variable {x : Cn} {slot : Nat} {gen : Int} {n : Nat} {m : Mm} {S : SupS}
end
end Go.Proofs.YtggnbdeokmdjbaaGreat


namespace Go.Proofs.YtggnbdeokmdjbaaGreat
open Go
attribute [local irreducible] Sx Cx Rx Fx Krg Ksq Kbl Klp Kr
section
variable {L F G : St}
end
end Go.Proofs.YtggnbdeokmdjbaaGreat


namespace Go.Proofs.YtggnbdeokmdjbaaGreat
open Go
attribute [local irreducible] Sx Cx Rx Fx Krg Ksq Kbl Klp Kr
section
variable {L F G : St}
end
end Go.Proofs.YtggnbdeokmdjbaaGreat


namespace Go.Proofs.YtggnbdeokmdjbaaGreat
open Go
attribute [local irreducible] Sx Cx Rx Fx Krg Ksq Kbl Klp Kr
section
variable {L F G : St}
end
end Go.Proofs.YtggnbdeokmdjbaaGreat


namespace Go.Proofs.YtggnbdeokmdjbaaGreat
open Go
attribute [local irreducible] Sx Cx Rx Fx Krg Ksq Kbl Klp Kr
section
variable {L F G : St}
def rpushL (T : TypeId) (sb : Nat) (p : PushS) (a : Option Addr) (y : Option Addr × Nat) : St :=
 [pt a (Blk T [.pointer (some ⟨sb, 0, none⟩), .slice y.1 p.l.length y.2, .int .i64 (p.at_ : Nat), wd p.was, .bool p.done]), pt y.1 (Row 3 1 p.l.length y.2 (ints p.l))]
def RPushT (T : TypeId) (sb : Nat) (p : PushS) (a : Option Addr) : As := exs (rpushL T sb p a)
abbrev RPushO := RPushT 233
theorem RPushO.close {T : TypeId} {sb : Nat} {a r : Option Addr} {c n : Nat} {v0 v2 v3 v4 : Value} {w : List Value} {F G : St} (p : PushS) [t : Take L a (Blk T [v0, .slice r n c, v2, v3, v4]) F] [u : Take F r (Row 3 1 n c w) G]
  (h0 : v0 = .pointer (some ⟨sb, 0, none⟩)) (h1 : n = p.l.length) (h2 : v2 = .int .i64 (p.at_ : Nat)) (h3 : v3 = wd p.was) (h4 : v4 = .bool p.done) (hw : w = ints p.l) : Ent L (pt a (RPushT T sb p) :: G) := by
 subst h0 h1 h2 h3 h4 hw
 refine Ent.trans (Ent.take1 (t := t) (Ent.of u.out)) ?_
 exact Ent.close (f := rpushL T sb p a) rfl (r, c)
theorem refPushNew {sb rm : Nat} {k : Sk} {a : Option Addr} {n c : Nat} {l : List Int} (hr : Rd L 1 a n (ints l)) (hn : n ≤ 1000000000) [t : Take L (some ⟨sb, 0, none⟩) (RSkO rm k) F] :
  Fx Tryz.prog 217 [.pointer (some ⟨sb, 0, none⟩), .slice a n c] L (fun v L' => ∃ p, v = .pointer (some ⟨p, 0, none⟩) ∧ L' = pt (some ⟨p, 0, none⟩) (RPushO sb (PushS.init l)) :: L) := by
 have hl : l.length = n := by have := hr.1; simpa [ints] using this
 refine Fx.mk Tryz.func217 k217 nb_ ?_
 dsimp only [c217, kG, kS, kH, kM, kN, kF, kL, envOf, Nat.reduceAdd]
 refine go ?_
 refine Sx.apn rfl rfl hr (ones_ints _) (by simp [maxLen]; omega) (by omega) fun r2 c2 h4 => ?_
 refine go ?_
 refine Sx.bx rfl rfl fun p => ?_
 refine Sx.re [.pointer (some ⟨sb, 0, none⟩), .slice r2 n c2, .int .i64 0, .int .u64 0, .bool (decide ((n : Int) = 0))] rfl ?_
 refine go ?_
 refine Kr.one (.inr rfl) rfl ?_ ⟨p, rfl, rfl⟩
 refine RPushO.close (a := some ⟨p, 0, none⟩) (r := r2) (sb := sb) (PushS.init l) rfl hl.symm rfl rfl ?_ rfl
 show Value.bool _ = Value.bool (decide (l = []))
 congr 1
 exact decide_eq_decide.2 ⟨fun h => List.eq_nil_of_length_eq_zero (by omega), fun h => by rw [h] at hl; simp at hl; omega⟩
set_option maxHeartbeats 2000000 in
theorem refPushStep {b sb rm : Nat} {k : Sk} {m : Mm} {p : PushS} {F1 F2 : St} (hk : k.ok m.ws.length) (hp : p.ok k) (hlen : p.l.length ≤ 1000000) [t1 : Take L (some ⟨b, 0, none⟩) (RPushO sb p) F1] [t2 : Take F1 (some ⟨rm, 0, none⟩) (RMemO m) F2] [t3 : Take F2 (some ⟨sb, 0, none⟩) (RSkO rm k) G] :
  Fx Tryz.prog 140 [.pointer (some ⟨b, 0, none⟩)] L (fun v L' => v = .bool (!p.done) ∧ L' = pt (some ⟨b, 0, none⟩) (RPushO sb (pushStep k m p).1) :: pt (some ⟨rm, 0, none⟩) (RMemO (pushStep k m p).2) :: F2) := by
 obtain ⟨k1, k2, k3, k4, k5, k6⟩ := hk
 refine Fx.mk Tryz.func140 k140 nb_ ?_
 dsimp only [c140, kG, kS, kH, kM, kN, kF, kL, envOf, Nat.reduceAdd]
 refine Cx.ent (Ent.trans (Ent.of t1.out) (Ent.cons (Ent.trans (Ent.of t2.out) (Ent.cons (Ent.of t3.out))))) ?_
 refine Cx.pure (rmemKey (rm := rm) (m := m)) fun hm => ?_
 refine Cx.openp (a := some ⟨b, 0, none⟩) rfl ?_
 rintro ⟨r, c⟩
 simp only [rpushL, List.cons_append, List.nil_append]
 cases hd : p.done with
 | true =>
   have e1 : pushStep k m p = (p, m) := by unfold pushStep; rw [hd]; rfl
   rw [e1]
   refine go ?_
   refine Kr.one (.inr rfl) rfl (Ent.trans (RPushO.close (sb := sb) (a := some ⟨b, 0, none⟩) (r := r) p rfl rfl rfl rfl (by rw [hd]) rfl) (Ent.cons (Ent.cons (Ent.of t3.back)))) ⟨rfl, rfl⟩
 | false =>
   have hlp := List.length_pos_iff.2 (hp.ne hd)
   have hpa := hp.a
   refine Cx.rowkey (a := r) fun hxl hc1 hc2 hkr => ?_
   obtain ⟨rg, rfl⟩ : ∃ g, r = some ⟨g, 0, none⟩ := by
    rcases hkr with h | h
    ·omega
    ·exact h
   refine go ?_
   refine Cx.ordc rfl kr_ ?_
   refine ge ?_
   refine go ?_
   rw [w64 (n := (p.l.length : Int) - 1) (by omega) (by omega)]
   by_cases h1 : p.at_ + 1 < p.l.length
   ·have hv1 := itI_some (l := p.l) (i := p.at_) (by omega)
    have hv2 := itI_some (l := p.l) (i := p.at_ + 1) (by omega)
    have hr1 := hp.g _ (itI_mem (l := p.l) (i := p.at_) (by omega))
    have hr2 := hp.g _ (itI_mem (l := p.l) (i := p.at_ + 1) (by omega))
    obtain ⟨x, hx⟩ : ∃ x : Nat, itI p.l p.at_ = x := ⟨(itI p.l p.at_).toNat, by omega⟩
    obtain ⟨y, hy⟩ : ∃ y : Nat, itI p.l (p.at_ + 1) = y := ⟨(itI p.l (p.at_ + 1)).toNat, by omega⟩
    have e1 : pushStep k m p = ({ p with at_ := p.at_ + 1 }, m.put (k.links + x) (y + 1)) := by
     unfold pushStep; rw [hd]; simp only [Bool.false_eq_true, if_false]; rw [if_pos h1, hx, hy]; rfl
    rw [hx] at hr1 hv1
    rw [hy] at hr2 hv2
    rw [e1]
    refine Cx.cyes rfl (decide_eq_true (by omega)) ?_
    refine go ?_
    refine Cx.ordc rfl kr_ ?_
    refine ge ?_
    refine Ev.ldrH (b := rg) kr_ rfl rfl (v := .int .i64 (x : Nat)) (by rw [show 0 + ((p.at_ : Int)).toNat * 1 = p.at_ by omega]; exact hv1) ?_
    refine ge ?_
    rw [w64 (n := (p.at_ : Int) + 1) (by omega) (by omega)]
    refine Ev.pvH kr_ rfl rfl ⟨by omega, by omega⟩ ?_
    refine Ev.ldrH (b := rg) kr_ rfl rfl (v := .int .i64 (y : Nat)) (by rw [show 0 + ((p.at_ : Int) + 1).toNat * 1 = p.at_ + 1 by omega]; exact hv2) ?_
    refine ge ?_
    rw [w64 (n := (k.links : Int) + x) (by omega) (by omega), show (k.links : Int) + x = ((k.links + x : Nat) : Int) by omega, wrapS (x := (y : Int) + 1) (by omega) (by omega), show ((y : Int) + 1).toNat = y + 1 by omega]
    refine Ev.caH kr_ rfl rfl (refStore (rm := rm) (m := m) (k.links + x) (y + 1) (by omega) (by omega)) (Pres.deps kr_) ?_
    rintro v L' ⟨rfl, rfl⟩
    refine ge ?_
    refine go ?_
    rw [w64 (n := (p.at_ : Int) + 1) (by omega) (by omega)]
    refine Kr.one (.inr rfl) rfl ?_ ⟨rfl, rfl⟩
    refine Ent.trans (RPushO.close (sb := sb) (a := some ⟨b, 0, none⟩) (r := some ⟨rg, 0, none⟩) { p with at_ := p.at_ + 1 } rfl rfl rfl rfl (by rw [hd]) rfl) (Ent.cons ?_)
    refine Ent.trans ?_ (Ent.cons (Ent.of t3.back))
    exact ent
   ·refine Cx.cno rfl (decide_eq_false (by omega)) ?_
    refine go ?_
    rw [w64 (n := (p.l.length : Int) - 1) (by omega) (by omega)]
    by_cases h2 : p.at_ + 1 = p.l.length
    ·have e1 : pushStep k m p = ({ p with at_ := p.at_ + 1, was := m.at_ k.head }, m.tick) := by
      unfold pushStep; rw [hd]; simp only [Bool.false_eq_true, if_false]; rw [if_neg h1, if_pos h2]
     rw [e1]
     refine Cx.cyes rfl (decide_eq_true (by omega)) ?_
     refine go ?_
     refine Cx.ordc rfl kr_ ?_
     refine ge ?_
     refine Ev.caH kr_ rfl rfl (refLoad (rm := rm) (m := m) k.head k3) (Pres.deps kr_) ?_
     rintro v L' ⟨rfl, rfl⟩
     refine ge ?_
     refine Ev.stbH (b := b) kr_ rfl rfl rfl rfl rfl (by rfl) rfl (Pres.deps kr_) ?_
     refine ge ?_
     refine go ?_
     rw [w64 (n := (p.at_ : Int) + 1) (by omega) (by omega)]
     refine Kr.one (.inr rfl) rfl ?_ ⟨rfl, rfl⟩
     refine Ent.trans (RPushO.close (sb := sb) (a := some ⟨b, 0, none⟩) (r := some ⟨rg, 0, none⟩) { p with at_ := p.at_ + 1, was := m.at_ k.head } rfl rfl rfl rfl (by rw [hd]) rfl) (Ent.cons ?_)
     refine Ent.trans ?_ (Ent.cons (Ent.of t3.back))
     exact ent
    ·refine Cx.cno rfl (decide_eq_false (by omega)) ?_
     refine go ?_
     by_cases h3 : p.at_ = p.l.length
     ·have hv1 := itI_some (l := p.l) (i := p.l.length - 1) (by omega)
      have hr1 := hp.g _ (itI_mem (l := p.l) (i := p.l.length - 1) (by omega))
      have ht1 := k.top_ge p.was
      have ht2 := k.top_lt p.was
      obtain ⟨x, hx⟩ : ∃ x : Nat, itI p.l (p.l.length - 1) = x := ⟨(itI p.l (p.l.length - 1)).toNat, by omega⟩
      have e1 : pushStep k m p = ({ p with at_ := p.at_ + 1 }, m.put (k.links + x) (k.top p.was + 1).toNat) := by
       unfold pushStep; rw [hd]; simp only [Bool.false_eq_true, if_false]; rw [if_neg h1, if_neg h2, if_pos h3, hx]; rfl
      rw [hx] at hr1 hv1
      rw [e1]
      refine Cx.cyes rfl (decide_eq_true (by omega)) ?_
      refine go ?_
      refine Cx.ordc rfl kr_ ?_
      refine ge ?_
      rw [w64 (n := (p.l.length : Int) - 1) (by omega) (by omega)]
      refine Ev.pvH kr_ rfl rfl ⟨by omega, by omega⟩ ?_
      refine Ev.ldrH (b := rg) kr_ rfl rfl (v := .int .i64 (x : Nat)) (by rw [show 0 + ((p.l.length : Int) - 1).toNat * 1 = p.l.length - 1 by omega]; exact hv1) ?_
      refine ge ?_
      refine Ev.cakH kr_ rfl rfl (refTop (sb := sb) (rm := rm) (k := k) p.was hp.w) ?_
      refine ge ?_
      rw [w64 (n := (k.links : Int) + x) (by omega) (by omega), show (k.links : Int) + x = ((k.links + x : Nat) : Int) by omega, wrapS (x := k.top p.was + 1) (by omega) (by omega)]
      refine Ev.caH kr_ rfl rfl (refStore (rm := rm) (m := m) (k.links + x) (k.top p.was + 1).toNat (by omega) (by omega)) (Pres.deps kr_) ?_
      rintro v L' ⟨rfl, rfl⟩
      refine ge ?_
      refine go ?_
      rw [w64 (n := (p.at_ : Int) + 1) (by omega) (by omega)]
      refine Kr.one (.inr rfl) rfl ?_ ⟨rfl, rfl⟩
      refine Ent.trans (RPushO.close (sb := sb) (a := some ⟨b, 0, none⟩) (r := some ⟨rg, 0, none⟩) { p with at_ := p.at_ + 1 } rfl rfl rfl rfl (by rw [hd]) rfl) (Ent.cons ?_)
      refine Ent.trans ?_ (Ent.cons (Ent.of t3.back))
      exact ent
     ·have hv1 := itI_some (l := p.l) (i := 0) (by omega)
      have hr1 := hp.g _ (itI_mem (l := p.l) (i := 0) (by omega))
      have hnl := nextW_lt (i := itI p.l 0) hp.w (by omega)
      have e1 : pushStep k m p = ({ p with at_ := p.l.length - 1, done := decide (m.at_ k.head = p.was) }, m.cas k.head p.was (nextW p.was (itI p.l 0))) := by
       unfold pushStep; rw [hd]; simp only [Bool.false_eq_true, if_false]; rw [if_neg h1, if_neg h2, if_neg h3]
      rw [e1]
      refine Cx.cno rfl (decide_eq_false (by omega)) ?_
      refine go ?_
      refine Cx.ordc rfl kr_ ?_
      refine ge ?_
      refine Ev.ldrH (b := rg) kr_ rfl rfl (v := .int .i64 (itI p.l 0)) hv1 ?_
      refine ge ?_
      refine Ev.cakH kr_ rfl rfl (refNextW p.was (itI p.l 0) hp.w (by omega) (by omega)) ?_
      refine ge ?_
      refine Ev.caH kr_ rfl rfl (refCas (rm := rm) (m := m) k.head p.was (nextW p.was (itI p.l 0)) k3 hp.w hnl) (Pres.deps kr_) ?_
      rintro v L' ⟨rfl, rfl⟩
      refine ge ?_
      refine Ev.stbH (b := b) kr_ rfl rfl rfl rfl rfl (by rfl) rfl (Pres.deps kr_) ?_
      refine ge ?_
      refine go ?_
      rw [w64 (n := (p.l.length : Int) - 1) (by omega) (by omega)]
      refine Kr.one (.inr rfl) rfl ?_ ⟨rfl, rfl⟩
      refine Ent.trans (RPushO.close (sb := sb) (a := some ⟨b, 0, none⟩) (r := some ⟨rg, 0, none⟩) { p with at_ := p.l.length - 1, done := decide (m.at_ k.head = p.was) } rfl rfl (congrArg (Value.int .i64) (by dsimp only; omega)) rfl rfl rfl) (Ent.cons ?_)
      refine Ent.trans ?_ (Ent.cons (Ent.of t3.back))
      exact ent
def rgiveL (T : TypeId) (rp : Nat) (p : PushS) (a : Option Addr) (y : Nat × Option Addr × Nat) : St :=
 [pt a (Blk T [.pointer (some ⟨y.1, 0, none⟩), .slice y.2.1 p.l.length y.2.2, .bool p.done]), pt (some ⟨y.1, 0, none⟩) (RPushO rp p), pt y.2.1 (Row 3 1 p.l.length y.2.2 (ints p.l))]
def RGiveT (T : TypeId) (rp : Nat) (p : PushS) (a : Option Addr) : As := exs (rgiveL T rp p a)
abbrev RGiveO := RGiveT 162
theorem RGiveO.close {b q rp n c : Nat} {r : Option Addr} {d : Bool} {p0 : PushS} {w : List Value} (p : PushS) (hq : p0 = p) (hn : n = p.l.length) (hd : d = p.done) (hw : w = ints p.l) :
  Ent (pt (some ⟨b, 0, none⟩) (Blk 162 [.pointer (some ⟨q, 0, none⟩), .slice r n c, .bool d]) :: pt (some ⟨q, 0, none⟩) (RPushO rp p0) :: pt r (Row 3 1 n c w) :: G) (pt (some ⟨b, 0, none⟩) (RGiveO rp p) :: G) := by
 subst hq hn hd hw
 exact Ent.close (f := rgiveL 162 rp p0 (some ⟨b, 0, none⟩)) rfl (q, r, c)
theorem refGiveStep {b rp rm : Nat} {k : Sk} {m : Mm} {p : PushS} {F1 F2 : St} (hk : k.ok m.ws.length) (hp : p.ok k) (hlen : p.l.length ≤ 1000000) [t1 : Take L (some ⟨b, 0, none⟩) (RGiveO rp p) F1] [t2 : Take F1 (some ⟨rm, 0, none⟩) (RMemO m) F2] [t3 : Take F2 (some ⟨rp, 0, none⟩) (RSkO rm k) G] :
  Fx Tryz.prog 72 [.pointer (some ⟨b, 0, none⟩)] L (fun v L' => v = .bool (!p.done) ∧ L' = pt (some ⟨b, 0, none⟩) (RGiveO rp (pushStep k m p).1) :: pt (some ⟨rm, 0, none⟩) (RMemO (pushStep k m p).2) :: F2) := by
 have hlp := pushStep_l k m p
 refine Fx.mk Tryz.func72 k72 nb_ ?_
 dsimp only [c72, kG, kS, kH, kM, kN, kF, kL, envOf, Nat.reduceAdd]
 refine Cx.ent (Ent.trans (Ent.of t1.out) (Ent.cons (Ent.trans (Ent.of t2.out) (Ent.cons (Ent.of t3.out))))) ?_
 refine Cx.openp (a := some ⟨b, 0, none⟩) rfl ?_
 rintro ⟨q, r, c⟩
 simp only [rgiveL, List.cons_append, List.nil_append]
 cases hd : p.done with
 | true =>
   have e1 : pushStep k m p = (p, m) := by unfold pushStep; rw [hd]; rfl
   rw [e1]
   refine go ?_
   refine Kr.one (.inr rfl) rfl (Ent.trans (RGiveO.close p rfl rfl hd.symm rfl) (Ent.cons (Ent.cons (Ent.of t3.back)))) ⟨rfl, rfl⟩
 | false =>
   refine go ?_
   refine Sx.ca rfl (refPushStep (b := q) (sb := rp) (rm := rm) (k := k) (m := m) (p := p) hk hp hlen) ?_
   rintro v L' ⟨rfl, rfl⟩
   refine Sx.nil ?_
   refine Krg.i ?_
   refine Ksq.nm ?_
   refine Cx.openp (a := some ⟨q, 0, none⟩) rfl ?_
   rintro ⟨r2, c2⟩
   simp only [rpushL, List.cons_append, List.nil_append]
   refine go ?_
   refine Kr.one (.inr rfl) rfl ?_ ⟨rfl, rfl⟩
   refine Ent.trans (Ent.take (a := some ⟨q, 0, none⟩)) ?_
   refine Ent.trans (RPushO.close (sb := rp) (a := some ⟨q, 0, none⟩) (r := r2) (pushStep k m p).1 rfl rfl rfl rfl rfl rfl) ?_
   refine Ent.trans (Ent.cons (Ent.take (a := some ⟨b, 0, none⟩))) ?_
   refine Ent.trans Ent.swap ?_
   refine Ent.trans (Ent.cons (Ent.cons (Ent.take (a := r)))) ?_
   refine Ent.trans (RGiveO.close (pushStep k m p).1 rfl (by rw [hlp]) rfl (by rw [hlp])) (Ent.cons ?_)
   refine Ent.trans ?_ (Ent.cons (Ent.of t3.back))
   exact ent
end
end Go.Proofs.YtggnbdeokmdjbaaGreat


namespace Go.Proofs.YtggnbdeokmdjbaaGreat
structure Wk where
 s : SupS
 a : AlS
 n : Nat
def ownH (a : AlS) : List Int := if 0 ≤ a.v.hand then [a.v.hand] else []
def ownG (a : AlS) : List Int := if a.g.done then [] else a.g.l
def Wk.own (w : Wk) : List Int := w.s.xs ++ (ownH w.a ++ ownG w.a)
def Wk.pend (w : Wk) : List Hd := if w.a.at_ = 6 ∧ w.a.v.code = 0 then [w.a.v.obj] else []
structure RootI (x : Cn) (cl gen : Nat) (w : Nat) : Prop where
 ok : (rtOf w).ok
 g : (rtOf w).gen = gen
 c : (rtOf w).cl = cl
 m : 1 ≤ (rtOf w).mrk
 o : (rtOf w).off ≤ x.wd
 d : (rtOf w).off % 2 ^ cl = 0
def Apt (o u : Hd) : Prop := o.chunk = u.chunk → o.off + o.len ≤ u.off ∨ u.off + u.len ≤ o.off
structure ObjI (x : Cn) (slot cl gen : Nat) (w : Nat) (R : List Int) (o : Hd) : Prop where
 s : o.slot = slot
 g : o.gen = gen
 c : o.chunk ∈ R
 l : 1 ≤ o.len
 f : 0 ≤ o.off
 d : o.off % (2 ^ cl : Nat) = 0
 e : o.off + o.len ≤ x.wd
 b : o.chunk = (rtOf w).chunk → o.off + o.len ≤ (rtOf w).off
structure RunI (x : Cn) (cl gen : Nat) (m : Mm) (P : List Int) (w : Wk) : Prop where
 h0 : -1 ≤ w.a.v.hand
 wok : (rtOf w.a.v.was).ok
 was : w.a.at_ ≠ 0 → w.a.at_ ≠ 6 → RootI x cl gen w.a.v.was
 need : w.a.at_ ≠ 0 → w.a.at_ ≠ 6 → w.a.v.need = roundS cl w.n
 fit : w.a.at_ = 1 → 2 ≤ (rtOf w.a.v.was).mrk ∧ (rtOf w.a.v.was).off + w.a.v.need ≤ x.wd
 hand : w.a.at_ = 3 ∨ w.a.at_ = 4 ∨ w.a.at_ = 5 → 0 ≤ w.a.v.hand
 zlt : w.a.at_ = 3 → w.a.v.zat < x.wd
 zz : 0 ≤ w.a.v.hand → ∀ j, j < w.a.v.zat → m.at_ (x.word + w.a.v.hand.toNat * x.wd + j) = 0
 zw : w.a.at_ ≠ 3 → 0 ≤ w.a.v.hand → w.a.v.zat = x.wd
 z0 : w.a.at_ ≠ 6 → w.a.v.hand < 0 → w.a.v.zat = 0
 noh : w.a.at_ = 2 → w.a.v.hand = -1
 tk : w.a.at_ = 2 → w.a.t.at_ = 1 ∧ w.a.t.done = false ∧ w.a.t.chunk = 0 ∧ w.a.t.is_ = false ∧ w.a.t.q.ok x.pool ∧ w.a.t.q.done = false ∧ PopH x.pool m P w.a.t.q
 ps : w.a.at_ = 6 → w.a.g.ok x.pool ∧ w.a.g.done = false ∧ PushH x.pool m w.a.g
structure WkI (x : Cn) (cl gen T : Nat) (m : Mm) (P : List Int) (w : Wk) : Prop where
 n1 : 1 ≤ w.n
 n2 : w.n ≤ x.wd
 lm : w.s.lm.size = 0
 m0 : 0 ≤ w.s.most
 m2 : w.s.most ≤ 64
 a6 : w.a.at_ ≤ 6
 h6 : w.a.done = true ∨ w.a.at_ = 6 → w.a.v.hand = -1
 gd : w.a.done = true ∨ w.a.at_ ≠ 6 → w.a.g.done = true
 cnt : w.a.v.cnt ≤ T
 cd : w.a.at_ = 6 → w.a.v.code = 0 ∨ w.a.v.code = 6
 run : w.a.done = false → RunI x cl gen m P w
structure ApI (x : Cn) (slot cl gen : Nat) (m : Mm) (ws : List Wk) (has : List Hd) (P R : List Int) (T : Nat) : Prop where
 len : m.ws.length = x.len
 ok : m.ok
 root : RootI x cl gen (m.at_ (x.root + slot))
 hd : 2 ≤ (rtOf (m.at_ (x.root + slot))).mrk → (rtOf (m.at_ (x.root + slot))).chunk ∈ R
 pool : Pool x.pool m P
 tag : hdT (m.at_ x.pool.head) ≤ T + 10
 one : ∀ y, P.count y + R.count y + (ws.flatMap Wk.own).count y ≤ 1
 rng : ∀ y, 0 < P.count y + R.count y + (ws.flatMap Wk.own).count y → 0 ≤ y ∧ y < (x.c : Int)
 wk : ∀ w ∈ ws, WkI x cl gen T m P w
 zr : ∀ y ∈ R, ∀ j, j < x.wd → m.at_ (x.word + y.toNat * x.wd + j) = 0
 obj : ∀ o ∈ has ++ ws.flatMap Wk.pend, ObjI x slot cl gen (m.at_ (x.root + slot)) R o
 dj : (has ++ ws.flatMap Wk.pend).Pairwise Apt
end Go.Proofs.YtggnbdeokmdjbaaGreat


namespace Go.Proofs.YtggnbdeokmdjbaaGreat
section
variable {x : Cn} {slot cl gen T : Nat} {m : Mm} {A B : List Wk} {w : Wk} {has : List Hd} {P R : List Int}
end
end Go.Proofs.YtggnbdeokmdjbaaGreat


namespace Go.Proofs.YtggnbdeokmdjbaaGreat
open Go
attribute [local irreducible] Sx Cx Rx Fx Krg Ksq Kbl Klp Kr
section
variable {L F G : St}
theorem refGiveNew {s w st lm rm rp rs re : Nat} {x : Cn} {l : List Int} {a : Option Addr} {n c : Nat} (hn : n = l.length) (hb : n ≤ 1000000) {F1 F2 F3 : St} [t1 : Take L (some ⟨s, 0, none⟩) (Blk 85 [.pointer (some ⟨w, 0, none⟩), .pointer (some ⟨st, 0, none⟩), .pointer (some ⟨lm, 0, none⟩)]) F1] [t2 : Take F1 (some ⟨w, 0, none⟩) (RWO x rm rp rs re) F2] [t3 : Take F2 (some ⟨rp, 0, none⟩) (RSkO rm x.pool) F3] [t4 : Take F3 a (Row 3 1 n c (ints l)) G] :
  Fx Tryz.prog 170 [.pointer (some ⟨s, 0, none⟩), .slice a n c] L (fun v L' => ∃ q, v = .pointer (some ⟨q, 0, none⟩) ∧ L' = pt (some ⟨q, 0, none⟩) (RGiveO rp (PushS.init l)) :: pt (some ⟨s, 0, none⟩) (Blk 85 [.pointer (some ⟨w, 0, none⟩), .pointer (some ⟨st, 0, none⟩), .pointer (some ⟨lm, 0, none⟩)]) :: pt (some ⟨w, 0, none⟩) (RWO x rm rp rs re) :: pt (some ⟨rp, 0, none⟩) (RSkO rm x.pool) :: G) := by
 subst hn
 refine Fx.mk Tryz.func170 k170 nb_ ?_
 dsimp only [c170, kG, kS, kH, kM, kN, kF, kL, envOf, Nat.reduceAdd]
 refine Cx.ent (Ent.trans (Ent.of t1.out) (Ent.cons (Ent.trans (Ent.of t2.out) (Ent.cons (Ent.trans (Ent.of t3.out) (Ent.cons (Ent.of t4.out))))))) ?_
 refine Cx.rowkey (a := a) fun hxl hc1 _ hkr => ?_
 have hk2 : l.length = 0 ∨ ∃ g, a = some ⟨g, 0, none⟩ := hkr.imp (fun h => h.2.1) id
 refine go ?_
 refine Sx.ca rfl (refPushNew (sb := rp) (rm := rm) (k := x.pool) (l := l) (Rd.any (a := a) hxl hk2) (by omega)) ?_
 rintro v L' ⟨p, rfl, rfl⟩
 refine go ?_
 refine Sx.apn rfl rfl (Rd.any (a := a) hxl hk2) (ones_ints _) (by simp [maxLen]; omega) (by omega) fun r2 c2 h4 => ?_
 refine go ?_
 refine Sx.bx rfl rfl fun q => ?_
 refine Sx.re [.pointer (some ⟨p, 0, none⟩), .slice r2 l.length c2, .bool (decide ((l.length : Int) = 0))] rfl ?_
 refine go ?_
 refine Kr.one (.inr rfl) rfl ?_ ⟨q, rfl, rfl⟩
 refine Ent.trans (M := pt (some ⟨q, 0, none⟩) (Blk 162 [.pointer (some ⟨p, 0, none⟩), .slice r2 l.length c2, .bool (decide ((l.length : Int) = 0))]) :: pt (some ⟨p, 0, none⟩) (RPushO rp (PushS.init l)) :: pt r2 (Row 3 1 l.length c2 (ints l)) :: _) (Ent.trans (Ent.cons (Ent.take (a := some ⟨p, 0, none⟩))) (Ent.cons (Ent.cons (Ent.take (a := r2))))) ?_
 refine Ent.trans (RGiveO.close (PushS.init l) rfl rfl ?_ rfl) (Ent.cons ?_)
 ·show decide _ = decide (l = [])
  exact decide_eq_decide.2 ⟨fun h => List.eq_nil_of_length_eq_zero (by omega), fun h => by rw [h]; rfl⟩
 ·exact ent
theorem refSpill {s w rm rp rs re : Nat} {x : Cn} {S : SupS} {F1 F2 : St} (hb : S.xs.length ≤ 1000000) (hm0 : 0 ≤ S.most) (hm2 : S.most ≤ 64) [t2 : Take L (some ⟨s, 0, none⟩) (RSupO w S) F1] [t3 : Take F1 (some ⟨w, 0, none⟩) (RWO x rm rp rs re) F2] [t4 : Take F2 (some ⟨rp, 0, none⟩) (RSkO rm x.pool) G] :
  Fx Tryz.prog 76 [.pointer (some ⟨s, 0, none⟩)] L (fun v L' => ∃ q, v = .pointer (some ⟨q, 0, none⟩) ∧ L' = pt (some ⟨q, 0, none⟩) (RGiveO rp (PushS.init (S.xs.take (overK S.most S.xs)))) :: pt (some ⟨s, 0, none⟩) (RSupO w { S with xs := S.xs.drop (overK S.most S.xs) }) :: F1) := by
 have hov : overK S.most S.xs ≤ S.xs.length := by unfold overK; omega
 have hback : Ent (pt (some ⟨w, 0, none⟩) (RWO x rm rp rs re) :: pt (some ⟨rp, 0, none⟩) (RSkO rm x.pool) :: G) F1 := Ent.trans (Ent.cons (Ent.of t4.back)) (Ent.of t3.back)
 refine Fx.mk Tryz.func76 k76 nb_ ?_
 dsimp only [c76, kG, kS, kH, kM, kN, kF, kL, envOf, Nat.reduceAdd]
 refine Cx.ent (Ent.trans (Ent.of t2.out) (Ent.cons (Ent.trans (Ent.of t3.out) (Ent.cons (Ent.of t4.out))))) ?_
 refine Cx.openp (a := some ⟨s, 0, none⟩) rfl ?_
 rintro ⟨st, lm⟩
 simp only [rsupL, List.cons_append, List.nil_append]
 refine go ?_
 refine Sx.ca rfl (refOver (b := st) (most := S.most) (xs := S.xs) (by omega) hm0 hm2) ?_
 rintro v L' ⟨a, c, rfl, rfl⟩
 refine go ?_
 refine Sx.ca rfl (refGiveNew (s := s) (w := w) (st := st) (lm := lm) (rm := rm) (rp := rp) (rs := rs) (re := re) (x := x) (l := S.xs.take (overK S.most S.xs)) (a := a) (by rw [List.length_take]; omega) (by omega)) ?_
 rintro v L' ⟨q, rfl, rfl⟩
 refine go ?_
 refine Kr.one (.inr rfl) rfl (Ent.cons ?_) ⟨q, rfl, rfl⟩
 refine Ent.trans (M := pt (some ⟨s, 0, none⟩) (Blk 85 [.pointer (some ⟨w, 0, none⟩), .pointer (some ⟨st, 0, none⟩), .pointer (some ⟨lm, 0, none⟩)]) :: pt (some ⟨st, 0, none⟩) (RefO S.most (S.xs.drop (overK S.most S.xs))) :: pt (some ⟨lm, 0, none⟩) (RLimboO S.lm) :: pt (some ⟨w, 0, none⟩) (RWO x rm rp rs re) :: pt (some ⟨rp, 0, none⟩) (RSkO rm x.pool) :: G) (by exact ent) ?_
 exact Ent.trans (RSupO.close (a := some ⟨s, 0, none⟩) (st := st) (lm := lm) (w := w) { S with xs := S.xs.drop (overK S.most S.xs) } rfl rfl rfl) (Ent.cons hback)
end
end Go.Proofs.YtggnbdeokmdjbaaGreat


namespace Go.Proofs.YtggnbdeokmdjbaaGreat
open Go
attribute [local irreducible] Sx Cx Rx Fx Krg Ksq Kbl Klp Kr
structure PH where
 tv : Value
 gv : Value
 av : Value
 bv : Value
 p : Nat
 q : Nat
 la : Option Addr
 lc : Nat
def hnV (hs : Nat → PH) (ws : Nat → Sw) : List Value :=
 [(hs 0).tv, (hs 1).tv, (hs 2).tv, (hs 0).gv, (hs 1).gv, (hs 2).gv, (hs 0).av, (hs 1).av, (hs 2).av, (hs 0).bv, (hs 1).bv, (hs 2).bv,
  .slice (hs 0).la (ws 0).l.length (hs 0).lc, .slice (hs 1).la (ws 1).l.length (hs 1).lc, .slice (hs 2).la (ws 2).l.length (hs 2).lc, .int .i64 (ws 0).tag, .int .i64 (ws 1).tag, .int .i64 (ws 2).tag]
section
variable {hs : Nat → PH} {ws : Nat → Sw} {i : Nat}
theorem hn_len : (hnV hs ws).length = 18 := rfl
theorem hn_tv (h : i < 3) : (hnV hs ws)[0 + 0 + (i : Int).toNat * 1]? = some (hs i).tv := by rcases (show i = 0 ∨ i = 1 ∨ i = 2 by omega) with rfl | rfl | rfl <;> rfl
theorem hn_gv (h : i < 3) : (hnV hs ws)[0 + 3 + (i : Int).toNat * 1]? = some (hs i).gv := by rcases (show i = 0 ∨ i = 1 ∨ i = 2 by omega) with rfl | rfl | rfl <;> rfl
theorem hn_av (h : i < 3) : (hnV hs ws)[0 + 6 + (i : Int).toNat * 1]? = some (hs i).av := by rcases (show i = 0 ∨ i = 1 ∨ i = 2 by omega) with rfl | rfl | rfl <;> rfl
theorem hn_bv (h : i < 3) : (hnV hs ws)[0 + 9 + (i : Int).toNat * 1]? = some (hs i).bv := by rcases (show i = 0 ∨ i = 1 ∨ i = 2 by omega) with rfl | rfl | rfl <;> rfl
theorem hn_l (h : i < 3) : (hnV hs ws)[0 + 12 + (i : Int).toNat * 1]? = some (.slice (hs i).la (ws i).l.length (hs i).lc) := by rcases (show i = 0 ∨ i = 1 ∨ i = 2 by omega) with rfl | rfl | rfl <;> rfl
theorem hn_tag (h : i < 3) : (hnV hs ws)[0 + 15 + (i : Int).toNat * 1]? = some (.int .i64 (ws i).tag) := by rcases (show i = 0 ∨ i = 1 ∨ i = 2 by omega) with rfl | rfl | rfl <;> rfl
theorem hn_blt {o : Nat} (h : i < 3) (ho : o ≤ 15) : Nat.blt (0 + o + (i : Int).toNat * 1) (hnV hs ws).length = true := by rw [hn_len]; simp; omega
theorem hn_stv {v : Value} (h : i < 3) : (hnV hs ws).set (0 + 0 + (i : Int).toNat * 1) v = hnV (updG hs i { hs i with tv := v }) ws := by rcases (show i = 0 ∨ i = 1 ∨ i = 2 by omega) with rfl | rfl | rfl <;> rfl
theorem hn_sgv {v : Value} (h : i < 3) : (hnV hs ws).set (0 + 3 + (i : Int).toNat * 1) v = hnV (updG hs i { hs i with gv := v }) ws := by rcases (show i = 0 ∨ i = 1 ∨ i = 2 by omega) with rfl | rfl | rfl <;> rfl
theorem hn_sav {v : Value} (h : i < 3) : (hnV hs ws).set (0 + 6 + (i : Int).toNat * 1) v = hnV (updG hs i { hs i with av := v }) ws := by rcases (show i = 0 ∨ i = 1 ∨ i = 2 by omega) with rfl | rfl | rfl <;> rfl
theorem hn_sbv {v : Value} (h : i < 3) : (hnV hs ws).set (0 + 9 + (i : Int).toNat * 1) v = hnV (updG hs i { hs i with bv := v }) ws := by rcases (show i = 0 ∨ i = 1 ∨ i = 2 by omega) with rfl | rfl | rfl <;> rfl
theorem hn_sl {a : Option Addr} {c : Nat} {l : List Int} (h : i < 3) : (hnV hs ws).set (0 + 12 + (i : Int).toNat * 1) (.slice a l.length c) = hnV (updG hs i { hs i with la := a, lc := c }) (updG ws i { ws i with l := l }) := by rcases (show i = 0 ∨ i = 1 ∨ i = 2 by omega) with rfl | rfl | rfl <;> rfl
theorem hn_stag {v : Int} (h : i < 3) : (hnV hs ws).set (0 + 15 + (i : Int).toNat * 1) (.int .i64 v) = hnV hs (updG ws i { ws i with tag := v }) := by rcases (show i = 0 ∨ i = 1 ∨ i = 2 by omega) with rfl | rfl | rfl <;> rfl
theorem hn_same {ws' : Nat → Sw} (h : ∀ i, (ws' i).l = (ws i).l ∧ (ws' i).tag = (ws i).tag) : hnV hs ws' = hnV hs ws := by
 unfold hnV
 rw [(h 0).1, (h 1).1, (h 2).1, (h 0).2, (h 1).2, (h 2).2]
end
section
variable {L F G : St}
theorem Fx.pre2 {P : Program} {f : FuncId} {vs : List Value} {R : Value → St → Prop} {p : Prop} (h : ∀ h, holds L h → p) (x : p → Fx P f vs L R) : Fx P f vs L R := by
 unfold Fx at *
 intro w0 w s
 obtain ⟨hh, H, _⟩ := s.heap
 exact x (h hh H) w0 w s
theorem sameIntsS {xs ys : List Int} {a b : Option Addr} {n m c d : Nat} {F1 F2 : St} [t1 : Take L a (Row 3 1 n c (ints xs)) F1] [t2 : Take L b (Row 3 1 m d (ints ys)) F2] (hb : n ≤ 1000000000) :
  Fx Tryz.prog 12 [.slice a n c, .slice b m d] L (fun v L' => v = .bool (decide (xs = ys)) ∧ L = L') :=
 Fx.pre2 (Row.key (t := t1)) fun h1 => Fx.pre2 (Row.key (t := t2)) fun h2 => sameInts (Rd.any (a := a) h1.1 (h1.2.2.2.imp (fun h => h.2.1) id)) (Rd.any (a := b) h2.1 (h2.2.2.2.imp (fun h => h.2.1) id)) hb
def handP (p : PushS) : List Int := if p.done then [] else p.l
theorem handP_done {p : PushS} (h : p.done = true) : handP p = [] := by unfold handP; rw [h]; rfl
theorem handP_on {p : PushS} (h : p.done = false) : handP p = p.l := by unfold handP; rw [h]; rfl
theorem giveHandS {b pb : Nat} {k : Sk} {p : PushS} {F1 : St} (hb : p.done = false → p.l.length ≤ 1000000) [t1 : Take L (some ⟨b, 0, none⟩) (GiveO pb k p) F1] : Fx Tryz.prog 98 [.pointer (some ⟨b, 0, none⟩)] L
  (fun v L' => ∃ a c, v = .slice a (handP p).length c ∧ L' = pt a (Row 3 1 (handP p).length c (ints (handP p))) :: pt (some ⟨b, 0, none⟩) (GiveO pb k p) :: F1) := by
 refine Fx.mk Tryz.func98 k98 nb_ ?_
 dsimp only [c98, kG, kS, kH, kM, kN, kF, kL, envOf, Nat.reduceAdd]
 refine Cx.ent (Ent.of t1.out) ?_
 refine go ?_
 refine Sx.ca rfl (giveDone (b := b) (pb := pb) (k := k) (p := p)) ?_
 rintro v L' ⟨rfl, rfl⟩
 cases hd : p.done with
 | true =>
   rw [handP_done hd]
   refine go ?_
   exact Kr.one (.inr rfl) rfl (Ent.rownil _ _) ⟨none, 0, rfl, rfl⟩
 | false =>
   rw [handP_on hd]
   have hb := hb hd
   refine Sx.ent (Ent.take (a := some ⟨b, 0, none⟩)) ?_
   refine Sx.openp (a := some ⟨b, 0, none⟩) (GiveO.p hd) ?_
   rintro ⟨g, cnt, r, c⟩
   simp only [givePL, List.cons_append, List.nil_append]
   refine go ?_
   refine Sx.rowkey (a := r) fun hxl hc1 _ hkr => ?_
   have hk2 : p.l.length = 0 ∨ ∃ g, r = some ⟨g, 0, none⟩ := hkr.imp (fun h => h.2.1) id
   refine go ?_
   refine Sx.ca rfl (clone (Rd.any (a := r) hxl hk2) (ones_ints _) (by omega)) ?_
   rintro v L' ⟨a', c', rfl, rfl⟩
   refine go ?_
   refine Kr.one (.inr rfl) rfl (Ent.cons ?_) ⟨a', c', rfl, rfl⟩
   exact GiveO.closeP p hd rfl rfl rfl
theorem refAllG {s w rm rp rs re : Nat} {x : Cn} {S : SupS} {F1 F2 : St} (hb : S.xs.length ≤ 1000000) [t2 : Take L (some ⟨s, 0, none⟩) (RSupO w S) F1] [t3 : Take F1 (some ⟨w, 0, none⟩) (RWO x rm rp rs re) F2] [t4 : Take F2 (some ⟨rp, 0, none⟩) (RSkO rm x.pool) G] :
  Fx Tryz.prog 78 [.pointer (some ⟨s, 0, none⟩)] L (fun v L' => ∃ q, v = .pointer (some ⟨q, 0, none⟩) ∧ L' = pt (some ⟨q, 0, none⟩) (RGiveO rp (PushS.init S.xs)) :: pt (some ⟨s, 0, none⟩) (RSupO w { S with xs := [] }) :: F1) := by
 have hback : Ent (pt (some ⟨w, 0, none⟩) (RWO x rm rp rs re) :: pt (some ⟨rp, 0, none⟩) (RSkO rm x.pool) :: G) F1 := Ent.trans (Ent.cons (Ent.of t4.back)) (Ent.of t3.back)
 refine Fx.mk Tryz.func78 k78 nb_ ?_
 dsimp only [c78, kG, kS, kH, kM, kN, kF, kL, envOf, Nat.reduceAdd]
 refine Cx.ent (Ent.trans (Ent.of t2.out) (Ent.cons (Ent.trans (Ent.of t3.out) (Ent.cons (Ent.of t4.out))))) ?_
 refine Cx.openp (a := some ⟨s, 0, none⟩) rfl ?_
 rintro ⟨st, lm⟩
 simp only [rsupL, List.cons_append, List.nil_append]
 refine go ?_
 refine Sx.ca rfl (refAll (b := st) (most := S.most) (xs := S.xs)) ?_
 rintro v L' ⟨a, c, rfl, rfl⟩
 refine go ?_
 refine Sx.ca rfl (refGiveNew (s := s) (w := w) (st := st) (lm := lm) (rm := rm) (rp := rp) (rs := rs) (re := re) (x := x) (l := S.xs) (a := a) rfl (by omega)) ?_
 rintro v L' ⟨q, rfl, rfl⟩
 refine go ?_
 refine Kr.one (.inr rfl) rfl (Ent.cons ?_) ⟨q, rfl, rfl⟩
 refine Ent.trans (M := pt (some ⟨s, 0, none⟩) (Blk 85 [.pointer (some ⟨w, 0, none⟩), .pointer (some ⟨st, 0, none⟩), .pointer (some ⟨lm, 0, none⟩)]) :: pt (some ⟨st, 0, none⟩) (RefO S.most []) :: pt (some ⟨lm, 0, none⟩) (RLimboO S.lm) :: pt (some ⟨w, 0, none⟩) (RWO x rm rp rs re) :: pt (some ⟨rp, 0, none⟩) (RSkO rm x.pool) :: G) (by exact ent) ?_
 exact Ent.trans (RSupO.close (a := some ⟨s, 0, none⟩) (st := st) (lm := lm) (w := w) { S with xs := [] } rfl rfl rfl) (Ent.cons hback)
end
end Go.Proofs.YtggnbdeokmdjbaaGreat


namespace Go.Proofs.YtggnbdeokmdjbaaGreat
open Go
attribute [local irreducible] Sx Cx Rx Fx Krg Ksq Kbl Klp Kr
structure Hs where
 a : Nat
 mp : Nat
 pb : Nat
 w : Nat
 rm : Nat
 rp : Nat
 rs : Nat
 re : Nat
 hb : Nat
def spR (n : Hs) (x : Cn) (q : Who) (w : Sw) (h : PH) : St :=
 pt (some ⟨q.pb, 0, none⟩) (SkO n.mp x.pool) :: pt h.la (Row 3 1 w.l.length h.lc (ints w.l)) ::
 (if w.k = 1 then [pt (some ⟨h.p, 0, none⟩) (TakeO q.u q.pb x.pool w.t), pt (some ⟨h.q, 0, none⟩) (RTakeO q.s n.rp w.t)] else if w.k = 2 then [pt (some ⟨h.p, 0, none⟩) (GiveO q.pb x.pool w.g), pt (some ⟨h.q, 0, none⟩) (RGiveO n.rp w.g)] else [])
def spW (n : Hs) (x : Cn) (q : Who) (w : Sw) (h : PH) : St := pt (some ⟨q.u, 0, none⟩) (SupO n.mp q.pb x w.s) :: pt (some ⟨q.s, 0, none⟩) (RSupO n.w w.s) :: spR n x q w h
structure PHok (w : Sw) (h : PH) : Prop where
 t1 : w.k = 1 → h.tv = .pointer (some ⟨h.p, 0, none⟩) ∧ h.av = .pointer (some ⟨h.q, 0, none⟩)
 t0 : w.k ≠ 1 → h.tv = .pointer none
 g1 : w.k = 2 → h.gv = .pointer (some ⟨h.p, 0, none⟩) ∧ h.bv = .pointer (some ⟨h.q, 0, none⟩)
 g0 : w.k ≠ 2 → h.gv = .pointer none
structure SpOk (x : Cn) (T : Nat) (m : Mm) (ws : Nat → Sw) (hs : Nat → PH) : Prop where
 i : ∃ P, SpI x m ws P T
 h : ∀ i, i < 3 → PHok (ws i) (hs i)
 n : m.n ≤ T
 tag : ∀ i, i < 3 → -(100 * (T : Int)) ≤ (ws i).tag ∧ (ws i).tag ≤ 100 * T
 tk : ∀ i, i < 3 → (ws i).k = 1 → (ws i).t.ok
section
variable {L F G : St}
theorem sp_back {n : Hs} {x : Cn} {Q : Nat → Who} {ws : Nat → Sw} {hs : Nat → PH} {i : Nat} {w : Sw} {h : PH} {s : St} (hi : i < 3) (hs' : ∀ G, Ent (s ++ G) (spW n x (Q i) w h ++ G)) :
  Ent (s ++ (many 3 (updS (fun i => spW n x (Q i) (ws i) (hs i)) i []) ++ G)) (many 3 (fun j => spW n x (Q j) (updG ws i w j) (updG hs i h j)) ++ G) := by
 refine Ent.trans (hs' _) ?_
 refine Ent.trans (Ent.oneBack hi) ?_
 have e : updS (fun i => spW n x (Q i) (ws i) (hs i)) i (spW n x (Q i) w h) = fun j => spW n x (Q j) (updG ws i w j) (updG hs i h j) := by
  funext j
  unfold updS updG
  by_cases h : j = i
  ·subst h; simp
  ·simp [h]
 rw [e]
 exact Ent.refl _
abbrev allS (n : Hs) (r r2 c c2 : Nat) : List Value := [.pointer (some ⟨n.mp, 0, none⟩), .pointer (some ⟨n.pb, 0, none⟩), .slice (some ⟨r, 0, none⟩) 3 c, .pointer (some ⟨n.w, 0, none⟩), .slice (some ⟨r2, 0, none⟩) 3 c2]
abbrev spF (x : Cn) (n : Hs) (r r2 c c2 : Nat) (Q : Nat → Who) (m : Mm) (ws : Nat → Sw) (hs : Nat → PH) (G : St) : St :=
 pt (some ⟨n.a, 0, none⟩) (Blk 51 (allS n r r2 c c2)) :: pt (some ⟨r, 0, none⟩) (Row 74 1 3 c (ptrs 3 fun i => (Q i).u)) :: pt (some ⟨r2, 0, none⟩) (Row 69 1 3 c2 (ptrs 3 fun i => (Q i).s)) ::
 pt (some ⟨n.mp, 0, none⟩) (MemO m) :: pt (some ⟨n.w, 0, none⟩) (RWO x n.rm n.rp n.rs n.re) :: pt (some ⟨n.rm, 0, none⟩) (RMemO m) :: pt (some ⟨n.rp, 0, none⟩) (RSkO n.rm x.pool) :: pt (some ⟨n.re, 0, none⟩) (REpO x n.rm) ::
 pt (some ⟨n.pb, 0, none⟩) (SkO n.mp x.pool) :: pt (some ⟨n.hb, 0, none⟩) (Blk 41 (hnV hs ws)) ::
 (many 3 (fun i => spW n x (Q i) (ws i) (hs i)) ++ G)
end
end Go.Proofs.YtggnbdeokmdjbaaGreat


namespace Go.Proofs.YtggnbdeokmdjbaaGreat
open Go
attribute [local irreducible] Sx Cx Rx Fx Krg Ksq Kbl Klp Kr
theorem updG_updG {α : Type} (f : Nat → α) (i : Nat) (v w : α) : updG (updG f i v) i w = updG f i w := by
 funext j; unfold updG; split <;> rfl
theorem updG_id {α : Type} (f : Nat → α) (i : Nat) : updG f i (f i) = f := by
 funext j; unfold updG; split
 ·rename_i h; rw [h]
 ·rfl
section
variable {L F G : St}
theorem takenOn {hb p q s n u pb i : Nat} {k : Sk} {t : TakeS} {hs : Nat → PH} {ws : Nat → Sw} {pp : Value} {F1 F2 F3 : St} (hi : i < 3) (ht : t.ok) (hd : t.done = false) (e1 : (hs i).tv = .pointer (some ⟨p, 0, none⟩)) (e2 : (hs i).av = .pointer (some ⟨q, 0, none⟩))
  [th : Take L (some ⟨hb, 0, none⟩) (Blk 41 (hnV hs ws)) F1] [t1 : Take L (some ⟨p, 0, none⟩) (TakeO u pb k t) F2] [t2 : Take L (some ⟨q, 0, none⟩) (rtkV s n (-1) t.seen pp false) F3] :
  Fx Tryz.prog 70 [.pointer (some ⟨hb, 0, none⟩), .int .i64 i] L (fun v L' => v = .bool true ∧ L = L') := by
 obtain ⟨h0, h1⟩ := ht.i hd
 have g1 : (hnV hs ws)[0 + 0 + (i : Int).toNat * 1]? = some (.pointer (some ⟨p, 0, none⟩)) := (hn_tv hi).trans (congrArg some e1)
 have g2 : (hnV hs ws)[0 + 6 + (i : Int).toNat * 1]? = some (.pointer (some ⟨q, 0, none⟩)) := (hn_av hi).trans (congrArg some e2)
 refine Fx.mk Tryz.func70 k70 nb_ ?_
 dsimp only [c70, kG, kS, kH, kM, kN, kF, kL, envOf, Nat.reduceAdd]
 refine go ?_
 refine Cx.ordc rfl kr_ ?_
 refine ge ?_
 refine Ev.ldbH (b := hb) kr_ rfl rfl g1 ?_
 refine ge ?_
 refine Ev.ldbH (b := hb) kr_ rfl rfl g2 ?_
 refine ge ?_
 refine go ?_
 refine Sx.ca rfl (takeChunk (b := p) ht) ?_
 rintro v L' ⟨rfl, rfl⟩
 rw [h0, h1]
 refine go ?_
 refine Cx.ordc rfl kr_ ?_
 refine ge ?_
 refine Ev.cakH kr_ rfl rfl (takeDone (b := p) ht) ?_
 rw [hd]
 refine ge ?_
 refine Ev.cakH kr_ rfl rfl (takeSeen (b := p) ht) ?_
 refine ge ?_
 rw [decide_eq_true (rfl : t.seen = t.seen)]
 refine go ?_
 exact Kr.one (.inr rfl) rfl (Ent.refl _) ⟨rfl, rfl⟩
theorem takenDone {hb p q s n u pb i lc0 : Nat} {la0 : Option Addr} {k : Sk} {t : TakeS} {hs : Nat → PH} {ws : Nat → Sw} {pp : Value} {F1 F2 F3 : St} (hi : i < 3) (ht : t.ok) (hd : t.done = true) (e1 : (hs i).tv = .pointer (some ⟨p, 0, none⟩)) (e2 : (hs i).av = .pointer (some ⟨q, 0, none⟩))
  (hc : t.is_ = true → 0 ≤ t.chunk) (hc0 : t.is_ = false → t.chunk = 0) (hl : (ws i).l.length ≤ 1000000) (hla : (hs i).la = la0) (hlc : (hs i).lc = lc0)
  [th : Take L (some ⟨hb, 0, none⟩) (Blk 41 (hnV hs ws)) F1] [t1 : Take F1 (some ⟨p, 0, none⟩) (TakeO u pb k t) F2] [t2 : Take F2 (some ⟨q, 0, none⟩) (rtkV s n t.ch t.seen pp true) F3]
  [t3 : Take F3 la0 (Row 3 1 (ws i).l.length lc0 (ints (ws i).l)) G] :
  Fx Tryz.prog 70 [.pointer (some ⟨hb, 0, none⟩), .int .i64 i] L (fun v L' => v = .bool true ∧ ∃ h' : PH, (h'.tv = .pointer none ∧ h'.gv = (hs i).gv) ∧
   L' = pt (some ⟨hb, 0, none⟩) (Blk 41 (hnV (updG hs i h') (updG ws i { ws i with l := if t.is_ then (ws i).l ++ [t.chunk] else (ws i).l }))) :: pt h'.la (Row 3 1 (if t.is_ then (ws i).l ++ [t.chunk] else (ws i).l).length h'.lc (ints (if t.is_ then (ws i).l ++ [t.chunk] else (ws i).l))) :: G) := by
 subst hla; subst hlc
 have g1 : (hnV hs ws)[0 + 0 + (i : Int).toNat * 1]? = some (.pointer (some ⟨p, 0, none⟩)) := (hn_tv hi).trans (congrArg some e1)
 have g2 : (hnV hs ws)[0 + 6 + (i : Int).toNat * 1]? = some (.pointer (some ⟨q, 0, none⟩)) := (hn_av hi).trans (congrArg some e2)
 refine Fx.mk Tryz.func70 k70 nb_ ?_
 dsimp only [c70, kG, kS, kH, kM, kN, kF, kL, envOf, Nat.reduceAdd]
 refine Cx.ent (Ent.trans (Ent.of th.out) (Ent.cons (Ent.trans (Ent.of t1.out) (Ent.cons (Ent.trans (Ent.of t2.out) (Ent.cons (Ent.of t3.out))))))) ?_
 refine go ?_
 refine Cx.ordc rfl kr_ ?_
 refine ge ?_
 refine Ev.ldbH (b := hb) kr_ rfl rfl g1 ?_
 refine ge ?_
 refine Ev.ldbH (b := hb) kr_ rfl rfl g2 ?_
 refine ge ?_
 refine go ?_
 refine Sx.ca rfl (takeChunk (b := p) ht) ?_
 rintro v L' ⟨rfl, rfl⟩
 refine go ?_
 refine Cx.ordc rfl kr_ ?_
 refine ge ?_
 refine Ev.cakH kr_ rfl rfl (takeDone (b := p) ht) ?_
 rw [hd]
 refine ge ?_
 refine Ev.cakH kr_ rfl rfl (takeSeen (b := p) ht) ?_
 refine ge ?_
 rw [decide_eq_true (rfl : t.seen = t.seen)]
 refine go ?_
 refine gg ?_
 refine Sx.stb (b := hb) rfl rfl rfl rfl (hn_blt (o := 0) hi (by omega)) (hn_stv hi) ?_
 cases his : t.is_ with
 | false =>
   have hch : t.ch = -1 := by unfold TakeS.ch; rw [his]; rfl
   rw [hch, hc0 his]
   refine go ?_
   refine Kr.one (.inr rfl) rfl ?_ ⟨rfl, { hs i with tv := .pointer none }, ⟨rfl, rfl⟩, rfl⟩
   rw [if_neg (by simp), show updG ws i { ws i with l := (ws i).l } = ws from updG_id ws i]
   exact entm
 | true =>
   have hch : t.ch = t.chunk := by unfold TakeS.ch; rw [his]; rfl
   have hc1 := hc his
   rw [hch]
   refine go ?_
   refine Cx.cno rfl (decide_eq_false (by omega)) ?_
   refine go ?_
   have g3 : (hnV (updG hs i { hs i with tv := .pointer none }) ws)[0 + 12 + (i : Int).toNat * 1]? = some (.slice (hs i).la (ws i).l.length (hs i).lc) := (hn_l hi).trans (by rw [updG_at])
   refine Cx.ordc rfl kr_ ?_
   refine ge ?_
   refine Ev.ldbH (b := hb) kr_ rfl rfl g3 ?_
   refine ge ?_
   iterate 2 (refine Ev.bring 2 rfl ?_; refine ge ?_)
   refine Ev.bsH (sz := 1) kr_ rfl rfl rfl (.dep rfl (.keep (fun v L' ⟨_, _, e⟩ => by subst e; exact (Has.blk (n := 1)).one (take_one g3)) .nil)) fun q2 => ?_
   refine ge ?_
   refine Ev.apH (ra := (hs i).la) kr_ rfl rfl rfl (Rd.row (b := q2) (E := 3) (cap := 1) rfl) rfl (by unfold maxLen; omega) (by omega) (Pres.deps kr_) fun la lc hc2 hk2 => ?_
   refine ge ?_
   refine Ev.stbH (b := hb) kr_ rfl rfl rfl rfl rfl (hn_blt (o := 12) hi (by omega)) ((congrArg (fun z => (hnV (updG hs i { hs i with tv := .pointer none }) ws).set (0 + 12 + (i : Int).toNat * 1) (.slice la z lc)) (show (ws i).l.length + 1 = ((ws i).l ++ [t.chunk]).length by simp)).trans (hn_sl hi)) (Pres.deps kr_) ?_
   refine ge ?_
   refine go ?_
   refine Sx.gyes rfl (by simp) ?_
   refine go ?_
   refine Kr.one (.inr rfl) rfl ?_ ⟨rfl, { hs i with tv := .pointer none, la := la, lc := lc }, ⟨rfl, rfl⟩, rfl⟩
   rw [updG_updG, updG_at]
   refine Ent.cons ?_
   show Ent (pt la (Row 3 1 ((ws i).l.length + 1) lc (ints (ws i).l ++ [.int .i64 t.chunk])) :: _) (pt la (Row 3 1 ((ws i).l ++ [t.chunk]).length lc (ints ((ws i).l ++ [t.chunk]))) :: G)
   rw [show (ws i).l.length + 1 = ((ws i).l ++ [t.chunk]).length by simp, show ints (ws i).l ++ [.int .i64 t.chunk] = ints ((ws i).l ++ [t.chunk]) by simp [ints]]
   exact Ent.cons entm
theorem refGiveHandB {b y1 c : Nat} {r : Option Addr} {p : PushS} {F1 F2 : St} (hb : p.done = false → p.l.length ≤ 1000000) [t1 : Take L (some ⟨b, 0, none⟩) (Blk 162 [.pointer (some ⟨y1, 0, none⟩), .slice r p.l.length c, .bool p.done]) F1] [t2 : Take L r (Row 3 1 p.l.length c (ints p.l)) F2] :
  Fx Tryz.prog 99 [.pointer (some ⟨b, 0, none⟩)] L (fun v L' => ∃ a c', v = .slice a (handP p).length c' ∧ L' = pt a (Row 3 1 (handP p).length c' (ints (handP p))) :: L) := by
 refine Fx.mk Tryz.func99 k99 nb_ ?_
 dsimp only [c99, kG, kS, kH, kM, kN, kF, kL, envOf, Nat.reduceAdd]
 refine Cx.rowkey (a := r) fun hxl hc1 _ hkr => ?_
 have hk2 : p.l.length = 0 ∨ ∃ g, r = some ⟨g, 0, none⟩ := hkr.imp (fun h => h.2.1) id
 cases hd : p.done with
 | true =>
   rw [hd] at t1
   rw [handP_done hd]
   refine go ?_
   exact Kr.one (.inr rfl) rfl (Ent.rownil _ _) ⟨none, 0, rfl, rfl⟩
 | false =>
   rw [hd] at t1
   rw [handP_on hd]
   have hb := hb hd
   refine go ?_
   refine Sx.apn rfl rfl (Rd.any (a := r) hxl hk2) (ones_ints _) (by simp [maxLen]; omega) (by omega) fun r2 c2 h4 => ?_
   refine go ?_
   exact Kr.one (.inr rfl) rfl (Ent.refl _) ⟨r2, c2, rfl, rfl⟩
theorem givenC {hb p q pb rp i : Nat} {k : Sk} {g : PushS} {hs : Nat → PH} {ws : Nat → Sw} {F1 F2 : St} (hi : i < 3) (hg : g.l.length ≤ 1000000) (e1 : (hs i).gv = .pointer (some ⟨p, 0, none⟩)) (e2 : (hs i).bv = .pointer (some ⟨q, 0, none⟩))
  [th : Take L (some ⟨hb, 0, none⟩) (Blk 41 (hnV hs ws)) F1] [t1 : Take F1 (some ⟨p, 0, none⟩) (GiveO pb k g) F2] [t2 : Take F2 (some ⟨q, 0, none⟩) (RGiveO rp g) G] :
  Fx Tryz.prog 73 [.pointer (some ⟨hb, 0, none⟩), .int .i64 i] L (fun v L' => v = .bool true ∧
   L' = pt (some ⟨hb, 0, none⟩) (Blk 41 (if g.done then hnV (updG hs i { hs i with gv := .pointer none }) ws else hnV hs ws)) :: pt (some ⟨p, 0, none⟩) (GiveO pb k g) :: pt (some ⟨q, 0, none⟩) (RGiveO rp g) :: G) := by
 have g1 : (hnV hs ws)[0 + 3 + (i : Int).toNat * 1]? = some (.pointer (some ⟨p, 0, none⟩)) := (hn_gv hi).trans (congrArg some e1)
 have g2 : (hnV hs ws)[0 + 9 + (i : Int).toNat * 1]? = some (.pointer (some ⟨q, 0, none⟩)) := (hn_bv hi).trans (congrArg some e2)
 refine Fx.mk Tryz.func73 k73 nb_ ?_
 dsimp only [c73, kG, kS, kH, kM, kN, kF, kL, envOf, Nat.reduceAdd]
 refine Cx.ent (Ent.trans (Ent.of th.out) (Ent.cons (Ent.trans (Ent.of t1.out) (Ent.cons (Ent.of t2.out))))) ?_
 refine Cx.openp (a := some ⟨q, 0, none⟩) rfl ?_
 rintro ⟨y1, r, c⟩
 simp only [rgiveL, List.cons_append, List.nil_append]
 refine go ?_
 refine Cx.ordc rfl kr_ ?_
 refine ge ?_
 refine Ev.ldbH (b := hb) kr_ rfl rfl g1 ?_
 refine ge ?_
 refine Ev.ldbH (b := hb) kr_ rfl rfl g2 ?_
 refine ge ?_
 refine go ?_
 refine Cx.ordc rfl kr_ ?_
 refine ge ?_
 refine Ev.cakH kr_ rfl rfl (giveDone (b := p) (pb := pb) (k := k) (p := g)) ?_
 refine ge ?_
 refine Ev.no 26 rfl (by cases g.done <;> rfl) ?_
 refine ge ?_
 iterate 1 (refine Ev.bring 1 rfl ?_; refine ge ?_)
 refine Ev.caH kr_ rfl rfl (giveHandS (b := p) (pb := pb) (k := k) (p := g) (fun _ => hg)) (Pres.deps kr_) ?_
 rintro v L' ⟨a1, c1, rfl, rfl⟩
 refine ge ?_
 refine Ev.caH kr_ rfl rfl (refGiveHandB (b := q) (y1 := y1) (r := r) (c := c) (p := g) (fun _ => hg)) (Pres.deps kr_) ?_
 rintro v L' ⟨a2, c2, rfl, rfl⟩
 refine ge ?_
 have hgh : (handP g).length ≤ 1000000 := by unfold handP; split; exact Nat.zero_le _; exact hg
 refine Ev.cakH kr_ rfl rfl (sameIntsS (xs := handP g) (ys := handP g) (a := a1) (b := a2) (by omega)) ?_
 rw [decide_eq_true (rfl : handP g = handP g)]
 refine ge ?_
 refine go ?_
 cases hd : g.done with
 | true =>
   refine go ?_
   refine gg ?_
   refine Sx.stb (b := hb) rfl rfl rfl rfl (hn_blt (o := 3) hi (by omega)) (hn_sgv hi) ?_
   refine go ?_
   refine Kr.one (.inr rfl) rfl ?_ ⟨rfl, rfl⟩
   refine Ent.cons (Ent.trans Ent.drop (Ent.trans Ent.drop (Ent.cons ?_)))
   exact RGiveO.close g rfl rfl hd.symm rfl
 | false =>
   refine go ?_
   refine Kr.one (.inr rfl) rfl ?_ ⟨rfl, rfl⟩
   refine Ent.trans Ent.drop (Ent.trans Ent.drop (Ent.trans (Ent.take (a := some ⟨hb, 0, none⟩)) (Ent.cons (Ent.cons ?_))))
   exact RGiveO.close g rfl rfl hd.symm rfl
end
end Go.Proofs.YtggnbdeokmdjbaaGreat


namespace Go.Proofs.YtggnbdeokmdjbaaGreat
open Go
attribute [local irreducible] Sx Cx Rx Fx Krg Ksq Kbl Klp Kr
theorem cas_n13 (m : Mm) (i o v : Nat) : (m.cas i o v).n = m.n + 1 := by unfold Mm.cas; split <;> rfl
theorem popStep_n13 (k : Sk) (m : Mm) (q : PopS) : (popStep k m q).2.n ≤ m.n + 1 := by
 unfold popStep
 split
 ·exact Nat.le_succ _
 split
 ·split <;> exact Nat.le_refl _
 ·split <;> exact Nat.le_refl _
 ·exact Nat.le_of_eq (cas_n13 _ _ _ _)
theorem pushStep_n13 (k : Sk) (m : Mm) (p : PushS) : (pushStep k m p).2.n ≤ m.n + 1 := by
 unfold pushStep
 split
 ·exact Nat.le_succ _
 split
 ·exact Nat.le_refl _
 split
 ·exact Nat.le_refl _
 split
 ·exact Nat.le_refl _
 ·exact Nat.le_of_eq (cas_n13 _ _ _ _)
theorem takeStep_n13 (k : Sk) (ba : Int) (m : Mm) (s : SupS) (t : TakeS) : (takeStep k ba m s t).1.n ≤ m.n + 1 := by
 unfold takeStep
 split
 ·exact Nat.le_succ _
 split
 ·dsimp only
  split <;> exact Nat.le_refl _
 ·dsimp only
  split <;> exact popStep_n13 _ _ _
theorem takeStep_none {k : Sk} {ba : Int} {m : Mm} {s : SupS} {t : TakeS} (h : t.ok) (hd : t.done = false) (h2 : (takeStep k ba m s t).2.2.is_ = false) : (takeStep k ba m s t).2.2.chunk = 0 := by
 obtain ⟨h0, h1⟩ := h.i hd
 revert h2
 unfold takeStep
 rw [hd]
 simp only [Bool.false_eq_true, if_false]
 split
 ·unfold keepT
  split
  ·rename_i e
   split at e
   ·cases e
   ·cases e; intro h; cases h
  ·intro _; exact h0
 ·split
  ·unfold popped
   split
   ·intro _; exact h0
   ·intro h; cases h
  ·intro _; exact h0
theorem SpI.mono {x : Cn} {m : Mm} {ws : Nat → Sw} {P : List Int} {T T' : Nat} (h : SpI x m ws P T) (hT : T ≤ T') : SpI x m ws P T' :=
 ⟨h.len, h.ok, h.pool, by have := h.tag; omega, h.one, h.rng, h.wk⟩
theorem SpOk.next {x : Cn} {T i : Nat} {m m' : Mm} {ws : Nat → Sw} {hs : Nat → PH} {w : Sw} {h' : PH} (h : SpOk x T m ws hs) (hi : i < 3) (hI : ∃ P, SpI x m' (updG ws i w) P (T + 1)) (hP : PHok w h') (hn : m'.n ≤ m.n + 1)
  (ht : (ws i).tag - 100 ≤ w.tag ∧ w.tag ≤ (ws i).tag + 100) (hk : w.k = 1 → w.t.ok) : SpOk x (T + 1) m' (updG ws i w) (updG hs i h') := by
 refine ⟨hI, fun j hj => ?_, by have := h.n; omega, fun j hj => ?_, fun j hj => ?_⟩
 ·by_cases e : j = i
  ·subst e; rw [updG_at, updG_at]; exact hP
  ·rw [updG_ne e, updG_ne e]; exact h.h j hj
 ·have := h.tag j hj
  by_cases e : j = i
  ·subst e; rw [updG_at]; omega
  ·rw [updG_ne e]; omega
 ·by_cases e : j = i
  ·subst e; rw [updG_at]; exact hk
  ·rw [updG_ne e]; exact h.tk j hj
theorem SpOk.same {x : Cn} {T : Nat} {m m' : Mm} {ws : Nat → Sw} {hs : Nat → PH} (h : SpOk x T m ws hs) (hI : ∃ P, SpI x m' ws P (T + 1)) (hn : m'.n ≤ m.n + 1) : SpOk x (T + 1) m' ws hs :=
 ⟨hI, h.h, by have := h.n; omega, fun j hj => by have := h.tag j hj; omega, h.tk⟩
section
variable {L F G : St}
abbrev spH (x : Cn) (n : Hs) (r r2 c c2 : Nat) (Q : Nat → Who) (m : Mm) (hv : List Value) : St :=
 [pt (some ⟨n.a, 0, none⟩) (Blk 51 (allS n r r2 c c2)), pt (some ⟨r, 0, none⟩) (Row 74 1 3 c (ptrs 3 fun i => (Q i).u)), pt (some ⟨r2, 0, none⟩) (Row 69 1 3 c2 (ptrs 3 fun i => (Q i).s)),
 pt (some ⟨n.mp, 0, none⟩) (MemO m), pt (some ⟨n.w, 0, none⟩) (RWO x n.rm n.rp n.rs n.re), pt (some ⟨n.rm, 0, none⟩) (RMemO m), pt (some ⟨n.rp, 0, none⟩) (RSkO n.rm x.pool), pt (some ⟨n.re, 0, none⟩) (REpO x n.rm),
 pt (some ⟨n.pb, 0, none⟩) (SkO n.mp x.pool), pt (some ⟨n.hb, 0, none⟩) (Blk 41 hv)]
abbrev spZ (n : Hs) (x : Cn) (Q : Nat → Who) (ws : Nat → Sw) (hs : Nat → PH) (i : Nat) (G : St) : St := many 3 (updS (fun i => spW n x (Q i) (ws i) (hs i)) i []) ++ G
theorem sp_in {x : Cn} {n : Hs} {r r2 c c2 : Nat} {Q : Nat → Who} {m : Mm} {ws : Nat → Sw} {hs : Nat → PH} {i : Nat} (hi : i < 3) :
  Ent (spF x n r r2 c c2 Q m ws hs G) (spW n x (Q i) (ws i) (hs i) ++ (spH x n r r2 c c2 Q m (hnV hs ws) ++ spZ n x Q ws hs i G)) :=
 Ent.ith (f := fun i => spW n x (Q i) (ws i) (hs i)) i hi
theorem sp_fin {x : Cn} {n : Hs} {r r2 c c2 : Nat} {Q : Nat → Who} {m : Mm} {ws : Nat → Sw} {hs : Nat → PH} {i : Nat} {w : Sw} {h : PH} (hi : i < 3) :
  Ent (spW n x (Q i) w h ++ (spH x n r r2 c c2 Q m (hnV (updG hs i h) (updG ws i w)) ++ spZ n x Q ws hs i G)) (spF x n r r2 c c2 Q m (updG ws i w) (updG hs i h) G) := by
 refine Ent.trans (Ent.deep (N := spW n x (Q i) w h) (M := spH x n r r2 c c2 Q m (hnV (updG hs i h) (updG ws i w)))) (Ent.app (X := spH x n r r2 c c2 Q m (hnV (updG hs i h) (updG ws i w))) ?_)
 exact sp_back hi fun G => Ent.refl _
theorem spW0 {n : Hs} {x : Cn} {q : Who} {w : Sw} {h : PH} (hk : w.k = 0) : spW n x q w h = [pt (some ⟨q.u, 0, none⟩) (SupO n.mp q.pb x w.s), pt (some ⟨q.s, 0, none⟩) (RSupO n.w w.s), pt (some ⟨q.pb, 0, none⟩) (SkO n.mp x.pool), pt h.la (Row 3 1 w.l.length h.lc (ints w.l))] := by
 unfold spW spR
 rw [if_neg (by omega), if_neg (by omega)]
theorem spW1 {n : Hs} {x : Cn} {q : Who} {w : Sw} {h : PH} (hk : w.k = 1) : spW n x q w h = [pt (some ⟨q.u, 0, none⟩) (SupO n.mp q.pb x w.s), pt (some ⟨q.s, 0, none⟩) (RSupO n.w w.s), pt (some ⟨q.pb, 0, none⟩) (SkO n.mp x.pool), pt h.la (Row 3 1 w.l.length h.lc (ints w.l)),
  pt (some ⟨h.p, 0, none⟩) (TakeO q.u q.pb x.pool w.t), pt (some ⟨h.q, 0, none⟩) (RTakeO q.s n.rp w.t)] := by
 unfold spW spR
 rw [if_pos hk]
theorem spW2 {n : Hs} {x : Cn} {q : Who} {w : Sw} {h : PH} (hk : w.k = 2) : spW n x q w h = [pt (some ⟨q.u, 0, none⟩) (SupO n.mp q.pb x w.s), pt (some ⟨q.s, 0, none⟩) (RSupO n.w w.s), pt (some ⟨q.pb, 0, none⟩) (SkO n.mp x.pool), pt h.la (Row 3 1 w.l.length h.lc (ints w.l)),
  pt (some ⟨h.p, 0, none⟩) (GiveO q.pb x.pool w.g), pt (some ⟨h.q, 0, none⟩) (RGiveO n.rp w.g)] := by
 unfold spW spR
 rw [if_neg (by omega), if_pos hk]
def GoP (x : Cn) (n : Hs) (r r2 c c2 : Nat) (Q : Nat → Who) (T : Nat) (G : St) (v : Value) (L' : St) : Prop := v = .bool true ∧ ∃ m' ws' hs', SpOk x (T + 1) m' ws' hs' ∧ Ent L' (spF x n r r2 c c2 Q m' ws' hs' G)
theorem refNow {rm re : Nat} {x : Cn} {m : Mm} {F1 : St} (hm : m.ok) (hl : 3 ≤ m.ws.length) [t1 : Take L (some ⟨re, 0, none⟩) (REpO x rm) F1] [t2 : Take F1 (some ⟨rm, 0, none⟩) (RMemO m) G] :
  Fx Tryz.prog 26 [.pointer (some ⟨re, 0, none⟩)] L (fun v L' => v = .int .i64 (cutE (m.at_ 2)) ∧ L' = pt (some ⟨re, 0, none⟩) (REpO x rm) :: pt (some ⟨rm, 0, none⟩) (RMemO m) :: G) := by
 refine Fx.mk Tryz.func26 k26 nb_ ?_
 dsimp only [c26, kG, kS, kH, kM, kN, kF, kL, envOf, Nat.reduceAdd]
 refine Cx.ent (Ent.trans (Ent.of t1.out) (Ent.cons (Ent.of t2.out))) ?_
 refine Cx.openp (a := some ⟨rm, 0, none⟩) rfl ?_
 rintro ⟨r, c⟩
 simp only [rmemL, List.cons_append, List.nil_append]
 refine Cx.liftp fun hmm => ?_
 refine Cx.rowkey (a := r) fun hx0 hn0 _ hk1 => ?_
 obtain ⟨rg, rfl⟩ := row_some (show 2 < m.ws.length by omega) (hk1.imp (fun h => ⟨h.1, h.2.1, h.2.2⟩) id)
 refine go ?_
 refine Cx.orde rfl kr_ ?_
 refine ge ?_
 refine Ev.ldrH (b := rg) kr_ rfl rfl (show (us m.ws)[0 + (2 : Int).toNat * 1]? = some (wd (m.at_ 2)) from us_get (Mm.get (by omega))) ?_
 refine ge ?_
 refine Ev.cakH kr_ rfl rfl (refCut (m.at_ 2) (Mm.at_lt hm 2)) ?_
 refine ge ?_
 refine go ?_
 refine Kr.one (.inr rfl) rfl ?_ ⟨rfl, rfl⟩
 refine Ent.trans (RMemO.close (a := some ⟨rm, 0, none⟩) (r := some ⟨rg, 0, none⟩) m hmm rfl rfl rfl) ?_
 exact entm
end
end Go.Proofs.YtggnbdeokmdjbaaGreat


namespace Go.Proofs.YtggnbdeokmdjbaaGreat
open Go
attribute [local irreducible] Sx Cx Rx Fx Krg Ksq Kbl Klp Kr
theorem hn_upd {hs : Nat → PH} {ws : Nat → Sw} {i : Nat} {w w2 : Sw} (h1 : w.l = w2.l) (h2 : w.tag = w2.tag) : hnV hs (updG ws i w) = hnV hs (updG ws i w2) :=
 hn_same fun j => by unfold updG; split; exact ⟨h1, h2⟩; exact ⟨rfl, rfl⟩
section
variable {L F G : St}
theorem SpOk.hl {x : Cn} {T : Nat} {m : Mm} {ws : Nat → Sw} {hs : Nat → PH} (h : SpOk x T m ws hs) : m.ws.length = x.len := by obtain ⟨P, hI⟩ := h.i; exact hI.len
theorem SpOk.bd {x : Cn} {T i : Nat} {m : Mm} {ws : Nat → Sw} {hs : Nat → PH} (h : SpOk x T m ws hs) (hi : i < 3) : (ws i).s.xs.length + (ws i).s.lm.size + (ws i).l.length ≤ x.c := by obtain ⟨P, hI⟩ := h.i; exact hI.bounds hi
set_option maxRecDepth 20000 in
set_option maxHeartbeats 4000000 in
theorem goesTake {x : Cn} {n : Hs} {r r2 c c2 : Nat} {Q : Nat → Who} {m : Mm} {ws : Nat → Sw} {hs : Nat → PH} {i v T : Nat} (hx : x.ok) (hc8 : x.c ≤ 4096) (hT : T ≤ 1000) (hi : i < 3) (h : SpOk x T m ws hs) (hk : (ws i).k = 1) :
  Fx Tryz.prog 9 [.pointer (some ⟨n.hb, 0, none⟩), .pointer (some ⟨n.a, 0, none⟩), .int .i64 i, .int .i64 v] (spF x n r r2 c c2 Q m ws hs G) (GoP x n r r2 c c2 Q T G) := by
 have hlen := h.hl
 have hxl := hx.len_le
 have hbd := h.bd hi
 obtain ⟨P, hI⟩ := h.i
 have hP := h.h i hi
 have htk := h.tk i hi hk
 obtain ⟨e1, e2⟩ := hP.t1 hk
 have e3 := hP.g0 (by omega)
 obtain ⟨t1, t2, t3, t4⟩ := (hI.wk i hi).tk hk
 obtain ⟨P', hI'⟩ := hI.take_go hx (by omega) hi hk
 have hst' := takeStep_ok (k := x.pool) (ba := x.ba) (m := m) (s := (ws i).s) htk
 have hnone := takeStep_none (k := x.pool) (ba := x.ba) (m := m) (s := (ws i).s) htk t1
 have hnn := takeStep_n13 x.pool x.ba m (ws i).s (ws i).t
 have g1 : (hnV hs ws)[0 + 0 + (i : Int).toNat * 1]? = some (.pointer (some ⟨(hs i).p, 0, none⟩)) := (hn_tv hi).trans (congrArg some e1)
 have g2 : (hnV hs ws)[0 + 6 + (i : Int).toNat * 1]? = some (.pointer (some ⟨(hs i).q, 0, none⟩)) := (hn_av hi).trans (congrArg some e2)
 refine Fx.mk Tryz.func9 k9 nb_ ?_
 dsimp only [c9, kG, kS, kH, kM, kN, kF, kL, envOf, Nat.reduceAdd]
 refine Cx.ent (sp_in hi) ?_
 rw [spW1 hk]
 simp only [List.cons_append, List.nil_append]
 refine go ?_
 refine gg ?_
 refine Sx.ldb (b := n.hb) rfl g1 ?_
 refine go ?_
 refine Cx.ordc rfl kr_ ?_
 refine ge ?_
 refine Ev.ldbH (b := n.hb) kr_ rfl rfl g1 ?_
 refine ge ?_
 refine Ev.ldbH (b := n.hb) kr_ rfl rfl g2 ?_
 refine ge ?_
 refine go ?_
 refine Sx.ca rfl (takeStepC (b := (hs i).p) (u := (Q i).u) (mp := n.mp) (pb := (Q i).pb) (x := x) (s := (ws i).s) (m := m) (t := (ws i).t) hx (by omega) htk (by omega)) ?_
 rintro v L' ⟨rfl, rfl⟩
 refine go ?_
 refine Sx.ca rfl (refTakeStep (b := (hs i).q) (s := (Q i).s) (w := n.w) (rm := n.rm) (rp := n.rp) (rs := n.rs) (re := n.re) (x := x) (S := (ws i).s) (m := m) (t := (ws i).t) hx (by omega) htk (fun _ h1 => by rcases t4 with h0 | h2; omega; exact h2.2.1) (by omega)) ?_
 rintro v L' ⟨rfl, rfl⟩
 rw [t1]
 obtain ⟨⟨m', s', t'⟩, hR⟩ : ∃ R, takeStep x.pool x.ba m (ws i).s (ws i).t = R := ⟨_, rfl⟩
 have hg : takeG x m (ws i) = if t'.done then { ws i with s := s', l := if t'.is_ then (ws i).l ++ [t'.chunk] else (ws i).l, k := 0, t := t' } else { ws i with s := s', t := t' } := by unfold takeG; rw [hR]
 rw [hg] at hI'
 rw [hR] at hI' hst' hnone hnn ⊢
 dsimp only at hI' hst' hnone hnn ⊢
 refine go ?_
 cases hd : t'.done with
 | false =>
   rw [hd] at hI'
   have hI' : SpI x m' (updG ws i { ws i with s := s', t := t' }) P' (T + 1) := hI'
   obtain ⟨u1, u2, u3, u4⟩ := (hI'.wk i hi).tk (by rw [updG_at]; exact hk)
   rw [updG_at] at u1 u2 u3 u4
   have hf : SpOk x (T + 1) m' (updG ws i { ws i with s := s', t := t' }) (updG hs i (hs i)) := h.next hi ⟨P', hI'⟩ ⟨fun _ => ⟨e1, e2⟩, fun h => absurd hk h, fun h2 => by have h2 : (ws i).k = 2 := h2; omega, fun _ => e3⟩ hnn (by constructor <;> show _ ≤ _ <;> dsimp only <;> omega) (fun _ => hst')
   have hcl : hnV (updG hs i (hs i)) (updG ws i { ws i with s := s', t := t' }) = hnV hs ws := by
    rw [updG_id]
    exact hn_same fun j => by unfold updG; split; rename_i e; subst e; exact ⟨rfl, rfl⟩; exact ⟨rfl, rfl⟩
   have hout : ∀ {A : St}, Ent A (spW n x (Q i) { ws i with s := s', t := t' } (hs i) ++ (spH x n r r2 c c2 Q m' (hnV hs ws) ++ spZ n x Q ws hs i G)) → Ent A (spF x n r r2 c c2 Q m' (updG ws i { ws i with s := s', t := t' }) (updG hs i (hs i)) G) := fun hA => Ent.trans hA (by have := sp_fin (x := x) (n := n) (r := r) (r2 := r2) (c := c) (c2 := c2) (Q := Q) (m := m') (ws := ws) (hs := hs) (w := { ws i with s := s', t := t' }) (h := hs i) (G := G) hi; rw [hcl] at this; exact this)
   by_cases h0 : t'.at_ = 0
   ·refine Sx.openp (a := some ⟨(hs i).q, 0, none⟩) (RTakeO.l hd h0) ?_
    rintro pp
    simp only [rtakeLL, List.cons_append, List.nil_append]
    refine Sx.ca rfl (takenOn (hb := n.hb) (p := (hs i).p) (q := (hs i).q) (s := (Q i).s) (n := 0) (u := (Q i).u) (pb := (Q i).pb) (k := x.pool) (t := t') (hs := hs) (ws := ws) (pp := pp) hi hst' hd e1 e2) ?_
    rintro v L' ⟨rfl, rfl⟩
    refine go ?_
    refine Kr.one (.inr rfl) rfl (Ent.refl _) ⟨rfl, m', _, _, hf, hout ?_⟩
    rw [spW1 (by exact hk)]
    simp only [List.cons_append, List.nil_append]
    refine Ent.trans (Ent.trans (Ent.take (a := some ⟨(hs i).q, 0, none⟩)) (RTakeO.closeL (rp := n.rp) t' hd h0 rfl)) ?_
    exact entm
   ·refine Sx.openp (a := some ⟨(hs i).q, 0, none⟩) (RTakeO.p hd h0) ?_
    rintro pp
    simp only [rtakePL, List.cons_append, List.nil_append]
    refine Sx.ca rfl (takenOn (hb := n.hb) (p := (hs i).p) (q := (hs i).q) (s := (Q i).s) (n := 1) (u := (Q i).u) (pb := (Q i).pb) (k := x.pool) (t := t') (hs := hs) (ws := ws) (pp := .pointer (some ⟨pp, 0, none⟩)) hi hst' hd e1 e2) ?_
    rintro v L' ⟨rfl, rfl⟩
    refine go ?_
    refine Kr.one (.inr rfl) rfl (Ent.refl _) ⟨rfl, m', _, _, hf, hout ?_⟩
    rw [spW1 (by exact hk)]
    simp only [List.cons_append, List.nil_append]
    refine Ent.trans (Ent.trans (Ent.trans (Ent.take (a := some ⟨(hs i).q, 0, none⟩)) (Ent.cons (Ent.take (a := some ⟨pp, 0, none⟩)))) (RTakeO.closeP (rp := n.rp) t' hd h0 rfl rfl)) ?_
    exact entm
 | true =>
   rw [hd] at hI'
   have hI' : SpI x m' (updG ws i { ws i with s := s', l := if t'.is_ then (ws i).l ++ [t'.chunk] else (ws i).l, k := 0, t := t' }) P' (T + 1) := hI'
   have hch : t'.is_ = true → 0 ≤ t'.chunk := fun his => (hI'.rngw hi t'.chunk (by rw [updG_at]; unfold Sw.own; dsimp only; rw [his]; simp)).1
   refine Sx.openp (a := some ⟨(hs i).q, 0, none⟩) (RTakeO.d hd) ?_
   rintro ⟨nn, pp⟩
   simp only [rtakeDL, List.cons_append, List.nil_append]
   refine Sx.ca rfl (takenDone (hb := n.hb) (p := (hs i).p) (q := (hs i).q) (s := (Q i).s) (n := nn) (u := (Q i).u) (pb := (Q i).pb) (k := x.pool) (t := t') (hs := hs) (ws := ws) (pp := pp) hi hst' hd e1 e2 hch hnone (by omega) rfl rfl) ?_
   rintro v L' ⟨rfl, h', ⟨f1, f2⟩, rfl⟩
   refine go ?_
   refine Kr.one (.inr rfl) rfl (Ent.refl _) ⟨rfl, m', _, _, h.next (h' := h') hi ⟨P', hI'⟩ ⟨(fun h => by cases h), fun _ => f1, (fun h => by cases h), fun _ => f2.trans e3⟩ hnn (by constructor <;> show _ ≤ _ <;> dsimp only <;> omega) (fun h => by cases h), Ent.trans ?_ (sp_fin hi)⟩
   rw [spW0 rfl, hn_upd (ws := ws) (w := { ws i with s := s', l := if t'.is_ then (ws i).l ++ [t'.chunk] else (ws i).l, k := 0, t := t' }) (w2 := { ws i with l := if t'.is_ then (ws i).l ++ [t'.chunk] else (ws i).l }) rfl rfl]
   simp only [List.cons_append, List.nil_append]
   exact entm
end
end Go.Proofs.YtggnbdeokmdjbaaGreat


namespace Go.Proofs.YtggnbdeokmdjbaaGreat
open Go
attribute [local irreducible] Sx Cx Rx Fx Krg Ksq Kbl Klp Kr
theorem pushStep_l13 (k : Sk) (m : Mm) (p : PushS) : (pushStep k m p).1.l = p.l := by
 unfold pushStep
 split
 ·rfl
 split
 ·rfl
 split
 ·rfl
 split
 ·rfl
 ·rfl
section
variable {L F G : St}
set_option maxRecDepth 20000 in
set_option maxHeartbeats 4000000 in
theorem goesGive {x : Cn} {n : Hs} {r r2 c c2 : Nat} {Q : Nat → Who} {m : Mm} {ws : Nat → Sw} {hs : Nat → PH} {i v T : Nat} (hx : x.ok) (hc8 : x.c ≤ 4096) (hT : T ≤ 1000) (hi : i < 3) (h : SpOk x T m ws hs) (hk : (ws i).k = 2) :
  Fx Tryz.prog 9 [.pointer (some ⟨n.hb, 0, none⟩), .pointer (some ⟨n.a, 0, none⟩), .int .i64 i, .int .i64 v] (spF x n r r2 c c2 Q m ws hs G) (GoP x n r r2 c c2 Q T G) := by
 have hlen := h.hl
 have hxl := hx.len_le
 obtain ⟨P, hI⟩ := h.i
 have hlw := hI.lenw hi
 have hP := h.h i hi
 obtain ⟨e1, e2⟩ := hP.g1 hk
 have e3 := hP.t0 (by omega)
 obtain ⟨t1, t2, t3⟩ := (hI.wk i hi).gv hk
 obtain ⟨P', hI'⟩ := hI.give_go hx (by omega) hi hk
 have hgl : (ws i).g.l.length ≤ 4096 := by
  unfold Sw.own at hlw
  rw [if_pos hk] at hlw
  simp only [List.length_append] at hlw
  omega
 have hnn := pushStep_n13 x.pool m (ws i).g
 have hpl := pushStep_l13 x.pool m (ws i).g
 have hkk := hx.pool (n := m.ws.length) (by omega) (by omega)
 have g0 : (hnV hs ws)[0 + 0 + (i : Int).toNat * 1]? = some (.pointer none) := (hn_tv hi).trans (congrArg some e3)
 have g1 : (hnV hs ws)[0 + 3 + (i : Int).toNat * 1]? = some (.pointer (some ⟨(hs i).p, 0, none⟩)) := (hn_gv hi).trans (congrArg some e1)
 have g2 : (hnV hs ws)[0 + 9 + (i : Int).toNat * 1]? = some (.pointer (some ⟨(hs i).q, 0, none⟩)) := (hn_bv hi).trans (congrArg some e2)
 refine Fx.mk Tryz.func9 k9 nb_ ?_
 dsimp only [c9, kG, kS, kH, kM, kN, kF, kL, envOf, Nat.reduceAdd]
 refine Cx.ent (sp_in hi) ?_
 rw [spW2 hk]
 simp only [List.cons_append, List.nil_append]
 refine go ?_
 refine gg ?_
 refine Sx.ldb (b := n.hb) rfl g0 ?_
 refine go ?_
 refine gg ?_
 refine Sx.ldb (b := n.hb) rfl g1 ?_
 refine go ?_
 refine Cx.ordc rfl kr_ ?_
 refine ge ?_
 refine Ev.ldbH (b := n.hb) kr_ rfl rfl g1 ?_
 refine ge ?_
 refine Ev.ldbH (b := n.hb) kr_ rfl rfl g2 ?_
 refine ge ?_
 refine go ?_
 refine Sx.ca rfl (giveStep (b := (hs i).p) (mp := n.mp) (pb := (Q i).pb) (k := x.pool) (m := m) (p := (ws i).g) hkk) ?_
 rintro v L' ⟨rfl, rfl⟩
 refine go ?_
 refine Sx.ca rfl (refGiveStep (b := (hs i).q) (rp := n.rp) (rm := n.rm) (k := x.pool) (m := m) (p := (ws i).g) hkk t1 (by omega)) ?_
 rintro v L' ⟨rfl, rfl⟩
 rw [t2]
 obtain ⟨⟨g', m'⟩, hR⟩ : ∃ R, pushStep x.pool m (ws i).g = R := ⟨_, rfl⟩
 have hg : giveG x m (ws i) = { ws i with k := if g'.done then 0 else 2, g := g' } := by unfold giveG; rw [hR]
 rw [hg] at hI'
 rw [hR] at hI' hnn hpl ⊢
 dsimp only at hI' hnn hpl ⊢
 refine go ?_
 refine Sx.ca rfl (givenC (hb := n.hb) (p := (hs i).p) (q := (hs i).q) (pb := (Q i).pb) (rp := n.rp) (k := x.pool) (g := g') (hs := hs) (ws := ws) hi (by rw [hpl]; omega) e1 e2) ?_
 rintro v L' ⟨rfl, rfl⟩
 cases hd : g'.done with
 | false =>
   rw [hd] at hI'
   have hI' : SpI x m' (updG ws i { ws i with k := 2, g := g' }) P' (T + 1) := hI'
   refine go ?_
   refine Kr.one (.inr rfl) rfl (Ent.refl _) ⟨rfl, m', _, _, h.next (h' := hs i) hi ⟨P', hI'⟩ ⟨(fun h => by cases h), fun _ => e3, fun _ => ⟨e1, e2⟩, fun h => absurd rfl h⟩ hnn (by constructor <;> show _ ≤ _ <;> dsimp only <;> omega) (fun h => by cases h), Ent.trans ?_ (sp_fin hi)⟩
   rw [spW2 rfl, updG_id hs i, hn_upd (ws := ws) (w := { ws i with k := 2, g := g' }) (w2 := ws i) rfl rfl, updG_id ws i]
   simp only [List.cons_append, List.nil_append]
   exact entm
 | true =>
   rw [hd] at hI'
   have hI' : SpI x m' (updG ws i { ws i with k := 0, g := g' }) P' (T + 1) := hI'
   refine go ?_
   refine Kr.one (.inr rfl) rfl (Ent.refl _) ⟨rfl, m', _, _, h.next (h' := { hs i with gv := .pointer none }) hi ⟨P', hI'⟩ ⟨(fun h => by cases h), fun _ => e3, (fun h => by cases h), fun _ => rfl⟩ hnn (by constructor <;> show _ ≤ _ <;> dsimp only <;> omega) (fun h => by cases h), Ent.trans ?_ (sp_fin hi)⟩
   rw [spW0 rfl, hn_upd (ws := ws) (w := { ws i with k := 0, g := g' }) (w2 := ws i) rfl rfl, updG_id ws i]
   simp only [List.cons_append, List.nil_append]
   exact entm
end
end Go.Proofs.YtggnbdeokmdjbaaGreat


namespace Go.Proofs.YtggnbdeokmdjbaaGreat
open Go
attribute [local irreducible] Sx Cx Rx Fx Krg Ksq Kbl Klp Kr
theorem hn_updh {hs : Nat → PH} {ws : Nat → Sw} {i : Nat} {h h2 : PH} (h1 : h.tv = h2.tv) (h3 : h.gv = h2.gv) (h4 : h.av = h2.av) (h5 : h.bv = h2.bv) (h6 : h.la = h2.la) (h7 : h.lc = h2.lc) : hnV (updG hs i h) ws = hnV (updG hs i h2) ws := by
 obtain ⟨a1, a2, a3, a4, a5, a6, a7, a8⟩ := h
 obtain ⟨b1, b2, b3, b4, b5, b6, b7, b8⟩ := h2
 dsimp only at h1 h3 h4 h5 h6 h7
 subst h1 h3 h4 h5 h6 h7
 unfold hnV updG
 rcases (show i = 0 ∨ i = 1 ∨ i = 2 ∨ (i ≠ 0 ∧ i ≠ 1 ∧ i ≠ 2) by omega) with rfl | rfl | rfl | ⟨z0, z1, z2⟩
 ·rfl
 ·rfl
 ·rfl
 ·rw [if_neg (fun e => z0 e.symm), if_neg (fun e => z1 e.symm), if_neg (fun e => z2 e.symm), if_neg (fun e => z0 e.symm), if_neg (fun e => z1 e.symm), if_neg (fun e => z2 e.symm)]
theorem takeInit_is {ba : Int} {s : SupS} (h : (takeInit ba s).2.done = true) : (takeInit ba s).2.is_ = true := by
 revert h
 unfold takeInit keepT
 split
 ·rename_i e
  split at e
  ·cases e
  ·cases e; intro _; rfl
 ·split <;> (intro h; cases h)
section
variable {L F G : St}
set_option maxRecDepth 20000 in
set_option maxHeartbeats 4000000 in
theorem goesNew {x : Cn} {n : Hs} {r r2 c c2 : Nat} {Q : Nat → Who} {m : Mm} {ws : Nat → Sw} {hs : Nat → PH} {i v T : Nat} (hx : x.ok) (hc8 : x.c ≤ 4096) (hT : T ≤ 1000) (hi : i < 3) (h : SpOk x T m ws hs) (hk : (ws i).k = 0) (hv : v % 7 ≤ 1) :
  Fx Tryz.prog 9 [.pointer (some ⟨n.hb, 0, none⟩), .pointer (some ⟨n.a, 0, none⟩), .int .i64 i, .int .i64 v] (spF x n r r2 c c2 Q m ws hs G) (GoP x n r r2 c c2 Q T G) := by
 have hlen := h.hl
 have hxl := hx.len_le
 have hbd := h.bd hi
 obtain ⟨P, hI⟩ := h.i
 have hP := h.h i hi
 have e3 := hP.t0 (by omega)
 have e4 := hP.g0 (by omega)
 have hI' := hI.take_new hx hi hk
 have hst' := takeInit_ok (ba := x.ba) (s := (ws i).s)
 have hin := takeInit_is (ba := x.ba) (s := (ws i).s)
 have g0 : (hnV hs ws)[0 + 0 + (i : Int).toNat * 1]? = some (.pointer none) := (hn_tv hi).trans (congrArg some e3)
 have g1 : (hnV hs ws)[0 + 3 + (i : Int).toNat * 1]? = some (.pointer none) := (hn_gv hi).trans (congrArg some e4)
 have hpu : (ptrs 3 fun i => (Q i).u)[0 + (i : Int).toNat * 1]? = some (.pointer (some ⟨(Q i).u, 0, none⟩)) := by
  rw [show 0 + (i : Int).toNat * 1 = i by omega]; exact ptrs_get hi
 have hps : (ptrs 3 fun i => (Q i).s)[0 + (i : Int).toNat * 1]? = some (.pointer (some ⟨(Q i).s, 0, none⟩)) := by
  rw [show 0 + (i : Int).toNat * 1 = i by omega]; exact ptrs_get hi
 obtain ⟨d, hd7, hd1⟩ : ∃ d : Nat, Int.tmod (v : Int) 7 = d ∧ d ≤ 1 := ⟨v % 7, rfl, hv⟩
 refine Fx.mk Tryz.func9 k9 nb_ ?_
 dsimp only [c9, kG, kS, kH, kM, kN, kF, kL, envOf, Nat.reduceAdd]
 refine Cx.ent (sp_in hi) ?_
 rw [spW0 hk]
 simp only [List.cons_append, List.nil_append]
 refine go ?_
 refine gg ?_
 refine Sx.ldb (b := n.hb) rfl g0 ?_
 refine go ?_
 refine gg ?_
 refine Sx.ldb (b := n.hb) rfl g1 ?_
 refine go ?_
 refine Cx.ordc rfl kr_ ?_
 refine ge ?_
 refine Ev.ldrH (b := r) kr_ rfl rfl hpu ?_
 refine ge ?_
 refine Ev.ldrH (b := r2) kr_ rfl rfl hps ?_
 refine ge ?_
 refine go ?_
 refine Sx.pv rfl (by omega) ?_
 rw [hd7]
 have hdd : d = 0 ∨ d = 1 := by omega
 obtain ⟨⟨s', t'⟩, hR⟩ : ∃ R, takeInit x.ba (ws i).s = R := ⟨_, rfl⟩
 have hg : takeN x (ws i) = if t'.done then { ws i with s := s', l := (ws i).l ++ [t'.chunk], k := 0, t := t' } else { ws i with s := s', k := 1, t := t' } := by unfold takeN; rw [hR]
 have c1 := fun (L0 : St) (F0 : St) (t0 : Take L0 (some ⟨(Q i).u, 0, none⟩) (SupO n.mp (Q i).pb x (ws i).s) F0) => supTake (u := (Q i).u) (mp := n.mp) (pb := (Q i).pb) (x := x) (s := (ws i).s) (L := L0) hx (by omega) (t := t0)
 have c2' := fun (L0 F1 F2 G0 : St) (t2 : Take L0 (some ⟨(Q i).s, 0, none⟩) (RSupO n.w (ws i).s) F1) (t3 : Take F1 (some ⟨n.w, 0, none⟩) (RWO x n.rm n.rp n.rs n.re) F2) (t4 : Take F2 (some ⟨n.rp, 0, none⟩) (RSkO n.rm x.pool) G0) => refTakeNew (s := (Q i).s) (w := n.w) (rm := n.rm) (rp := n.rp) (rs := n.rs) (re := n.re) (x := x) (S := (ws i).s) (L := L0) hx (by omega) (t2 := t2) (t3 := t3) (t4 := t4)
 rw [hg] at hI'
 rw [hR] at hst' hin c1 c2'
 dsimp only at hI' hst' hin c1 c2'
 have e5 : ∀ b b2 : Nat, hnV (updG (updG hs i { hs i with tv := .pointer (some ⟨b, 0, none⟩) }) i { (updG hs i { hs i with tv := .pointer (some ⟨b, 0, none⟩) }) i with av := .pointer (some ⟨b2, 0, none⟩) }) ws = hnV (updG hs i { hs i with tv := .pointer (some ⟨b, 0, none⟩), av := .pointer (some ⟨b2, 0, none⟩), p := b, q := b2 }) ws := fun b b2 => by
  rw [updG_updG, updG_at]; exact hn_updh rfl rfl rfl rfl rfl rfl
 rcases hdd with rfl | rfl
 all_goals
  refine go ?_
  refine Cx.ordc rfl kr_ ?_
  refine ge ?_
  refine Ev.bring 1 rfl ?_
  refine ge ?_
  refine Ev.bring 2 rfl ?_
  refine ge ?_
  refine Ev.bring 2 rfl ?_
  refine ge ?_
  refine Ev.bring 4 rfl ?_
  refine ge ?_
  refine Ev.bring 4 rfl ?_
  refine ge ?_
  refine Ev.caH kr_ rfl rfl (c1 _ _ inferInstance) (Pres.deps kr_) ?_
  rintro v' L' ⟨b, rfl, rfl⟩
  refine ge ?_
  refine Ev.caH kr_ rfl rfl (c2' _ _ _ _ inferInstance inferInstance inferInstance) (Pres.deps kr_) ?_
  rintro v' L' ⟨b2, rfl, rfl⟩
  refine ge ?_
  refine Ev.stbH (b := n.hb) kr_ rfl rfl rfl rfl rfl (hn_blt (o := 0) hi (by omega)) (hn_stv hi) (Pres.deps kr_) ?_
  refine ge ?_
  refine Ev.stbH (b := n.hb) kr_ rfl rfl rfl rfl rfl (hn_blt (o := 6) hi (by omega)) ((hn_sav (hs := updG hs i { hs i with tv := .pointer (some ⟨b, 0, none⟩) }) hi).trans (e5 b b2)) (Pres.deps kr_) ?_
  refine ge ?_
  obtain ⟨h1, hh1⟩ : ∃ h1 : PH, h1 = { hs i with tv := .pointer (some ⟨b, 0, none⟩), av := .pointer (some ⟨b2, 0, none⟩), p := b, q := b2 } := ⟨_, rfl⟩
  have f1 : h1.tv = .pointer (some ⟨b, 0, none⟩) := by rw [hh1]
  have f2 : h1.av = .pointer (some ⟨b2, 0, none⟩) := by rw [hh1]
  have f3 : h1.gv = .pointer none := by rw [hh1]; exact e4
  have f4 : h1.la = (hs i).la := by rw [hh1]
  have f5 : h1.lc = (hs i).lc := by rw [hh1]
  have f6 : h1.p = b := by rw [hh1]
  have f7 : h1.q = b2 := by rw [hh1]
  rw [← hh1]
  clear hh1
  have g2 : (hnV (updG hs i h1) ws)[0 + 0 + (i : Int).toNat * 1]? = some (.pointer (some ⟨b, 0, none⟩)) := (hn_tv hi).trans (by rw [updG_at, f1])
  refine go ?_
  refine gg ?_
  refine Sx.ldb (b := n.hb) rfl g2 ?_
  refine go ?_
  have q1 : (updG hs i h1 i).tv = .pointer (some ⟨b, 0, none⟩) := by rw [updG_at, f1]
  have q2 : (updG hs i h1 i).av = .pointer (some ⟨b2, 0, none⟩) := by rw [updG_at, f2]
  have q3 : (updG hs i h1 i).la = (hs i).la := by rw [updG_at, f4]
  have q4 : (updG hs i h1 i).lc = (hs i).lc := by rw [updG_at, f5]
  have q5 : (updG hs i h1 i).gv = .pointer none := by rw [updG_at, f3]
  cases hd : t'.done with
  | false =>
    rw [hd] at hI'
    have hI' : SpI x m (updG ws i { ws i with s := s', k := 1, t := t' }) P (T + 1) := hI'
    have hf : SpOk x (T + 1) m (updG ws i { ws i with s := s', k := 1, t := t' }) (updG hs i h1) := h.next hi ⟨P, hI'⟩ ⟨fun _ => ⟨by rw [f1, f6], by rw [f2, f7]⟩, fun h => absurd rfl h, (fun h => by cases h), fun _ => f3⟩ (Nat.le_succ _) (by constructor <;> show _ ≤ _ <;> dsimp only <;> omega) (fun _ => hst')
    have hcl : hnV (updG hs i h1) (updG ws i { ws i with s := s', k := 1, t := t' }) = hnV (updG hs i h1) ws := by
     rw [hn_upd (ws := ws) (w := { ws i with s := s', k := 1, t := t' }) (w2 := ws i) rfl rfl, updG_id]
    by_cases h0 : t'.at_ = 0
    ·refine Sx.openp (a := some ⟨b2, 0, none⟩) (RTakeO.l hd h0) ?_
     rintro pp
     simp only [rtakeLL, List.cons_append, List.nil_append]
     refine Sx.ca rfl (takenOn (hb := n.hb) (p := b) (q := b2) (s := (Q i).s) (n := 0) (u := (Q i).u) (pb := (Q i).pb) (k := x.pool) (t := t') (hs := updG hs i h1) (ws := ws) (pp := pp) hi hst' hd q1 q2) ?_
     rintro v' L' ⟨rfl, rfl⟩
     refine go ?_
     refine Kr.one (.inr rfl) rfl (Ent.refl _) ⟨rfl, m, _, _, hf, Ent.trans ?_ (sp_fin hi)⟩
     rw [spW1 rfl, hcl, f4, f5, f6, f7]
     simp only [List.cons_append, List.nil_append]
     refine Ent.trans (Ent.trans (Ent.take (a := some ⟨b2, 0, none⟩)) (RTakeO.closeL (rp := n.rp) t' hd h0 rfl)) ?_
     exact entm
    ·refine Sx.openp (a := some ⟨b2, 0, none⟩) (RTakeO.p hd h0) ?_
     rintro pp
     simp only [rtakePL, List.cons_append, List.nil_append]
     refine Sx.ca rfl (takenOn (hb := n.hb) (p := b) (q := b2) (s := (Q i).s) (n := 1) (u := (Q i).u) (pb := (Q i).pb) (k := x.pool) (t := t') (hs := updG hs i h1) (ws := ws) (pp := .pointer (some ⟨pp, 0, none⟩)) hi hst' hd q1 q2) ?_
     rintro v' L' ⟨rfl, rfl⟩
     refine go ?_
     refine Kr.one (.inr rfl) rfl (Ent.refl _) ⟨rfl, m, _, _, hf, Ent.trans ?_ (sp_fin hi)⟩
     rw [spW1 rfl, hcl, f4, f5, f6, f7]
     simp only [List.cons_append, List.nil_append]
     refine Ent.trans (Ent.trans (Ent.trans (Ent.take (a := some ⟨b2, 0, none⟩)) (Ent.cons (Ent.take (a := some ⟨pp, 0, none⟩)))) (RTakeO.closeP (rp := n.rp) t' hd h0 rfl rfl)) ?_
     exact entm
  | true =>
    rw [hd] at hI'
    have his := hin hd
    have hI' : SpI x m (updG ws i { ws i with s := s', l := (ws i).l ++ [t'.chunk], k := 0, t := t' }) P (T + 1) := hI'
    have hch : 0 ≤ t'.chunk := (hI'.rngw hi t'.chunk (by rw [updG_at]; unfold Sw.own; dsimp only; simp)).1
    refine Sx.openp (a := some ⟨b2, 0, none⟩) (RTakeO.d hd) ?_
    rintro ⟨nn, pp⟩
    simp only [rtakeDL, List.cons_append, List.nil_append]
    refine Sx.ca rfl (takenDone (hb := n.hb) (p := b) (q := b2) (s := (Q i).s) (n := nn) (u := (Q i).u) (pb := (Q i).pb) (k := x.pool) (t := t') (hs := updG hs i h1) (ws := ws) (pp := pp) hi hst' hd q1 q2 (fun _ => hch) (fun h => by rw [his] at h; cases h) (by omega) q3 q4) ?_
    rintro v' L' ⟨rfl, h', ⟨u1, u2⟩, rfl⟩
    rw [updG_updG, his]
    refine go ?_
    refine Kr.one (.inr rfl) rfl (Ent.refl _) ⟨rfl, m, _, _, h.next (h' := h') hi ⟨P, hI'⟩ ⟨(fun h => by cases h), fun _ => u1, (fun h => by cases h), fun _ => u2.trans q5⟩ (Nat.le_succ _) (by constructor <;> show _ ≤ _ <;> dsimp only <;> omega) (fun h => by cases h), Ent.trans ?_ (sp_fin hi)⟩
    rw [spW0 rfl, hn_upd (ws := ws) (w := { ws i with s := s', l := (ws i).l ++ [t'.chunk], k := 0, t := t' }) (w2 := { ws i with l := (ws i).l ++ [t'.chunk] }) rfl rfl]
    simp only [List.cons_append, List.nil_append]
    exact entm
end
end Go.Proofs.YtggnbdeokmdjbaaGreat


namespace Go.Proofs.YtggnbdeokmdjbaaGreat
open Go
attribute [local irreducible] Sx Cx Rx Fx Krg Ksq Kbl Klp Kr
section
variable {L F G : St}
set_option maxRecDepth 20000 in
set_option maxHeartbeats 4000000 in
theorem goesSpill {x : Cn} {n : Hs} {r r2 c c2 : Nat} {Q : Nat → Who} {m : Mm} {ws : Nat → Sw} {hs : Nat → PH} {i v T : Nat} (hx : x.ok) (hc8 : x.c ≤ 4096) (hT : T ≤ 1000) (hi : i < 3) (h : SpOk x T m ws hs) (hk : (ws i).k = 0) (hv : v % 7 = 2) :
  Fx Tryz.prog 9 [.pointer (some ⟨n.hb, 0, none⟩), .pointer (some ⟨n.a, 0, none⟩), .int .i64 i, .int .i64 v] (spF x n r r2 c c2 Q m ws hs G) (GoP x n r r2 c c2 Q T G) := by
 have hlen := h.hl
 have hxl := hx.len_le
 have hbd := h.bd hi
 obtain ⟨P, hI⟩ := h.i
 have hP := h.h i hi
 have e3 := hP.t0 (by omega)
 have e4 := hP.g0 (by omega)
 have hm0 := (hI.wk i hi).m0
 have hm2 := (hI.wk i hi).m2
 obtain ⟨q, hq⟩ : ∃ q : Nat, overK (ws i).s.most (ws i).s.xs = q := ⟨_, rfl⟩
 have hI' := hI.give_new hi hk q
 have hval := hI.give_valid hi q
 have g0 : (hnV hs ws)[0 + 0 + (i : Int).toNat * 1]? = some (.pointer none) := (hn_tv hi).trans (congrArg some e3)
 have g1 : (hnV hs ws)[0 + 3 + (i : Int).toNat * 1]? = some (.pointer none) := (hn_gv hi).trans (congrArg some e4)
 have hpu : (ptrs 3 fun i => (Q i).u)[0 + (i : Int).toNat * 1]? = some (.pointer (some ⟨(Q i).u, 0, none⟩)) := by
  rw [show 0 + (i : Int).toNat * 1 = i by omega]; exact ptrs_get hi
 have hps : (ptrs 3 fun i => (Q i).s)[0 + (i : Int).toNat * 1]? = some (.pointer (some ⟨(Q i).s, 0, none⟩)) := by
  rw [show 0 + (i : Int).toNat * 1 = i by omega]; exact ptrs_get hi
 have hd7 : Int.tmod (v : Int) 7 = ((2 : Nat) : Int) := by rw [← hv]; rfl
 refine Fx.mk Tryz.func9 k9 nb_ ?_
 dsimp only [c9, kG, kS, kH, kM, kN, kF, kL, envOf, Nat.reduceAdd]
 refine Cx.ent (sp_in hi) ?_
 rw [spW0 hk]
 simp only [List.cons_append, List.nil_append]
 refine go ?_
 refine gg ?_
 refine Sx.ldb (b := n.hb) rfl g0 ?_
 refine go ?_
 refine gg ?_
 refine Sx.ldb (b := n.hb) rfl g1 ?_
 refine go ?_
 refine Cx.ordc rfl kr_ ?_
 refine ge ?_
 refine Ev.ldrH (b := r) kr_ rfl rfl hpu ?_
 refine ge ?_
 refine Ev.ldrH (b := r2) kr_ rfl rfl hps ?_
 refine ge ?_
 refine go ?_
 refine Sx.pv rfl (by omega) ?_
 rw [hd7]
 have c1 := fun (L0 F0 F3 : St) (t0 : Take L0 (some ⟨(Q i).u, 0, none⟩) (SupO n.mp (Q i).pb x (ws i).s) F0) (t3 : Take F0 (some ⟨(Q i).pb, 0, none⟩) (SkO n.mp x.pool) F3) => supSpill (u := (Q i).u) (mp := n.mp) (pb := (Q i).pb) (x := x) (s := (ws i).s) (L := L0) (F := F0) (F3 := F3) (by omega) hm0 hm2 (t := t0) (tb := t3)
 have c2' := fun (L0 F1 F2 G0 : St) (t2 : Take L0 (some ⟨(Q i).s, 0, none⟩) (RSupO n.w (ws i).s) F1) (t3 : Take F1 (some ⟨n.w, 0, none⟩) (RWO x n.rm n.rp n.rs n.re) F2) (t4 : Take F2 (some ⟨n.rp, 0, none⟩) (RSkO n.rm x.pool) G0) => refSpill (s := (Q i).s) (w := n.w) (rm := n.rm) (rp := n.rp) (rs := n.rs) (re := n.re) (x := x) (S := (ws i).s) (L := L0) (by omega) hm0 hm2 (t2 := t2) (t3 := t3) (t4 := t4)
 rw [hq] at c1 c2'
 rw [hval] at c1
 have hg : giveN x q (ws i) = if (PushS.init ((ws i).s.xs.take q)).done then { ws i with s := { (ws i).s with xs := (ws i).s.xs.drop q }, k := 0, g := PushS.init ((ws i).s.xs.take q) } else { ws i with s := { (ws i).s with xs := (ws i).s.xs.drop q }, k := 2, g := PushS.init ((ws i).s.xs.take q) } := by unfold giveN; rw [hval]
 rw [hg] at hI'
 have hgl : (PushS.init ((ws i).s.xs.take q)).l.length ≤ 4096 := by
  show ((ws i).s.xs.take q).length ≤ 4096
  rw [List.length_take]; omega
 obtain ⟨g', hgg⟩ : ∃ g', PushS.init ((ws i).s.xs.take q) = g' := ⟨_, rfl⟩
 obtain ⟨s', hss⟩ : ∃ s', (⟨(ws i).s.most, (ws i).s.xs.drop q, (ws i).s.lm⟩ : SupS) = s' := ⟨_, rfl⟩
 rw [hgg, hss] at hI' c1 c2'
 rw [hgg] at hgl
 clear hgg hss hg hval hq
 have e5 : ∀ b b2 : Nat, hnV (updG (updG hs i { hs i with gv := .pointer (some ⟨b, 0, none⟩) }) i { (updG hs i { hs i with gv := .pointer (some ⟨b, 0, none⟩) }) i with bv := .pointer (some ⟨b2, 0, none⟩) }) ws = hnV (updG hs i { hs i with gv := .pointer (some ⟨b, 0, none⟩), bv := .pointer (some ⟨b2, 0, none⟩), p := b, q := b2 }) ws := fun b b2 => by
  rw [updG_updG, updG_at]; exact hn_updh rfl rfl rfl rfl rfl rfl
 refine go ?_
 refine Cx.ordc rfl kr_ ?_
 refine ge ?_
 refine Ev.bring 1 rfl ?_
 refine ge ?_
 refine Ev.bring 2 rfl ?_
 refine ge ?_
 refine Ev.bring 2 rfl ?_
 refine ge ?_
 refine Ev.bring 4 rfl ?_
 refine ge ?_
 refine Ev.bring 4 rfl ?_
 refine ge ?_
 refine Ev.caH kr_ rfl rfl (c1 _ _ _ inferInstance inferInstance) (Pres.deps kr_) ?_
 rintro v' L' ⟨b, rfl, rfl⟩
 refine ge ?_
 refine Ev.caH kr_ rfl rfl (c2' _ _ _ _ inferInstance inferInstance inferInstance) (Pres.deps kr_) ?_
 rintro v' L' ⟨b2, rfl, rfl⟩
 refine ge ?_
 refine Ev.stbH (b := n.hb) kr_ rfl rfl rfl rfl rfl (hn_blt (o := 3) hi (by omega)) (hn_sgv hi) (Pres.deps kr_) ?_
 refine ge ?_
 refine Ev.stbH (b := n.hb) kr_ rfl rfl rfl rfl rfl (hn_blt (o := 9) hi (by omega)) ((hn_sbv (hs := updG hs i { hs i with gv := .pointer (some ⟨b, 0, none⟩) }) hi).trans (e5 b b2)) (Pres.deps kr_) ?_
 refine ge ?_
 obtain ⟨h1, hh1⟩ : ∃ h1 : PH, h1 = { hs i with gv := .pointer (some ⟨b, 0, none⟩), bv := .pointer (some ⟨b2, 0, none⟩), p := b, q := b2 } := ⟨_, rfl⟩
 have f1 : h1.gv = .pointer (some ⟨b, 0, none⟩) := by rw [hh1]
 have f2 : h1.bv = .pointer (some ⟨b2, 0, none⟩) := by rw [hh1]
 have f3 : h1.tv = .pointer none := by rw [hh1]; exact e3
 have f4 : h1.la = (hs i).la := by rw [hh1]
 have f5 : h1.lc = (hs i).lc := by rw [hh1]
 have f6 : h1.p = b := by rw [hh1]
 have f7 : h1.q = b2 := by rw [hh1]
 rw [← hh1]
 clear hh1
 have g2 : (hnV (updG hs i h1) ws)[0 + 3 + (i : Int).toNat * 1]? = some (.pointer (some ⟨b, 0, none⟩)) := (hn_gv hi).trans (by rw [updG_at, f1])
 refine go ?_
 refine gg ?_
 refine Sx.ldb (b := n.hb) rfl g2 ?_
 refine go ?_
 have q1 : (updG hs i h1 i).gv = .pointer (some ⟨b, 0, none⟩) := by rw [updG_at, f1]
 have q2 : (updG hs i h1 i).bv = .pointer (some ⟨b2, 0, none⟩) := by rw [updG_at, f2]
 refine Sx.ca rfl (givenC (hb := n.hb) (p := b) (q := b2) (pb := (Q i).pb) (rp := n.rp) (k := x.pool) (g := g') (hs := updG hs i h1) (ws := ws) hi (by omega) q1 q2) ?_
 rintro v' L' ⟨rfl, rfl⟩
 cases hd : g'.done with
 | false =>
   rw [hd] at hI'
   have hI' : SpI x m (updG ws i { ws i with s := s', k := 2, g := g' }) P (T + 1) := hI'
   refine go ?_
   refine Kr.one (.inr rfl) rfl (Ent.refl _) ⟨rfl, m, _, _, h.next (h' := h1) hi ⟨P, hI'⟩ ⟨(fun h => by cases h), fun _ => f3, fun _ => ⟨by rw [f1, f6], by rw [f2, f7]⟩, fun h => absurd rfl h⟩ (Nat.le_succ _) (by constructor <;> show _ ≤ _ <;> dsimp only <;> omega) (fun h => by cases h), Ent.trans ?_ (sp_fin hi)⟩
   rw [spW2 rfl, hn_upd (ws := ws) (w := { ws i with s := s', k := 2, g := g' }) (w2 := ws i) rfl rfl, updG_id ws i, f4, f5, f6, f7]
   simp only [List.cons_append, List.nil_append]
   exact entm
 | true =>
   rw [hd] at hI'
   have hI' : SpI x m (updG ws i { ws i with s := s', k := 0, g := g' }) P (T + 1) := hI'
   refine go ?_
   refine Kr.one (.inr rfl) rfl (Ent.refl _) ⟨rfl, m, _, _, h.next (h' := { h1 with gv := .pointer none }) hi ⟨P, hI'⟩ ⟨(fun h => by cases h), fun _ => f3, (fun h => by cases h), fun _ => rfl⟩ (Nat.le_succ _) (by constructor <;> show _ ≤ _ <;> dsimp only <;> omega) (fun h => by cases h), Ent.trans ?_ (sp_fin hi)⟩
   rw [spW0 rfl, hn_upd (ws := ws) (w := { ws i with s := s', k := 0, g := g' }) (w2 := ws i) rfl rfl, updG_id ws i, updG_updG, updG_at]
   dsimp only
   rw [f4, f5]
   simp only [List.cons_append, List.nil_append]
   exact entm
set_option maxRecDepth 20000 in
set_option maxHeartbeats 4000000 in
theorem goesAll {x : Cn} {n : Hs} {r r2 c c2 : Nat} {Q : Nat → Who} {m : Mm} {ws : Nat → Sw} {hs : Nat → PH} {i v T : Nat} (hx : x.ok) (hc8 : x.c ≤ 4096) (hT : T ≤ 1000) (hi : i < 3) (h : SpOk x T m ws hs) (hk : (ws i).k = 0) (hv : v % 7 = 3) :
  Fx Tryz.prog 9 [.pointer (some ⟨n.hb, 0, none⟩), .pointer (some ⟨n.a, 0, none⟩), .int .i64 i, .int .i64 v] (spF x n r r2 c c2 Q m ws hs G) (GoP x n r r2 c c2 Q T G) := by
 have hlen := h.hl
 have hxl := hx.len_le
 have hbd := h.bd hi
 obtain ⟨P, hI⟩ := h.i
 have hP := h.h i hi
 have e3 := hP.t0 (by omega)
 have e4 := hP.g0 (by omega)
 have hm0 := (hI.wk i hi).m0
 have hm2 := (hI.wk i hi).m2
 obtain ⟨q, hq⟩ : ∃ q : Nat, (ws i).s.xs.length = q := ⟨_, rfl⟩
 have ht1 : (ws i).s.xs.take q = (ws i).s.xs := by rw [← hq]; exact List.take_length
 have ht2 : (ws i).s.xs.drop q = [] := by rw [← hq]; exact List.drop_length
 have hI' := hI.give_new hi hk q
 have hval := hI.give_valid hi q
 have g0 : (hnV hs ws)[0 + 0 + (i : Int).toNat * 1]? = some (.pointer none) := (hn_tv hi).trans (congrArg some e3)
 have g1 : (hnV hs ws)[0 + 3 + (i : Int).toNat * 1]? = some (.pointer none) := (hn_gv hi).trans (congrArg some e4)
 have hpu : (ptrs 3 fun i => (Q i).u)[0 + (i : Int).toNat * 1]? = some (.pointer (some ⟨(Q i).u, 0, none⟩)) := by
  rw [show 0 + (i : Int).toNat * 1 = i by omega]; exact ptrs_get hi
 have hps : (ptrs 3 fun i => (Q i).s)[0 + (i : Int).toNat * 1]? = some (.pointer (some ⟨(Q i).s, 0, none⟩)) := by
  rw [show 0 + (i : Int).toNat * 1 = i by omega]; exact ptrs_get hi
 have hd7 : Int.tmod (v : Int) 7 = ((3 : Nat) : Int) := by rw [← hv]; rfl
 refine Fx.mk Tryz.func9 k9 nb_ ?_
 dsimp only [c9, kG, kS, kH, kM, kN, kF, kL, envOf, Nat.reduceAdd]
 refine Cx.ent (sp_in hi) ?_
 rw [spW0 hk]
 simp only [List.cons_append, List.nil_append]
 refine go ?_
 refine gg ?_
 refine Sx.ldb (b := n.hb) rfl g0 ?_
 refine go ?_
 refine gg ?_
 refine Sx.ldb (b := n.hb) rfl g1 ?_
 refine go ?_
 refine Cx.ordc rfl kr_ ?_
 refine ge ?_
 refine Ev.ldrH (b := r) kr_ rfl rfl hpu ?_
 refine ge ?_
 refine Ev.ldrH (b := r2) kr_ rfl rfl hps ?_
 refine ge ?_
 refine go ?_
 refine Sx.pv rfl (by omega) ?_
 rw [hd7]
 have c1 := fun (L0 F0 F3 : St) (t0 : Take L0 (some ⟨(Q i).u, 0, none⟩) (SupO n.mp (Q i).pb x (ws i).s) F0) (t3 : Take F0 (some ⟨(Q i).pb, 0, none⟩) (SkO n.mp x.pool) F3) => supAll (u := (Q i).u) (mp := n.mp) (pb := (Q i).pb) (x := x) (s := (ws i).s) (L := L0) (F := F0) (F3 := F3) (by omega) (t := t0) (tb := t3)
 have c2' := fun (L0 F1 F2 G0 : St) (t2 : Take L0 (some ⟨(Q i).s, 0, none⟩) (RSupO n.w (ws i).s) F1) (t3 : Take F1 (some ⟨n.w, 0, none⟩) (RWO x n.rm n.rp n.rs n.re) F2) (t4 : Take F2 (some ⟨n.rp, 0, none⟩) (RSkO n.rm x.pool) G0) => refAllG (s := (Q i).s) (w := n.w) (rm := n.rm) (rp := n.rp) (rs := n.rs) (re := n.re) (x := x) (S := (ws i).s) (L := L0) (by omega) (t2 := t2) (t3 := t3) (t4 := t4)
 have c1 : ∀ (L0 F0 F3 : St) (t0 : Take L0 (some ⟨(Q i).u, 0, none⟩) (SupO n.mp (Q i).pb x (ws i).s) F0) (t3 : Take F0 (some ⟨(Q i).pb, 0, none⟩) (SkO n.mp x.pool) F3), Fx Tryz.prog 77 [.pointer (some ⟨(Q i).u, 0, none⟩)] L0 (fun v L' => ∃ b, v = .pointer (some ⟨b, 0, none⟩) ∧ L' = pt (some ⟨b, 0, none⟩) (GiveO (Q i).pb x.pool (giveInit x.pool ((ws i).s.xs.take q))) :: pt (some ⟨(Q i).u, 0, none⟩) (SupO n.mp (Q i).pb x { (ws i).s with xs := (ws i).s.xs.drop q }) :: F0) := by rw [ht1, ht2]; exact c1
 have c2' : ∀ (L0 F1 F2 G0 : St) (t2 : Take L0 (some ⟨(Q i).s, 0, none⟩) (RSupO n.w (ws i).s) F1) (t3 : Take F1 (some ⟨n.w, 0, none⟩) (RWO x n.rm n.rp n.rs n.re) F2) (t4 : Take F2 (some ⟨n.rp, 0, none⟩) (RSkO n.rm x.pool) G0), Fx Tryz.prog 78 [.pointer (some ⟨(Q i).s, 0, none⟩)] L0 (fun v L' => ∃ b, v = .pointer (some ⟨b, 0, none⟩) ∧ L' = pt (some ⟨b, 0, none⟩) (RGiveO n.rp (PushS.init ((ws i).s.xs.take q))) :: pt (some ⟨(Q i).s, 0, none⟩) (RSupO n.w { (ws i).s with xs := (ws i).s.xs.drop q }) :: F1) := by rw [ht1, ht2]; exact c2'
 rw [hval] at c1
 have hg : giveN x q (ws i) = if (PushS.init ((ws i).s.xs.take q)).done then { ws i with s := { (ws i).s with xs := (ws i).s.xs.drop q }, k := 0, g := PushS.init ((ws i).s.xs.take q) } else { ws i with s := { (ws i).s with xs := (ws i).s.xs.drop q }, k := 2, g := PushS.init ((ws i).s.xs.take q) } := by unfold giveN; rw [hval]
 rw [hg] at hI'
 have hgl : (PushS.init ((ws i).s.xs.take q)).l.length ≤ 4096 := by
  show ((ws i).s.xs.take q).length ≤ 4096
  rw [List.length_take]; omega
 obtain ⟨g', hgg⟩ : ∃ g', PushS.init ((ws i).s.xs.take q) = g' := ⟨_, rfl⟩
 obtain ⟨s', hss⟩ : ∃ s', (⟨(ws i).s.most, (ws i).s.xs.drop q, (ws i).s.lm⟩ : SupS) = s' := ⟨_, rfl⟩
 rw [hgg, hss] at hI' c1 c2'
 rw [hgg] at hgl
 clear hgg hss hg hval hq
 have e5 : ∀ b b2 : Nat, hnV (updG (updG hs i { hs i with gv := .pointer (some ⟨b, 0, none⟩) }) i { (updG hs i { hs i with gv := .pointer (some ⟨b, 0, none⟩) }) i with bv := .pointer (some ⟨b2, 0, none⟩) }) ws = hnV (updG hs i { hs i with gv := .pointer (some ⟨b, 0, none⟩), bv := .pointer (some ⟨b2, 0, none⟩), p := b, q := b2 }) ws := fun b b2 => by
  rw [updG_updG, updG_at]; exact hn_updh rfl rfl rfl rfl rfl rfl
 refine go ?_
 refine Cx.ordc rfl kr_ ?_
 refine ge ?_
 refine Ev.bring 1 rfl ?_
 refine ge ?_
 refine Ev.bring 2 rfl ?_
 refine ge ?_
 refine Ev.bring 2 rfl ?_
 refine ge ?_
 refine Ev.bring 4 rfl ?_
 refine ge ?_
 refine Ev.bring 4 rfl ?_
 refine ge ?_
 refine Ev.caH kr_ rfl rfl (c1 _ _ _ inferInstance inferInstance) (Pres.deps kr_) ?_
 rintro v' L' ⟨b, rfl, rfl⟩
 refine ge ?_
 refine Ev.caH kr_ rfl rfl (c2' _ _ _ _ inferInstance inferInstance inferInstance) (Pres.deps kr_) ?_
 rintro v' L' ⟨b2, rfl, rfl⟩
 refine ge ?_
 refine Ev.stbH (b := n.hb) kr_ rfl rfl rfl rfl rfl (hn_blt (o := 3) hi (by omega)) (hn_sgv hi) (Pres.deps kr_) ?_
 refine ge ?_
 refine Ev.stbH (b := n.hb) kr_ rfl rfl rfl rfl rfl (hn_blt (o := 9) hi (by omega)) ((hn_sbv (hs := updG hs i { hs i with gv := .pointer (some ⟨b, 0, none⟩) }) hi).trans (e5 b b2)) (Pres.deps kr_) ?_
 refine ge ?_
 obtain ⟨h1, hh1⟩ : ∃ h1 : PH, h1 = { hs i with gv := .pointer (some ⟨b, 0, none⟩), bv := .pointer (some ⟨b2, 0, none⟩), p := b, q := b2 } := ⟨_, rfl⟩
 have f1 : h1.gv = .pointer (some ⟨b, 0, none⟩) := by rw [hh1]
 have f2 : h1.bv = .pointer (some ⟨b2, 0, none⟩) := by rw [hh1]
 have f3 : h1.tv = .pointer none := by rw [hh1]; exact e3
 have f4 : h1.la = (hs i).la := by rw [hh1]
 have f5 : h1.lc = (hs i).lc := by rw [hh1]
 have f6 : h1.p = b := by rw [hh1]
 have f7 : h1.q = b2 := by rw [hh1]
 rw [← hh1]
 clear hh1
 have g2 : (hnV (updG hs i h1) ws)[0 + 3 + (i : Int).toNat * 1]? = some (.pointer (some ⟨b, 0, none⟩)) := (hn_gv hi).trans (by rw [updG_at, f1])
 refine go ?_
 refine gg ?_
 refine Sx.ldb (b := n.hb) rfl g2 ?_
 refine go ?_
 have q1 : (updG hs i h1 i).gv = .pointer (some ⟨b, 0, none⟩) := by rw [updG_at, f1]
 have q2 : (updG hs i h1 i).bv = .pointer (some ⟨b2, 0, none⟩) := by rw [updG_at, f2]
 refine Sx.ca rfl (givenC (hb := n.hb) (p := b) (q := b2) (pb := (Q i).pb) (rp := n.rp) (k := x.pool) (g := g') (hs := updG hs i h1) (ws := ws) hi (by omega) q1 q2) ?_
 rintro v' L' ⟨rfl, rfl⟩
 cases hd : g'.done with
 | false =>
   rw [hd] at hI'
   have hI' : SpI x m (updG ws i { ws i with s := s', k := 2, g := g' }) P (T + 1) := hI'
   refine go ?_
   refine Kr.one (.inr rfl) rfl (Ent.refl _) ⟨rfl, m, _, _, h.next (h' := h1) hi ⟨P, hI'⟩ ⟨(fun h => by cases h), fun _ => f3, fun _ => ⟨by rw [f1, f6], by rw [f2, f7]⟩, fun h => absurd rfl h⟩ (Nat.le_succ _) (by constructor <;> show _ ≤ _ <;> dsimp only <;> omega) (fun h => by cases h), Ent.trans ?_ (sp_fin hi)⟩
   rw [spW2 rfl, hn_upd (ws := ws) (w := { ws i with s := s', k := 2, g := g' }) (w2 := ws i) rfl rfl, updG_id ws i, f4, f5, f6, f7]
   simp only [List.cons_append, List.nil_append]
   exact entm
 | true =>
   rw [hd] at hI'
   have hI' : SpI x m (updG ws i { ws i with s := s', k := 0, g := g' }) P (T + 1) := hI'
   refine go ?_
   refine Kr.one (.inr rfl) rfl (Ent.refl _) ⟨rfl, m, _, _, h.next (h' := { h1 with gv := .pointer none }) hi ⟨P, hI'⟩ ⟨(fun h => by cases h), fun _ => f3, (fun h => by cases h), fun _ => rfl⟩ (Nat.le_succ _) (by constructor <;> show _ ≤ _ <;> dsimp only <;> omega) (fun h => by cases h), Ent.trans ?_ (sp_fin hi)⟩
   rw [spW0 rfl, hn_upd (ws := ws) (w := { ws i with s := s', k := 0, g := g' }) (w2 := ws i) rfl rfl, updG_id ws i, updG_updG, updG_at]
   dsimp only
   rw [f4, f5]
   simp only [List.cons_append, List.nil_append]
   exact entm
end
end Go.Proofs.YtggnbdeokmdjbaaGreat
