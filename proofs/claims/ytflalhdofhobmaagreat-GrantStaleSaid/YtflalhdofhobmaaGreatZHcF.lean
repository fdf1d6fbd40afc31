/-
  Parts of the proof, merged: what the statement leans on.
-/
import Derived.Deep.Slices
import Derived.Deep.Fields
import Derived.Test.YtflalhdofhobmaaGreatZHcE
/-
  An Alloc alone that takes a chunk out of the pool.
-/
set_option linter.unusedVariables false
set_option linter.unusedSimpArgs false
namespace Go.Proofs.YtflalhdofhobmaaGreat
section
variable {x : Cn} {slot : Nat} {gen : Int} {n : Nat} {m : Mm} {S : SupS}
theorem ok_mid {a need cnt was : Nat} {hand : Int} {zat : Nat} {t : TakeS} (ha : a = 3 ∨ a = 4 ∨ a = 5) (hc : cnt ≤ 1000000) (h1 : 0 ≤ hand) (h2 : hand < x.c) (hr : (rtOf was).ok) (hn1 : 1 ≤ need) (hn2 : need ≤ x.wd) (hz : a = 3 → zat < x.wd) :
    AlOk x ⟨a, ⟨cnt, hand, zat, true, false, need, 0, was, 0, Hd.zero⟩, t, gNone, false⟩ :=
  ⟨by show a ≤ 6; omega, hc, by show -1 ≤ hand; omega, h2, hr, fun h => absurd (show a = 1 from h) (by omega), fun _ => ⟨hn1, hn2⟩, fun _ => h1, hz, fun h => absurd (show a = 2 from h) (by omega)⟩
set_option maxHeartbeats 1000000 in
theorem al_new (hx : x.ok) (hl : m.ws.length = x.len) (hm : m.ok) (hsl : slot < x.sl) (hk : (rtOf (m.at_ (x.root + slot))).ok) (hs : S.xs.length + S.lm.size ≤ 1000) (hm0 : 0 ≤ S.most) (hm2 : S.most ≤ 64) (hba : x.ba = 1) (hxs : S.xs = []) (hlm : S.lm.size = 0) (hw8 : x.wd % 8 = 0) (hn : 1 ≤ n) (hnw : n ≤ x.wd)
    (hlv : (rtOf (m.at_ (x.root + slot))).live gen) (need : Nat) (hneed : roundS (rtOf (m.at_ (x.root + slot))).cl n = need) (hf : ¬ (2 ≤ (rtOf (m.at_ (x.root + slot))).mrk ∧ fitsS x.wd (rtOf (m.at_ (x.root + slot))).off need)) (y : Nat) (l : List Int) (hp : Pool x.pool m ((y : Int) :: l)) :
    ∃ M t, alIt (x.al slot gen n) (x.wd + 6) (alR m S) = (M, S, ⟨6, ⟨x.wd + 6, -1, x.wd, true, true, need, x.wd + 6, m.at_ (x.root + slot), 0, ⟨slot, gen, y, 0, n⟩⟩, t, PushS.init [], true⟩) ∧ AlRun x (x.al slot gen n) (alR m S) (x.wd + 6) ∧
      M.ws.length = x.len ∧ M.ok ∧ Pool x.pool M l ∧ M.at_ (x.root + slot) = Rt.w ⟨(rtOf (m.at_ (x.root + slot))).gen, 2 + y, (rtOf (m.at_ (x.root + slot))).cl, afterS x.wd need⟩ ∧
      (∀ a, a ≠ 0 → a ≠ x.link + y → a ≠ x.root + slot → ¬ (x.word + y * x.wd ≤ a ∧ a < x.word + y * x.wd + x.wd) → M.at_ a = m.at_ a) ∧ (∀ a, x.word + y * x.wd ≤ a → a < x.word + y * x.wd + x.wd → M.at_ a = 0) ∧
      (∀ j, j < 4 → (alIt (x.al slot gen n) j (alR m S)).2.2.v.hand = -1 ∧ (alIt (x.al slot gen n) j (alR m S)).2.1 = S ∧ Pool x.pool (alIt (x.al slot gen n) j (alR m S)).1 ((y : Int) :: l)) ∧
      (∀ j, 4 ≤ j → j < x.wd + 6 → (alIt (x.al slot gen n) j (alR m S)).2.2.v.hand = y ∧ (alIt (x.al slot gen n) j (alR m S)).2.1 = S ∧ Pool x.pool (alIt (x.al slot gen n) j (alR m S)).1 l) ∧
      (∀ j, j < x.wd + 6 → (alIt (x.al slot gen n) j (alR m S)).1.at_ (x.root + slot) = m.at_ (x.root + slot)) ∧
      (∀ j, 1 ≤ j → j < 4 → (alIt (x.al slot gen n) j (alR m S)).2.2.at_ = 2 ∧ (alIt (x.al slot gen n) j (alR m S)).2.2.t.at_ = 1 ∧ (alIt (x.al slot gen n) j (alR m S)).2.2.t.q.ok x.pool) ∧
      (∀ j, 4 ≤ j → j < x.wd + 5 → (alIt (x.al slot gen n) j (alR m S)).2.2.at_ = 3 ∨ (alIt (x.al slot gen n) j (alR m S)).2.2.at_ = 4) ∧
      (∃ T, (alIt (x.al slot gen n) (x.wd + 5) (alR m S)).2.2 = ⟨5, ⟨x.wd + 5, y, x.wd, true, false, need, 0, m.at_ (x.root + slot), 0, Hd.zero⟩, T, gNone, false⟩) := by
  have hlen := hx.len_le
  obtain ⟨b1, b2, b3, b4, b5, b6, b7⟩ := show MayC (x.w : Int) x.c x.wd x.sl x.ca x.ba from hx
  have hpk := hx.pool (n := m.ws.length) (by omega) (by omega)
  obtain ⟨_, hy0, hy1, hpc⟩ := hp.c
  have hyc : y < x.c := by have : (y : Int) < x.c := hy1; omega
  have hwl := Mm.at_lt hm (x.root + slot)
  have hwd : x.word + y * x.wd + x.wd ≤ x.len := by
    have := word_lt (x := x) (k := y) (j := x.wd - 1) hyc (by omega); omega
  have g1 : x.root + x.sl ≤ x.link := by unfold Cn.root Cn.link; omega
  have g2 : x.link + x.c = x.word := by unfold Cn.link Cn.word; omega
  have g3 : 3 ≤ x.root := by unfold Cn.root; omega
  have e1 := al_first (x := x) (slot := slot) (gen := gen) (n := n) (m := m) (S := S) hba hxs hlm hlv need hneed hf
  have hcl := hk.c
  obtain ⟨W, hW⟩ : ∃ W, m.at_ (x.root + slot) = W := ⟨_, rfl⟩
  have hk' := hk
  rw [hW] at hk hlv hneed hf hwl e1 hcl ⊢
  have hn1 : 1 ≤ need := by have := roundS_ge (cl := (rtOf W).cl) (n := n) hcl; omega
  have hn2 : need ≤ x.wd := by rw [← hneed]; exact roundS_le hcl hnw hw8
  have hx0 : (S.xs.length : Int) ≤ S.most := by rw [hxs]; exact hm0
  -- the Pop
  have hp1 : Pool x.pool m.tick ((y : Int) :: l) := ⟨hp.c.congr fun _ _ => rfl, hp.nd⟩
  obtain ⟨m1, p1, n1, l1, po1, a1, d1⟩ := pop_alone (k := x.pool) (m := m.tick) (len := m.ws.length) hpk rfl hp1 1 (by omega) (by omega) (by simp) 1 (by simp; omega)
  simp only [List.drop_succ_cons, List.drop_zero, List.take_succ_cons, List.take_zero] at p1 po1
  have hin : ∀ j, (popIt x.pool j (PopS.init 1, m.tick)).2.ok ∧ (popIt x.pool j (PopS.init 1, m.tick)).1.ok x.pool ∧ (popIt x.pool j (PopS.init 1, m.tick)).2.ws.length = m.ws.length := by
    intro j
    induction j with
    | zero => exact ⟨hm, PopS.ok_init hpk.n1 1, rfl⟩
    | succ j ih =>
      rw [popIt_succ]
      exact ⟨(popStep_mem hpk ih.1 ih.2.1).1, popStep_ok hpk ih.1 ih.2.1, (popStep_mem hpk ih.1 ih.2.1).2.trans ih.2.2⟩
  have hm1 : m1.ok := by have := (hin (1 + 2)).1; rw [p1] at this; exact this
  -- the first two of its accesses look only
  have hlook : ∀ j, j ≤ 2 → ∃ q : PopS, popIt x.pool j (PopS.init 1, m.tick) = (q, m.tick.add j) ∧ q.done = false := by
    intro j hj
    rcases (show j = 0 ∨ j = 1 ∨ j = 2 by omega) with rfl | rfl | rfl
    · exact ⟨PopS.init 1, rfl, rfl⟩
    · obtain ⟨u, hu⟩ := pop_links hp1 1 (by omega) (by omega) (by simp) 1 (by omega) (by omega) (by simp)
      exact ⟨_, hu, rfl⟩
    · have hu := pop_cas hp1 1 (by omega) (by omega) (by simp) 1 (by simp; omega)
      exact ⟨_, hu, rfl⟩
  have e2 : ∀ j, j ≤ 2 → ∃ q : PopS, alIt (x.al slot gen n) (1 + j) (alR m S) = (m.tick.add j, S, ⟨2, ⟨1 + j, -1, 0, true, false, need, 0, W, 0, Hd.zero⟩, ⟨1, 0, false, -1, q, false⟩, gNone, false⟩) ∧ popIt x.pool j (PopS.init 1, m.tick) = (q, m.tick.add j) := by
    intro j
    induction j with
    | zero => intro _; exact ⟨PopS.init 1, e1, rfl⟩
    | succ j ih =>
      intro hj
      obtain ⟨q, h1, h2⟩ := ih (by omega)
      obtain ⟨q2, h3, h4⟩ := hlook (j + 1) hj
      have h5 := h3
      rw [popIt_succ, h2] at h5
      refine ⟨q2, ?_, h3⟩
      show alStep (x.al slot gen n) (alIt (x.al slot gen n) (1 + j) (alR m S)).1 (alIt (x.al slot gen n) (1 + j) (alR m S)).2.1 (alIt (x.al slot gen n) (1 + j) (alR m S)).2.2 = _
      rw [h1]
      have ht : takeStep x.pool x.ba (m.tick.add j) S ⟨1, 0, false, -1, q, false⟩ = (m.tick.add (j + 1), S, ⟨1, 0, false, -1, q2, false⟩) := by
        unfold takeStep
        simp only [Bool.false_eq_true, if_false]
        rw [h5]
        dsimp only
        rw [h4]
        rfl
      unfold alStep
      simp only [Bool.false_eq_true, if_false]
      rw [ht]
      rfl
  obtain ⟨q2, e3, h32⟩ := e2 2 (by omega)
  obtain ⟨Q, hQ⟩ : ∃ Q, Q = (popStep x.pool (m.tick.add 2) q2).1 := ⟨_, rfl⟩
  have p2 : popStep x.pool (m.tick.add 2) q2 = (⟨1, 0, l.headD (-1), m.tick.at_ x.pool.head, [(y : Int)], true⟩, m1) := by
    have := p1
    rw [show 1 + 2 = 2 + 1 from rfl, popIt_succ, h32] at this
    exact this
  obtain ⟨T, hT⟩ : ∃ T : TakeS, T = ⟨1, y, true, -1, ⟨1, 0, l.headD (-1), m.tick.at_ x.pool.head, [(y : Int)], true⟩, true⟩ := ⟨_, rfl⟩
  have e4 : alIt (x.al slot gen n) 4 (alR m S) = (m1, S, ⟨3, ⟨4, y, 0, true, false, need, 0, W, 0, Hd.zero⟩, T, gNone, false⟩) := by
    show alStep (x.al slot gen n) (alIt (x.al slot gen n) (1 + 2) (alR m S)).1 (alIt (x.al slot gen n) (1 + 2) (alR m S)).2.1 (alIt (x.al slot gen n) (1 + 2) (alR m S)).2.2 = _
    rw [e3]
    have ht : takeStep x.pool x.ba (m.tick.add 2) S ⟨1, 0, false, -1, q2, false⟩ = (m1, S, T) := by
      unfold takeStep
      simp only [Bool.false_eq_true, if_false]
      rw [p2]
      dsimp only
      unfold popped
      dsimp only
      rw [if_pos rfl, hT]
      have : S.give [] = S := by unfold SupS.give; rw [List.append_nil]
      rw [this]
    unfold alStep
    simp only [Bool.false_eq_true, if_false]
    rw [ht]
    dsimp only
    rw [show T.done = true by rw [hT], if_pos rfl]
    unfold alTaken
    rw [show T.is_ = true by rw [hT], if_pos rfl, show T.chunk = y by rw [hT]]
  have hwk : 1 ≤ x.wd := by omega
  have e5 : ∀ i, i ≤ x.wd → alIt (x.al slot gen n) (4 + i) (alR m S) = (clrM m1 (x.word + y * x.wd) i, S, ⟨if i < x.wd then 3 else 4, ⟨4 + i, y, i, true, false, need, 0, W, 0, Hd.zero⟩, T, gNone, false⟩) := by
    intro i
    induction i with
    | zero => intro _; rw [if_pos (by omega)]; exact e4
    | succ i ih =>
      intro hi
      show alStep (x.al slot gen n) (alIt (x.al slot gen n) (4 + i) (alR m S)).1 (alIt (x.al slot gen n) (4 + i) (alR m S)).2.1 (alIt (x.al slot gen n) (4 + i) (alR m S)).2.2 = _
      rw [ih (by omega), if_pos (by omega)]
      unfold alStep
      simp only [Bool.false_eq_true, if_false, Int.toNat_natCast]
      rfl
  have e6 : alIt (x.al slot gen n) (x.wd + 5) (alR m S) = ((clrM m1 (x.word + y * x.wd) x.wd).put (x.link + y) ((rtOf W).chunk + 1).toNat, S, ⟨5, ⟨x.wd + 5, y, x.wd, true, false, need, 0, W, 0, Hd.zero⟩, T, gNone, false⟩) := by
    have := e5 x.wd (Nat.le_refl _)
    rw [if_neg (by omega)] at this
    show alStep (x.al slot gen n) (alIt (x.al slot gen n) (x.wd + 4) (alR m S)).1 (alIt (x.al slot gen n) (x.wd + 4) (alR m S)).2.1 (alIt (x.al slot gen n) (x.wd + 4) (alR m S)).2.2 = _
    rw [show x.wd + 4 = 4 + x.wd by omega, this]
    unfold alStep
    simp only [Bool.false_eq_true, if_false, Int.toNat_natCast]
    rw [show 4 + x.wd + 1 = x.wd + 5 by omega]
    rfl
  have hl1 : m1.ws.length = x.len := l1.trans hl
  have hlc : ∀ i, (clrM m1 (x.word + y * x.wd) i).ws.length = x.len := fun i => (clrM_len _ _ _).trans hl1
  have hcat : ∀ i, i ≤ x.wd → ∀ a, (clrM m1 (x.word + y * x.wd) i).at_ a = if x.word + y * x.wd ≤ a ∧ a < x.word + y * x.wd + i then 0 else m1.at_ a := fun i hi a => clrM_at (by omega) a
  obtain ⟨v5, hv5⟩ : ∃ v5, v5 = ((rtOf W).chunk + 1).toNat := ⟨_, rfl⟩
  have hv5l : v5 < 18446744073709551616 := by
    have := Rt.chunk_lt (rtOf_mrk W); have := (rtOf W).chunk_ge; omega
  rw [← hv5] at e6
  have hat5 : ∀ a, ((clrM m1 (x.word + y * x.wd) x.wd).put (x.link + y) v5).at_ a = if x.link + y = a then v5 else if x.word + y * x.wd ≤ a ∧ a < x.word + y * x.wd + x.wd then 0 else m1.at_ a := fun a => by
    rw [Mm.at_put _ (by rw [hlc]; omega), hcat _ (Nat.le_refl _)]
  obtain ⟨m5, hm5⟩ : ∃ m5, m5 = (clrM m1 (x.word + y * x.wd) x.wd).put (x.link + y) v5 := ⟨_, rfl⟩
  rw [← hm5] at e6 hat5
  have hl5 : m5.ws.length = x.len := by rw [hm5, Mm.len_put]; exact hlc _
  have hok5 : m5.ok := by rw [hm5]; exact Mm.ok_put (clrM_ok hm1 _ _) hv5l
  have hr1 : m1.at_ (x.root + slot) = W := by rw [a1 _ (by show x.root + slot ≠ 0; omega)]; exact hW
  have hr5 : m5.at_ (x.root + slot) = W := by rw [hat5, if_neg (by omega), if_neg (by omega), hr1]
  have hR : Rt.ok ⟨(rtOf W).gen, 2 + y, (rtOf W).cl, afterS x.wd need⟩ := ⟨hk.g, by show 2 + y ≤ 4097; omega, hk.c, by have := afterS_le hn2; show afterS x.wd need ≤ 1024; omega⟩
  have e7 : alIt (x.al slot gen n) (x.wd + 6) (alR m S) = (m5.put (x.root + slot) (Rt.w ⟨(rtOf W).gen, 2 + y, (rtOf W).cl, afterS x.wd need⟩), S, ⟨6, ⟨x.wd + 6, -1, x.wd, true, true, need, x.wd + 6, W, 0, ⟨slot, gen, y, 0, n⟩⟩, T, PushS.init [], true⟩) := by
    show alStep (x.al slot gen n) (alIt (x.al slot gen n) (x.wd + 5) (alR m S)).1 (alIt (x.al slot gen n) (x.wd + 5) (alR m S)).2.1 (alIt (x.al slot gen n) (x.wd + 5) (alR m S)).2.2 = _
    rw [e6]
    unfold alStep
    simp only [Bool.false_eq_true, if_false, Int.toNat_natCast]
    rw [if_pos hr5, alClose_none rfl hx0]
  -- the pool
  have hnl : ∀ z ∈ l, z ≠ (y : Int) := fun z hz e => by
    have := hp.nd
    rw [List.nodup_cons] at this
    exact this.1 (e ▸ hz)
  have pool1 : ∀ i, i ≤ x.wd → Pool x.pool (clrM m1 (x.word + y * x.wd) i) l := fun i hi => by
    refine ⟨?_, po1.nd⟩
    rw [hcat i hi, if_neg (by show ¬ (_ ≤ 0 ∧ 0 < _); omega)]
    refine po1.c.congr fun z hz => ?_
    have hz2 := po1.c.mem z hz
    have hz3 : z < x.c := hz2.2
    rw [hcat i hi, if_neg (by show ¬ (_ ≤ x.link + z.toNat ∧ _); omega)]
  have pool5 : Pool x.pool m5 l := by
    refine ⟨?_, po1.nd⟩
    rw [hat5, if_neg (by show ¬ x.link + y = 0; omega), if_neg (by show ¬ (_ ≤ 0 ∧ 0 < _); omega)]
    refine po1.c.congr fun z hz => ?_
    have hz2 := po1.c.mem z hz
    have hz3 : z < x.c := hz2.2
    have := hnl z hz
    rw [hat5, if_neg (by show ¬ x.link + y = x.link + z.toNat; omega), if_neg (by show ¬ (_ ≤ x.link + z.toNat ∧ _); omega)]
  have hput : ∀ a v, (m5.put (x.root + slot) v).at_ a = if x.root + slot = a then v else m5.at_ a := fun a v => Mm.at_put a (by omega)
  have poolM : Pool x.pool (m5.put (x.root + slot) (Rt.w ⟨(rtOf W).gen, 2 + y, (rtOf W).cl, afterS x.wd need⟩)) l := by
    refine ⟨?_, po1.nd⟩
    rw [hput, if_neg (by show ¬ x.root + slot = 0; omega)]
    refine pool5.c.congr fun z hz => ?_
    rw [hput, if_neg (by show ¬ x.root + slot = x.link + z.toNat; omega)]
  have hall : ∀ j, j < x.wd + 6 → (j = 0) ∨ (∃ i, i ≤ 2 ∧ j = 1 + i) ∨ (∃ i, i ≤ x.wd ∧ j = 4 + i) ∨ j = x.wd + 5 := fun j hj => by
    rcases (show j = 0 ∨ (1 ≤ j ∧ j ≤ 3) ∨ (4 ≤ j ∧ j ≤ 4 + x.wd) ∨ j = x.wd + 5 by omega) with h | h | h | h
    · exact .inl h
    · exact .inr (.inl ⟨j - 1, by omega, by omega⟩)
    · exact .inr (.inr (.inl ⟨j - 4, by omega, by omega⟩))
    · exact .inr (.inr (.inr h))
  have hwok : (rtOf W).ok := hk
  have hnd : ∀ j, j < x.wd + 6 → (alIt (x.al slot gen n) j (alR m S)).2.2.done = false := fun j hj => by
    rcases hall j hj with rfl | ⟨i, hi, rfl⟩ | ⟨i, hi, rfl⟩ | rfl
    · rfl
    · obtain ⟨q, h, _⟩ := e2 i hi; rw [h]
    · rw [e5 i hi]
    · rw [e6]
  have hroot : ∀ j, j < x.wd + 6 → (alIt (x.al slot gen n) j (alR m S)).1.at_ (x.root + slot) = W := fun j hj => by
    rcases hall j hj with rfl | ⟨i, hi, rfl⟩ | ⟨i, hi, rfl⟩ | rfl
    · exact hW
    · obtain ⟨q, h, _⟩ := e2 i hi; rw [h]; exact hW
    · rw [e5 i hi]
      show (clrM m1 (x.word + y * x.wd) i).at_ _ = W
      rw [hcat i hi, if_neg (by omega), hr1]
    · rw [e6]; exact hr5
  refine ⟨_, _, e7, ⟨fun j hj => ?_, hnd, by rw [e7]⟩, by rw [Mm.len_put]; exact hl5, Mm.ok_put hok5 (Rt.w_lt hR), poolM, by rw [hput, if_pos rfl], fun a h0 h1 h2 h3 => ?_, fun a h1 h2 => ?_, fun j hj => ?_, fun j hj1 hj2 => ?_, hroot, fun j hj1 hj2 => ?_, fun j hj1 hj2 => ?_, T, by rw [e6]⟩
  · by_cases hj6 : j = x.wd + 6
    · subst hj6
      rw [e7]
      refine ⟨by rw [Mm.len_put]; exact hl5, Mm.ok_put hok5 (Rt.w_lt hR), ?_, hs, hm0, hm2, fun h => (by cases h)⟩
      show (rtOf ((m5.put (x.root + slot) _).at_ (x.root + slot))).ok
      rw [hput, if_pos rfl, rtOf_w hR]; exact hR
    · have hr := hroot j (by omega)
      rcases hall j (by omega) with rfl | ⟨i, hi, rfl⟩ | ⟨i, hi, rfl⟩ | rfl
      · exact good0 hl hm hk' hs hm0 hm2
      · obtain ⟨q, h, _⟩ := e2 i hi
        rw [h] at hr ⊢
        refine ⟨hl, hm, by show (rtOf ((m.tick.add i).at_ _)).ok; rw [hr]; exact hk, hs, hm0, hm2, fun _ => ⟨by show 2 ≤ 6; omega, by show 1 + i ≤ 1000000; omega, by show (-1 : Int) ≤ -1; omega, by show (-1 : Int) < x.c; omega, hk, (fun h => by cases h), (fun h => by cases h), (fun h => by rcases h with h | h | h <;> cases h), (fun h => by cases h), fun _ => ⟨by show 1 ≤ 1; omega, fun _ => ⟨rfl, rfl⟩⟩⟩⟩
      · rw [e5 i hi] at hr ⊢
        refine ⟨hlc i, clrM_ok hm1 _ _, by show (rtOf ((clrM m1 (x.word + y * x.wd) i).at_ _)).ok; rw [hr]; exact hk, hs, hm0, hm2, fun _ => ok_mid (by split <;> omega) (by omega) (by omega) (by omega) hk hn1 hn2 (fun h => by split at h <;> omega)⟩
      · rw [e6] at hr ⊢
        refine ⟨hl5, hok5, by show (rtOf (m5.at_ _)).ok; rw [hr]; exact hk, hs, hm0, hm2, fun _ => ok_mid (by omega) (by omega) (by omega) (by omega) hk hn1 hn2 (fun h => by omega)⟩
  · rw [hput, if_neg (fun h => h2 h.symm), hat5, if_neg (fun h => h1 h.symm), if_neg h3]
    exact a1 a h0
  · rw [hput, if_neg (by omega), hat5, if_neg (by omega), if_pos ⟨h1, h2⟩]
  · rcases (show j = 0 ∨ 1 ≤ j by omega) with rfl | h1
    · exact ⟨rfl, rfl, hp⟩
    · obtain ⟨q, h, _⟩ := e2 (j - 1) (by omega)
      rw [show 1 + (j - 1) = j by omega] at h
      rw [h]
      exact ⟨rfl, rfl, ⟨hp.c.congr fun _ _ => rfl, hp.nd⟩⟩
  · rcases hall j hj2 with h0 | ⟨i, hi, h0⟩ | ⟨i, hi, rfl⟩ | rfl
    · omega
    · omega
    · rw [e5 i hi]; exact ⟨rfl, rfl, pool1 i hi⟩
    · rw [e6]; exact ⟨rfl, rfl, pool5⟩
  · obtain ⟨q, h, h2⟩ := e2 (j - 1) (by omega)
    rw [show 1 + (j - 1) = j by omega] at h
    rw [h]
    refine ⟨rfl, rfl, ?_⟩
    have := (hin (j - 1)).2.1
    rw [h2] at this
    exact this
  · have h := e5 (j - 4) (by omega)
    rw [show 4 + (j - 4) = j by omega] at h
    rw [h]
    show (if j - 4 < x.wd then 3 else 4) = 3 ∨ (if j - 4 < x.wd then 3 else 4) = 4
    split
    · exact .inl rfl
    · exact .inr rfl
end
end Go.Proofs.YtflalhdofhobmaaGreat

/-
  grant's statements: a region by one alone; an Alloc by one alone.
-/
set_option linter.unusedVariables false
set_option linter.unusedSimpArgs false
namespace Go.Proofs.YtflalhdofhobmaaGreat
open Go
attribute [local irreducible] Sx Cx Rx Fx Krg Ksq Kbl Klp Kr
theorem crStep_ok {k : Sk} {ro cl len : Nat} {m : Mm} {c : CreS} (hk : k.ok len) (hm : m.ok) (hcl : cl ≤ 3) (h : c.ok k) (hn : c.cnt + 1 ≤ 1000000) : (crStep k ro cl m c).1.ok k ∧ (crStep k ro cl m c).2.ok ∧ (crStep k ro cl m c).2.ws.length = m.ws.length ∧ (crStep k ro cl m c).1.cnt ≤ c.cnt + 1 := by
  obtain ⟨h1, h2, h3, h4, h5⟩ := h
  have hq := popStep_ok hk hm h2
  have hpm := popStep_mem hk hm h2
  unfold crStep
  split
  · exact ⟨⟨h1, h2, h3, h4, h5⟩, hm, rfl, by show c.cnt ≤ c.cnt + 1; omega⟩
  · split
    · rename_i ha
      split
      · unfold crPopped
        split
        · exact ⟨⟨by show c.at_ ≤ 2; omega, hq, h3, fun h => absurd ha h, hn⟩, hpm.1, hpm.2, Nat.le_refl _⟩
        · rename_i s l hg
          exact ⟨⟨by show 1 ≤ 2; omega, hq, h3, fun _ => hq.g s (by dsimp only at hg; rw [hg]; simp), hn⟩, hpm.1, hpm.2, Nat.le_refl _⟩
      · exact ⟨⟨h1, hq, h3, fun h => absurd ha h, hn⟩, hpm.1, hpm.2, Nat.le_refl _⟩
    · rename_i ha
      exact ⟨⟨by show 2 ≤ 2; omega, h2, Mm.at_lt hm _, fun _ => h4 (by omega), hn⟩, hm, rfl, Nat.le_refl _⟩
    · rename_i ha _
      exact ⟨⟨h1, h2, h3, h4, hn⟩, Mm.ok_put hm (Rt.w_lt (nextRt_ok h3 hcl)), Mm.len_put, Nat.le_refl _⟩
theorem crIt_ok {k : Sk} {ro cl len : Nat} {m : Mm} (hk : k.ok len) (hm : m.ok) (hcl : cl ≤ 3) : ∀ j, j ≤ 100000 → (crIt k ro cl j (CreS.init, m)).1.ok k ∧ (crIt k ro cl j (CreS.init, m)).2.ok ∧ (crIt k ro cl j (CreS.init, m)).2.ws.length = m.ws.length ∧ (crIt k ro cl j (CreS.init, m)).1.cnt ≤ j
  | 0, _ => ⟨⟨by show 0 ≤ 2; omega, PopS.ok_init hk.n1 1, by show 0 < 18446744073709551616; omega, fun h => absurd rfl h, by show 0 ≤ 1000000; omega⟩, hm, rfl, Nat.le_refl _⟩
  | j + 1, hj => by
    obtain ⟨a, b, c, d⟩ := crIt_ok hk hm hcl j (by omega)
    have := crStep_ok (ro := ro) hk b hcl a (by omega)
    exact ⟨this.1, this.2.1, this.2.2.1.trans c, by have := this.2.2.2; show (crStep k ro cl (crIt k ro cl j (CreS.init, m)).2 (crIt k ro cl j (CreS.init, m)).1).1.cnt ≤ j + 1; omega⟩
section
variable {L F G : St}
abbrev rgF (x : Cn) (n : Hn) (r r2 : Option Addr) (k c c2 : Nat) (m : Mm) (G : St) : St :=
  pt (some ⟨n.a, 0, none⟩) (Blk 45 (grV x n r r2 k c c2)) :: pt (some ⟨n.mp, 0, none⟩) (MemO m) :: pt (some ⟨n.ro, 0, none⟩) (RoO n.mp n.sp x) :: pt (some ⟨n.sp, 0, none⟩) (SkO n.mp x.spare) ::
  pt (some ⟨n.rm, 0, none⟩) (RMemO m) :: pt (some ⟨n.w, 0, none⟩) (RWO x n.rm n.rp n.rs n.re) :: pt (some ⟨n.rs, 0, none⟩) (RSkO n.rm x.spare) :: G
set_option maxHeartbeats 4000000 in
theorem grRegion {x : Cn} {n : Hn} {r r2 : Option Addr} {k c c2 : Nat} {m : Mm} (cl : Nat) (hcl : cl ≤ 3) (hx : x.ok) (hl : m.ws.length = x.len) (hm : m.ok) {s : Nat} {l : List Int} (hp : Pool x.spare m ((s : Int) :: l)) :
    Fx Tryz.prog 25 [.pointer (some ⟨n.a, 0, none⟩), .int .i64 cl] (rgF x n r r2 k c c2 m G)
      (fun v L' => v = .tuple #[.int .i64 s, .int .i64 (laterT (rtOf (m.at_ (x.root + s))).gen : Nat), .bool true] ∧ L' = rgF x n r r2 k c c2 (crIt x.spare x.root cl 10 (CreS.init, m)).2 G) := by
  have hlen := hx.len_le
  have hk := hx.spare (n := m.ws.length) (by omega) (by omega)
  have hroot : x.root + x.sl = x.slot := by unfold Cn.root Cn.slot; omega
  obtain ⟨C, M, e10, hd, hcode, hslot, hat, hwas, _⟩ := cr_alone (k := x.spare) (ro := x.root) (cl := cl) (m := m) hk rfl hm hp (by show x.root + x.sl ≤ x.slot; omega) (by show 1 < x.root; unfold Cn.root; omega) hcl
  rw [Int.toNat_natCast] at hwas
  refine Fx.mk Tryz.func25 k25 (Nat.le_of_ble_eq_true rfl) ?_
  dsimp only [c25, envOf, Nat.reduceAdd]
  refine go ?_
  refine Cx.ordc rfl (by kernel_rfl) ?_
  refine ge ?_
  iterate 5 (refine Ev.bring 1 rfl ?_; refine ge ?_)
  refine Ev.caH (by kernel_rfl) rfl rfl (rootsCreate (g := n.ro) (mp := n.mp) (sb := n.sp) (x := x) cl hcl hx) (.keep (fun v L' ⟨_, _, e⟩ => by subst e; exact Has.cell rfl) (.dep rfl .nil)) ?_
  rintro v L' ⟨b, rfl, rfl⟩
  refine ge ?_
  refine Ev.caH (by kernel_rfl) rfl rfl (refCreate (w := n.w) (rm := n.rm) (rp := n.rp) (rs := n.rs) (re := n.re) (x := x) cl hcl) (Pres.deps (by kernel_rfl)) ?_
  rintro v L' ⟨bb, rfl, rfl⟩
  refine ge ?_
  refine go ?_
  refine Cx.lp (α := {j : Nat // j ≤ 10}) (fun j => [(7, .pointer (some ⟨b, 0, none⟩)), (8, .pointer (some ⟨bb, 0, none⟩)), (9, .int .i64 j.1)])
    (fun j => pt (some ⟨b, 0, none⟩) (CreO n.ro n.sp x.spare cl (crIt x.spare x.root cl j.1 (CreS.init, m)).1) :: pt (some ⟨bb, 0, none⟩) (RCreO n.w n.rs cl (crIt x.spare x.root cl j.1 (CreS.init, m)).1) :: rgF x n r r2 k c c2 (crIt x.spare x.root cl j.1 (CreS.init, m)).2 G)
    (fun j => 10 - j.1) ⟨0, by omega⟩ (sub.cons rfl (sub.cons rfl (sub.cons rfl sub.nil))) ?_ ?_
  · dsimp only [rgF, crIt]
    exact ent
  rintro ⟨j, hj⟩
  dsimp only [rgF]
  obtain ⟨k1, k2, k3, k4⟩ := crIt_ok (ro := x.root) (m := m) hk hm hcl j (by omega)
  refine go ?_
  refine Cx.ifp rfl (fun h => ?_) (fun h => ?_)
  · refine go ?_
    refine Sx.ca rfl (crStepC (b := b) (r := n.ro) (mp := n.mp) (sp := n.sp) (x := x) (m := (crIt x.spare x.root cl j (CreS.init, m)).2) (cl := cl) (c := (crIt x.spare x.root cl j (CreS.init, m)).1) hx (by omega) hcl k1) ?_
    rintro v L' ⟨rfl, rfl⟩
    refine go ?_
    refine Sx.ca rfl (refCrStep (b := bb) (w := n.w) (rm := n.rm) (rp := n.rp) (rs := n.rs) (re := n.re) (x := x) (m := (crIt x.spare x.root cl j (CreS.init, m)).2) (cl := cl) (c := (crIt x.spare x.root cl j (CreS.init, m)).1) hx (by omega) hcl k1) ?_
    rintro v L' ⟨rfl, rfl⟩
    refine go ?_
    rw [w64 (n := (j : Int) + 1) (by omega) (by omega)]
    refine Klp.nm ⟨j + 1, by omega⟩ (sub.cons rfl (sub.cons rfl (sub.cons rfl sub.nil))) ?_ (by dsimp only; omega)
    dsimp only [rgF, crIt]
    refine Ent.trans (Ent.take (a := some ⟨b, 0, none⟩)) (Ent.cons ?_)
    exact ent
  · obtain rfl : j = 10 := by omega
    rw [e10]
    dsimp only
    refine go ?_
    refine Sx.ca rfl (crRegion (b := b) (r := n.ro) (sp := n.sp) (k := x.spare) (cl := cl) (c := C) hd hat hcode) ?_
    rintro v L' ⟨rfl, rfl⟩
    rw [hslot, hwas]
    refine go ?_
    refine Cx.ent (Ent.take (a := some ⟨bb, 0, none⟩)) ?_
    refine Cx.openp (a := some ⟨bb, 0, none⟩) rfl ?_
    intro p
    have er : C.rslot = s := by unfold CreS.rslot; rw [if_neg (by omega), hslot]
    have eg : C.rgen = laterT (rtOf (m.at_ (x.root + s))).gen := by unfold CreS.rgen; rw [if_pos ⟨hd, hat⟩, hwas]
    simp only [rcrL, List.cons_append, List.nil_append, er, eg, hd, hcode]
    refine Cx.ordc rfl (by kernel_rfl) ?_
    refine ge ?_
    refine Ev.cakH (by kernel_rfl) rfl rfl (crDone (b := b) (r := n.ro) (sp := n.sp) (k := x.spare) (cl := cl) (c := C) hd) ?_
    refine ge ?_
    refine Ev.yes 43 rfl rfl ?_
    refine ge ?_
    refine Ev.yes 49 rfl rfl ?_
    refine ge ?_
    refine Ev.cakH (by kernel_rfl) rfl rfl (crCode (b := b) (r := n.ro) (sp := n.sp) (k := x.spare) (cl := cl) (c := C) hd) ?_
    rw [hcode]
    refine ge ?_
    refine Ev.yes 54 rfl rfl ?_
    refine ge ?_
    refine Ev.yes 61 rfl rfl ?_
    refine ge ?_
    refine Ev.yes 69 rfl (decide_eq_true rfl) ?_
    refine ge ?_
    refine go ?_
    refine Kr.three (.inr rfl) rfl rfl rfl ?_ ⟨by rw [decide_eq_true rfl], rfl⟩
    refine Ent.trans Ent.drop ?_
    exact ent
abbrev agF (x : Cn) (n : Hn) (r : Nat) (r2 : Option Addr) (k c c2 : Nat) (Q : Nat → Who) (i : Nat) (S : SupS) (m : Mm) (G : St) : St :=
  pt (some ⟨n.a, 0, none⟩) (Blk 45 (grV x n (some ⟨r, 0, none⟩) r2 k c c2)) :: pt (some ⟨r, 0, none⟩) (Row 47 1 k c (ptrs k fun i => (Q i).u)) :: pt (some ⟨(Q i).u, 0, none⟩) (SupO n.mp (Q i).pb x S) ::
  pt (some ⟨n.mp, 0, none⟩) (MemO m) :: pt (some ⟨(Q i).pb, 0, none⟩) (SkO n.mp x.pool) :: pt (some ⟨n.g, 0, none⟩) (GrO n.mp x) :: G
set_option maxHeartbeats 4000000 in
theorem grAlone {x : Cn} {n : Hn} {r : Nat} {r2 : Option Addr} {k c c2 : Nat} {Q : Nat → Who} {i : Nat} {S : SupS} {m : Mm} {slot : Nat} {gen : Int} {sz : Nat} (N : Nat) (hN : N < 4000) (hi : i < k) (hk : k ≤ 64) (hx : x.ok) (hs : slot < x.sl) (hn : 1 ≤ sz) (hn2 : sz ≤ x.wd) (hw8 : x.wd % 8 = 0) (hr : AlRun x (x.al slot gen sz) (alR m S) N) :
    Fx Tryz.prog 20 [.pointer (some ⟨n.a, 0, none⟩), .int .i64 i, .int .i64 slot, .int .i64 gen, .int .i64 sz] (agF x n r r2 k c c2 Q i S m G)
      (fun v L' => ∃ b, v = .tuple #[.pointer (some ⟨b, 0, none⟩), .int .i64 N] ∧ L' = pt (some ⟨b, 0, none⟩) (AlO n.g (Q i).u (Q i).pb x slot gen sz (alIt (x.al slot gen sz) N (alR m S)).2.2) ::
        agF x n r r2 k c c2 Q i (alIt (x.al slot gen sz) N (alR m S)).2.1 (alIt (x.al slot gen sz) N (alR m S)).1 G) := by
  obtain ⟨hgood, hnd, hd⟩ := hr
  refine Fx.mk Tryz.func20 k20 (Nat.le_of_ble_eq_true rfl) ?_
  dsimp only [c20, envOf, Nat.reduceAdd]
  refine go ?_
  refine Cx.ordc rfl (by kernel_rfl) ?_
  refine ge ?_
  refine Ev.ldrH (b := r) (v := .pointer (some ⟨(Q i).u, 0, none⟩)) (by kernel_rfl) rfl rfl (by rw [show 0 + (i : Int).toNat * 1 = i by omega]; exact ptrs_get (U := fun i => (Q i).u) hi) ?_
  refine ge ?_
  refine Ev.caH (by kernel_rfl) rfl rfl (grantAlloc (g := n.g) (u := (Q i).u) (mp := n.mp) (pb := (Q i).pb) (x := x) slot gen sz hs hn hn2) (Pres.deps (by kernel_rfl)) ?_
  rintro v L' ⟨b, rfl, rfl⟩
  refine ge ?_
  refine go ?_
  refine Cx.lp (α := {j : Nat // j ≤ N}) (fun j => [(12, .pointer (some ⟨b, 0, none⟩)), (14, .int .i64 j.1), (15, .int .i64 j.1)])
    (fun j => pt (some ⟨b, 0, none⟩) (AlO n.g (Q i).u (Q i).pb x slot gen sz (alIt (x.al slot gen sz) j.1 (alR m S)).2.2) :: agF x n r r2 k c c2 Q i (alIt (x.al slot gen sz) j.1 (alR m S)).2.1 (alIt (x.al slot gen sz) j.1 (alR m S)).1 G)
    (fun j => N - j.1) ⟨0, by omega⟩ (sub.cons rfl (sub.cons rfl (sub.cons rfl sub.nil))) ?_ ?_
  · dsimp only [agF, alIt]
    exact ent
  rintro ⟨j, hj⟩
  dsimp only [agF]
  obtain ⟨g1, g2, g3, g4, g5, g6, g7⟩ := hgood j hj
  repeat' (first|refine Zo0 rfl ?_|refine Zo1 ?_|refine Zo2 ?_|refine Zo3 ?_|refine Zo4 ?_|refine Zo5 ?_|refine Zo6 ?_|refine Zo7 ?_|refine Zo8 rfl ?_|refine Zo9 rfl ?_|refine Zoa ?_|refine Zob ?_|refine Zoc ?_|refine Zod ?_|refine Zoe ?_|refine Zof ?_|refine Zog ?_|refine Zoh ?_|refine Zom rfl (by rfl) ?_|refine Zon rfl rfl ?_|refine Zoo rfl rfl rfl rfl (by rfl) (by rfl) ?_|refine Zop rfl trivial ?_|refine Zoq rfl rfl rfl ?_)
  rw [decide_eq_true (show (j : Int) < 4000 by omega)]
  refine go ?_
  refine Sx.ca rfl (alStepC (b := b) (g := n.g) (u := (Q i).u) (mp := n.mp) (pb := (Q i).pb) (x := x) (slot := slot) (gen := gen) (n := sz) (S := (alIt (x.al slot gen sz) j (alR m S)).2.1) (m := (alIt (x.al slot gen sz) j (alR m S)).1) (a := (alIt (x.al slot gen sz) j (alR m S)).2.2) hx (by omega) hs hn hn2 hw8 g3 (by omega) g5 g6 g7) ?_
  rintro v L' ⟨rfl, rfl⟩
  by_cases hjn : j = N
  · subst hjn
    have e : alStep (x.al slot gen sz) (alIt (x.al slot gen sz) j (alR m S)).1 (alIt (x.al slot gen sz) j (alR m S)).2.1 (alIt (x.al slot gen sz) j (alR m S)).2.2 = alIt (x.al slot gen sz) j (alR m S) := by
      unfold alStep; rw [if_pos hd]
    rw [hd, e]
    refine go ?_
    refine Kr.two (.inr rfl) rfl rfl ?_ ⟨b, rfl, rfl⟩
    exact ent
  · rw [hnd j (by omega)]
    refine go ?_
    rw [w64 (n := (j : Int) + 1) (by omega) (by omega)]
    refine Klp.nm ⟨j + 1, by omega⟩ (sub.cons rfl (sub.cons rfl (sub.cons rfl sub.nil))) ?_ (by dsimp only; omega)
    dsimp only [agF, alIt]
    exact ent
theorem alDone {b g u pb : Nat} {x : Cn} {slot : Nat} {gen : Int} {n : Nat} {s : AlS} {F1 : St} (hd : s.done = true) [t1 : Take L (some ⟨b, 0, none⟩) (AlO g u pb x slot gen n s) F1] : Fx Tryz.prog 27 [.pointer (some ⟨b, 0, none⟩)] L (fun v L' => v = .bool true ∧ L = L') := by
  refine Fx.kept (t := t1) ?_
  refine Fx.mk Tryz.func27 k27 (Nat.le_of_ble_eq_true rfl) ?_
  dsimp only [c27, envOf, Nat.reduceAdd]
  refine Cx.ent (Ent.of t1.out) ?_
  refine Cx.openp (a := some ⟨b, 0, none⟩) (AlO.dd_ hd) ?_
  rintro ⟨q, n1, n2, n3, tp⟩
  simp only [alDL, List.cons_append, List.nil_append]
  refine go ?_
  refine Sx.ca rfl (machDoneYes (b := b)) ?_
  rintro v L' ⟨rfl, rfl⟩
  refine go ?_
  exact Kr.one (.inr rfl) rfl (AlO.closeD (v := s.v) (rt := rtOf s.v.was) s hd rfl rfl rfl rfl) ⟨rfl, rfl⟩
theorem alCode {b g u pb : Nat} {x : Cn} {slot : Nat} {gen : Int} {n : Nat} {s : AlS} {F1 : St} (hd : s.done = true) [t1 : Take L (some ⟨b, 0, none⟩) (AlO g u pb x slot gen n s) F1] : Fx Tryz.prog 21 [.pointer (some ⟨b, 0, none⟩)] L (fun v L' => v = .int .i64 (s.v.code : Nat) ∧ L = L') := by
  refine Fx.kept (t := t1) ?_
  refine Fx.mk Tryz.func21 k21 (Nat.le_of_ble_eq_true rfl) ?_
  dsimp only [c21, envOf, Nat.reduceAdd]
  refine Cx.ent (Ent.of t1.out) ?_
  refine go ?_
  refine Sx.ca rfl (alDone (b := b) (g := g) (u := u) (pb := pb) (x := x) (slot := slot) (gen := gen) (n := n) (s := s) hd) ?_
  rintro v L' ⟨rfl, rfl⟩
  refine go ?_
  refine Sx.openp (a := some ⟨b, 0, none⟩) (AlO.dd_ hd) ?_
  rintro ⟨q, n1, n2, n3, tp⟩
  simp only [alDL, List.cons_append, List.nil_append]
  refine go ?_
  exact Kr.one (.inr rfl) rfl (AlO.closeD (v := s.v) (rt := rtOf s.v.was) s hd rfl rfl rfl rfl) ⟨rfl, rfl⟩
theorem alPoint {b g u pb : Nat} {x : Cn} {slot : Nat} {gen : Int} {n : Nat} {s : AlS} {F1 : St} (hd : s.done = true) [t1 : Take L (some ⟨b, 0, none⟩) (AlO g u pb x slot gen n s) F1] : Fx Tryz.prog 22 [.pointer (some ⟨b, 0, none⟩)] L (fun v L' => v = .int .i64 (s.v.point : Nat) ∧ L = L') := by
  refine Fx.kept (t := t1) ?_
  refine Fx.mk Tryz.func22 k22 (Nat.le_of_ble_eq_true rfl) ?_
  dsimp only [c22, envOf, Nat.reduceAdd]
  refine Cx.ent (Ent.of t1.out) ?_
  refine Cx.openp (a := some ⟨b, 0, none⟩) (AlO.dd_ hd) ?_
  rintro ⟨q, n1, n2, n3, tp⟩
  simp only [alDL, List.cons_append, List.nil_append]
  refine go ?_
  exact Kr.one (.inr rfl) rfl (AlO.closeD (v := s.v) (rt := rtOf s.v.was) s hd rfl rfl rfl rfl) ⟨rfl, rfl⟩
theorem alObject {b g u pb : Nat} {x : Cn} {slot : Nat} {gen : Int} {n : Nat} {s : AlS} {F1 : St} (hd : s.done = true) [t1 : Take L (some ⟨b, 0, none⟩) (AlO g u pb x slot gen n s) F1] : Fx Tryz.prog 28 [.pointer (some ⟨b, 0, none⟩)] L (fun v L' => v = hdA s.v.obj ∧ L = L') := by
  refine Fx.kept (t := t1) ?_
  refine Fx.mk Tryz.func28 k28 (Nat.le_of_ble_eq_true rfl) ?_
  dsimp only [c28, envOf, Nat.reduceAdd]
  refine Cx.ent (Ent.of t1.out) ?_
  refine Cx.sq ?_
  refine Cx.rg ?_
  refine Sx.al fun o => ?_
  refine go ?_
  refine Sx.ca rfl (alDone (b := b) (g := g) (u := u) (pb := pb) (x := x) (slot := slot) (gen := gen) (n := n) (s := s) hd) ?_
  rintro v L' ⟨rfl, rfl⟩
  refine go ?_
  refine Sx.ent (Ent.take (a := some ⟨b, 0, none⟩)) ?_
  refine Sx.openp (a := some ⟨b, 0, none⟩) (AlO.dd_ hd) ?_
  rintro ⟨q, n1, n2, n3, tp⟩
  simp only [alDL, List.cons_append, List.nil_append]
  refine go ?_
  refine Sx.st (b := o) rfl rfl rfl rfl rfl rfl ?_
  refine Sx.re (hdL s.v.obj) rfl ?_
  refine go ?_
  refine Kr_cell (b := o) (.inr rfl) rfl rfl ?_ ⟨rfl, rfl⟩
  refine Ent.trans Ent.drop ?_
  exact AlO.closeD (v := s.v) (rt := rtOf s.v.was) s hd rfl rfl rfl rfl
end
end Go.Proofs.YtflalhdofhobmaaGreat

/-
  grant's statements: the chapter's example.
-/
set_option linter.unusedVariables false
set_option linter.unusedSimpArgs false
namespace Go.Proofs.YtflalhdofhobmaaGreat
open Go
attribute [local irreducible] Sx Cx Rx Fx Krg Ksq Kbl Klp Kr
/-- What a region made by one alone, first of all, leaves behind. -/
theorem region0 {x : Cn} (hx : x.ok) (cl : Nat) (hcl : cl ≤ 3) : ∃ M, (crIt x.spare x.root cl 10 (CreS.init, allM x)).2 = M ∧ M.n = 5 ∧ M.ws.length = x.len ∧ M.ok ∧ Pool x.pool M (iotaI x.c) ∧ rtOf (M.at_ (x.root + 0)) = ⟨1, 1, cl, 0⟩ ∧ (∀ a, a ≠ 1 → a ≠ x.root → M.at_ a = (allM x).at_ a) ∧
    Pool x.spare (allM x) (((0 : Nat) : Int) :: (iotaI x.sl).tail) ∧ laterT (rtOf ((allM x).at_ (x.root + 0))).gen = 1 := by
  obtain ⟨b1, b2, b3, b4, b5, b6, b7⟩ := hx.b
  have hlen := hx.len_le
  have hl := allM_len x
  have hk := hx.spare (n := (allM x).ws.length) (by omega) (by omega)
  have hroot : x.root + x.sl = x.slot := by unfold Cn.root Cn.slot; omega
  have hslot : x.slot + x.sl = x.link := by unfold Cn.slot Cn.link; omega
  have g3 : 3 ≤ x.root := by unfold Cn.root; omega
  have hsp := allM_spare hx
  have hio : iotaI x.sl = ((0 : Nat) : Int) :: (iotaI x.sl).tail := by
    have h0 := iota_get (n := x.sl) (i := 0) (by omega)
    have hl0 : (iotaI x.sl).length = x.sl := by simp [iotaI]
    cases he : iotaI x.sl with
    | nil => rw [he] at hl0; simp at hl0; omega
    | cons z l => rw [he] at h0; simp only [itI, List.getD_cons_zero] at h0; rw [h0]; rfl
  rw [hio] at hsp
  have h0 : (allM x).at_ (x.root + 0) = 0 := allM_at hx (by omega) (by omega) (by omega) (by omega)
  have hroot0 : (allM x).at_ (x.root + 0) < 18446744073709551616 := by omega
  obtain ⟨C, M, e10, _, _, _, _, _, hn, hml, hmo, _, hrv, hoth⟩ := cr_alone (k := x.spare) (ro := x.root) (cl := cl) (m := allM x) hk rfl (allM_ok hx) hsp (by show x.root + x.sl ≤ x.slot; omega) (by show 1 < x.root; omega) hcl
  rw [Int.toNat_natCast] at hrv hoth
  refine ⟨M, by rw [e10], ?_, hml.trans hl, hmo, ?_, ?_, fun a ha hb => hoth a ha (by omega), hsp, by rw [h0]; rfl⟩
  · rw [hn]; unfold allM poolM; rw [fillM_n, fillM_n]; rfl
  · have hp := allM_pool hx
    refine ⟨?_, hp.nd⟩
    rw [hoth _ (by show (0 : Nat) ≠ 1; omega) (by show 0 ≠ x.root + 0; omega)]
    refine hp.c.congr fun z hz => ?_
    have hz2 := hp.c.mem z hz
    exact hoth _ (by show x.link + z.toNat ≠ 1; omega) (by show x.link + z.toNat ≠ x.root + 0; omega)
  · rw [hrv, rtOf_w (nextRt_ok hroot0 hcl), h0]; rfl
section
variable {L F G : St}
theorem grF_rg {x : Cn} {n : Hn} {r r2 : Option Addr} {k c c2 : Nat} {Q : Nat → Who} {S S2 : Nat → SupS} {m : Mm} : Ent (grF x n r r2 k c c2 Q S S2 m m G)
    (rgF x n r r2 k c c2 m (pt r (Row 47 1 k c (ptrs k fun i => (Q i).u)) :: pt r2 (Row 81 1 k c2 (ptrs k fun i => (Q i).s)) :: pt (some ⟨n.pb, 0, none⟩) (SkO n.mp x.pool) :: pt (some ⟨n.g, 0, none⟩) (GrO n.mp x) ::
      pt (some ⟨n.rp, 0, none⟩) (RSkO n.rm x.pool) :: pt (some ⟨n.re, 0, none⟩) (REpO x n.rm) :: (many k (fun i => whoL n.mp n.w x (Q i) (S i) (S2 i)) ++ G))) := by
  exact entm
set_option maxHeartbeats 4000000 in
theorem grFirst : Fx Tryz.prog 12 [] L (fun v L' => v = .bool true ∧ L = L') := by
  refine Fx.mk Tryz.func12 k12 (Nat.le_of_ble_eq_true rfl) ?_
  dsimp only [c12, envOf, Nat.reduceAdd]
  have hx : (⟨1, 2, 8, 1, 1, 1⟩ : Cn).ok := by unfold Cn.ok MayC; decide
  obtain ⟨x, hxe⟩ : ∃ x, x = (⟨1, 2, 8, 1, 1, 1⟩ : Cn) := ⟨_, rfl⟩
  have hwd : x.wd = 8 := by rw [hxe]
  have hc : x.c = 2 := by rw [hxe]
  have hca : x.ca = 1 := by rw [hxe]
  have hba : x.ba = 1 := by rw [hxe]
  have hsl : x.sl = 1 := by rw [hxe]
  rw [← hxe] at hx
  obtain ⟨M, hM, hn, hml, hmo, hpo, hrt, hoth, hsp, hgen⟩ := region0 hx 0 (by omega)
  have hio : iotaI x.c = ((0 : Nat) : Int) :: [1] := by rw [hc]; rfl
  rw [hio] at hpo
  have hcl : (rtOf (M.at_ (x.root + 0))).cl = 0 := by rw [hrt]
  obtain ⟨M2, t, e14, hrun, _⟩ := al_new (x := x) (slot := 0) (gen := 1) (n := 3) (m := M) (S := SupS.nil x.ca) hx hml hmo (by omega) (by rw [hrt]; exact ⟨by show 1 < 4294967296; omega, by show 1 ≤ 4097; omega, by show 0 ≤ 3; omega, by show 0 ≤ 1024; omega⟩)
    (by show 0 + 0 ≤ 1000; omega) (by rw [hca]; decide) (by rw [hca]; decide) hba rfl rfl (by omega) (by omega) (by omega) (by rw [hrt]; exact ⟨by show 1 ≤ 1; omega, rfl⟩) 3 (by rw [hrt]; rfl) (by rw [hrt]; intro h; have := h.1; dsimp only at this; omega) 0 [1] hpo
  rw [hwd] at e14 hrun
  refine go ?_
  refine Sx.ca (vs := [x.v]) (by rw [hxe]; rfl) (grMade hx) ?_
  rintro v L' ⟨n, r, r2, c, c2, Q, rfl, rfl⟩
  refine go ?_
  refine Sx.ent grF_rg ?_
  refine Sx.ca rfl (grRegion (x := x) (n := n) (m := allM x) (s := 0) (l := (iotaI x.sl).tail) 0 (by omega) hx (allM_len x) (allM_ok hx) hsp) ?_
  rintro v L' ⟨rfl, rfl⟩
  rw [hM, hgen]
  refine go ?_
  have ga := grAlone (x := x) (n := n) (r := r) (r2 := some ⟨r2, 0, none⟩) (k := 3) (c := c) (c2 := c2) (Q := Q) (i := 0) (S := SupS.nil x.ca) (m := M) (slot := 0) (gen := 1) (sz := 3) (G := L) 14 (by omega) (by omega) (by omega) hx (by omega) (by omega) (by omega) (by omega) hrun
  rw [e14] at ga
  refine Sx.ent ?_ (Sx.ca rfl ga ?_)
  · dsimp only [rgF, agF]
    refine Ent.trans (Ent.ith 0 (by omega)) ?_
    simp only [whoL, List.cons_append, List.nil_append]
    exact entm
  rintro v L' ⟨b, rfl, rfl⟩
  refine go ?_
  obtain ⟨A, hA⟩ : ∃ A : AlS, A = ⟨6, ⟨8 + 6, -1, 8, true, true, 3, 8 + 6, M.at_ (x.root + 0), 0, ⟨((0 : Nat) : Int), 1, ((0 : Nat) : Int), 0, ((3 : Nat) : Int)⟩⟩, t, PushS.init [], true⟩ := ⟨_, rfl⟩
  rw [← hA]
  have a1 : A.done = true := by rw [hA]
  have a2 : A.v.code = 0 := by rw [hA]
  have a3 : A.v.obj = ⟨((0 : Nat) : Int), 1, ((0 : Nat) : Int), 0, ((3 : Nat) : Int)⟩ := by rw [hA]
  have a4 : A.v.point = 14 := by rw [hA]
  refine Sx.ca rfl (alDone (b := b) (g := n.g) (u := (Q 0).u) (pb := (Q 0).pb) (x := x) (slot := 0) (gen := 1) (n := 3) (s := A) a1) ?_
  rintro v L' ⟨rfl, rfl⟩
  refine go ?_
  refine Sx.ca rfl (alCode (b := b) (g := n.g) (u := (Q 0).u) (pb := (Q 0).pb) (x := x) (slot := 0) (gen := 1) (n := 3) (s := A) a1) ?_
  rintro v L' ⟨rfl, rfl⟩
  rw [a2]
  refine go ?_
  refine Sx.ca rfl (alObject (b := b) (g := n.g) (u := (Q 0).u) (pb := (Q 0).pb) (x := x) (slot := 0) (gen := 1) (n := 3) (s := A) a1) ?_
  rintro v L' ⟨rfl, rfl⟩
  rw [a3]
  refine go ?_
  refine Sx.ca rfl (alPoint (b := b) (g := n.g) (u := (Q 0).u) (pb := (Q 0).pb) (x := x) (slot := 0) (gen := 1) (n := 3) (s := A) a1) ?_
  rintro v L' ⟨rfl, rfl⟩
  rw [a4]
  refine go ?_
  refine Kr.one (.inr rfl) rfl ?_ ⟨rfl, rfl⟩
  exact entm
end
end Go.Proofs.YtflalhdofhobmaaGreat

/-
  The supplies' example.
-/
set_option linter.unusedVariables false
set_option linter.unusedSimpArgs false
namespace Go.Proofs.YtflalhdofhobmaaGreat
open Go
attribute [local irreducible] Sx Cx Rx Fx Krg Ksq Kbl Klp Kr
section
variable {L F G : St}
end
end Go.Proofs.YtflalhdofhobmaaGreat

/-
  BoundKinds' walk: no kind's bound is above Alone's, nor Alone's above Most's; with more of anything no bound is less.
-/
set_option linter.unusedVariables false
set_option linter.unusedSimpArgs false
namespace Go.Proofs.YtflalhdofhobmaaGreat
open Go
attribute [local irreducible] Sx Cx Rx Fx Krg Ksq Kbl Klp Kr
theorem ints_getD {xs : List Int} {i : Nat} {x : Int} (h : xs[i]? = some x) : (ints xs)[i]? = some (.int .i64 x) := by simp [ints, h]
section
variable {L F : St}
theorem Rd.atD {a : Option Addr} {n i : Nat} {vs : List Value} {v : Value} (h : Rd L 1 a n vs) (hv : vs[i]? = some v) : ∃ b o, a = some ⟨b, o, none⟩ ∧ Has L b (o + i) [v] := by
  obtain ⟨h1, h0 | ⟨b, o, rfl, h2⟩⟩ := h
  · have := (List.getElem?_eq_some_iff.1 hv).1; omega
  · exact ⟨b, o, rfl, h2.at_ hv⟩
/-- The next number of a row of numbers. -/
theorem seqN {q : Nat} {xs : List Int} {a : Option Addr} {n c i : Nat} {m : Int} {F : St} [t : Take L (some ⟨q, 0, none⟩) (Blk 125 [.slice a n c, .int .i64 i]) F]
    (hr : Rd L 1 a n (ints xs)) (hi : i ≤ 1000000000) (hm : 0 < m) (hm2 : m ≤ 4611686018427387904) :
    Fx Tryz.prog 68 [.pointer (some ⟨q, 0, none⟩), .int .i64 m] L (fun v L' => v = .int .i64 (xs.getD i 0 % m) ∧ L' = pt (some ⟨q, 0, none⟩) (Blk 125 [.slice a n c, .int .i64 ((i + 1 : Nat) : Int)]) :: F) := by
  have hn : n = xs.length := by have := hr.1; simp [ints] at this; omega
  refine Fx.mk Tryz.func68 k68 (Nat.le_of_ble_eq_true rfl) ?_
  dsimp only [c68, envOf, Nat.reduceAdd]
  refine go ?_
  refine Cx.calm (by kernel_rfl) ?_
  repeat' (first | (refine Cm.pvs rfl ?_) | (refine Cm.step rfl ?_) | (refine Cm.done ?_) | (refine Cm.ldb rfl rfl (by rfl) ?_) | (refine Cm.ldbs rfl rfl rfl ?_))
  refine Cx.jn (β := Unit) (fun _ => [(0, .pointer (some ⟨q, 0, none⟩)), (1, .int .i64 m), (5, .int .i64 (xs.getD i 0))]) (fun _ => L) ?_ ?_
  · refine Cx.ifp rfl (fun h => ?_) (fun h => ?_)
    · have hlt : i < xs.length := by omega
      have hg : (ints xs)[i]? = some (.int .i64 (xs.getD i 0)) := ints_getD (by simp [hlt])
      obtain ⟨b, o, rfl, hh⟩ := hr.atD hg
      refine Cx.calmK Kjn.mono (by kernel_rfl) ?_
      repeat' (first | (refine Cm.pvs rfl ?_) | (refine Cm.step rfl ?_) | (refine Cm.done ?_) | (refine Cm.ldb rfl rfl (by rfl) ?_) | (refine Cm.ldbs rfl rfl rfl ?_))
      refine Cm.pv rfl rfl ⟨by omega, by omega⟩ ?_
      refine Cm.ld rfl rfl (by simpa using hh) rfl ?_
      repeat' (first | (refine Cm.pvs rfl ?_) | (refine Cm.step rfl ?_) | (refine Cm.done ?_) | (refine Cm.ldb rfl rfl (by rfl) ?_) | (refine Cm.ldbs rfl rfl rfl ?_))
      exact Cm.nil (Kjn.nm () (sub.cons rfl (sub.cons rfl (sub.cons rfl sub.nil))) (Ent.refl _))
    · refine go ?_
      refine Kjn.nm () (sub.cons rfl (sub.cons rfl (sub.cons ?_ sub.nil))) (Ent.refl _)
      rw [show xs.getD i 0 = 0 by rw [List.getD_eq_getElem?_getD, List.getElem?_eq_none (by omega)]; rfl]
      rfl
  · rintro ⟨⟩
    refine go ?_
    rw [w64 (by omega) (by omega)]
    refine Sx.ca rfl (number _ m hm hm2) ?_
    rintro v L' ⟨rfl, rfl⟩
    refine go ?_
    exact Kr.one (.inr rfl) rfl (Ent.refl _) ⟨rfl, by simp⟩
/-- What a small configuration is. -/
def SmallC (w c wd sl ca ba : Int) : Prop := (1 ≤ w ∧ w ≤ 4) ∧ (1 ≤ c ∧ c ≤ 8) ∧ (wd = 8 ∨ wd = 16) ∧ (1 ≤ sl ∧ sl ≤ 4) ∧ (0 ≤ ca ∧ ca ≤ 3) ∧ (1 ≤ ba ∧ ba ≤ 3)
theorem config_ (n : Int) : Fx Tryz.prog 13 [.int .i64 n] L (fun v L' => (∃ w c wd sl ca ba, v = cfg w c wd sl ca ba ∧ SmallC w c wd sl ca ba) ∧ L = L') := by
  refine Fx.mk Tryz.func13 k13 (Nat.le_of_ble_eq_true rfl) ?_
  dsimp only [c13, envOf, Nat.reduceAdd]
  refine go ?_
  refine Sx.al fun g => ?_
  refine go ?_
  refine Sx.ca rfl (number n 4 (by omega) (by omega)) ?_
  rintro v L' ⟨rfl, rfl⟩
  refine go ?_
  refine Sx.pv rfl (by decide) ?_
  refine Sx.ca rfl (number _ 8 (by omega) (by omega)) ?_
  rintro v L' ⟨rfl, rfl⟩
  refine go ?_
  refine Sx.pv rfl (by decide) ?_
  refine Sx.ca rfl (number _ 2 (by omega) (by omega)) ?_
  rintro v L' ⟨rfl, rfl⟩
  refine go ?_
  refine Sx.pv rfl (by decide) ?_
  refine Sx.ca rfl (number _ 4 (by omega) (by omega)) ?_
  rintro v L' ⟨rfl, rfl⟩
  refine go ?_
  refine Sx.pv rfl (by decide) ?_
  refine Sx.ca rfl (number _ 4 (by omega) (by omega)) ?_
  rintro v L' ⟨rfl, rfl⟩
  refine go ?_
  refine Sx.pv rfl (by decide) ?_
  refine Sx.ca rfl (number _ 3 (by omega) (by omega)) ?_
  rintro v L' ⟨rfl, rfl⟩
  refine go ?_
  generalize n % 4 = x0
  generalize IntKind.i64.wrap (n.tdiv 4) % 8 = x1
  generalize IntKind.i64.wrap (n.tdiv 32) % 2 = x2
  generalize IntKind.i64.wrap (n.tdiv 64) % 4 = x3
  generalize IntKind.i64.wrap (n.tdiv 256) % 4 = x4
  generalize IntKind.i64.wrap (n.tdiv 1024) % 3 = x5
  refine Sx.bs (sz := 1) rfl rfl fun r => ?_
  refine go ?_
  refine Sx.bx rfl rfl fun q => ?_
  refine go ?_
  refine Sx.ca rfl (seqN (q := q) (xs := [x0, x1, x2, x3, x4, x5]) (i := 0) (Rd.row (b := r) (E := 3) (cap := 6) rfl) (by omega) (by omega) (by omega)) ?_
  rintro v L' ⟨rfl, rfl⟩
  refine go ?_
  refine Sx.ca rfl (seqN (q := q) (xs := [x0, x1, x2, x3, x4, x5]) (i := 1) (Rd.row (b := r) (E := 3) (cap := 6) rfl) (by omega) (by omega) (by omega)) ?_
  rintro v L' ⟨rfl, rfl⟩
  refine go ?_
  refine Sx.ca rfl (seqN (q := q) (xs := [x0, x1, x2, x3, x4, x5]) (i := 2) (Rd.row (b := r) (E := 3) (cap := 6) rfl) (by omega) (by omega) (by omega)) ?_
  rintro v L' ⟨rfl, rfl⟩
  refine go ?_
  refine Sx.ca rfl (seqN (q := q) (xs := [x0, x1, x2, x3, x4, x5]) (i := 3) (Rd.row (b := r) (E := 3) (cap := 6) rfl) (by omega) (by omega) (by omega)) ?_
  rintro v L' ⟨rfl, rfl⟩
  refine go ?_
  refine Sx.ca rfl (seqN (q := q) (xs := [x0, x1, x2, x3, x4, x5]) (i := 4) (Rd.row (b := r) (E := 3) (cap := 6) rfl) (by omega) (by omega) (by omega)) ?_
  rintro v L' ⟨rfl, rfl⟩
  refine go ?_
  refine Sx.ca rfl (seqN (q := q) (xs := [x0, x1, x2, x3, x4, x5]) (i := 5) (Rd.row (b := r) (E := 3) (cap := 6) rfl) (by omega) (by omega) (by omega)) ?_
  rintro v L' ⟨rfl, rfl⟩
  refine go ?_
  refine Sx.st (b := g) rfl rfl rfl rfl rfl rfl ?_
  dsimp only [lay]
  refine go ?_
  refine Kr_cell (b := g) (.inr rfl) rfl rfl (L' := L) ?_ ⟨⟨_, _, _, _, _, _, rfl, ?_⟩, rfl⟩
  · exact ent
  · have h0 := Int.emod_nonneg x0 (show (4 : Int) ≠ 0 by omega)
    have h0' := Int.emod_lt_of_pos x0 (show (0 : Int) < 4 by omega)
    have h1 := Int.emod_nonneg x1 (show (8 : Int) ≠ 0 by omega)
    have h1' := Int.emod_lt_of_pos x1 (show (0 : Int) < 8 by omega)
    have h2 := Int.emod_nonneg x2 (show (2 : Int) ≠ 0 by omega)
    have h2' := Int.emod_lt_of_pos x2 (show (0 : Int) < 2 by omega)
    have h3 := Int.emod_nonneg x3 (show (4 : Int) ≠ 0 by omega)
    have h3' := Int.emod_lt_of_pos x3 (show (0 : Int) < 4 by omega)
    have h4 := Int.emod_nonneg x4 (show (4 : Int) ≠ 0 by omega)
    have h4' := Int.emod_lt_of_pos x4 (show (0 : Int) < 4 by omega)
    have h5 := Int.emod_nonneg x5 (show (3 : Int) ≠ 0 by omega)
    have h5' := Int.emod_lt_of_pos x5 (show (0 : Int) < 3 by omega)
    simp only [List.getD_cons_zero, List.getD_cons_succ]
    rw [w64 (n := 1 + x0 % 4) (by omega) (by omega), w64 (n := 1 + x1 % 8) (by omega) (by omega), w64 (n := 8 * (x2 % 2)) (by omega) (by omega), w64 (n := 8 + 8 * (x2 % 2)) (by omega) (by omega), w64 (n := 1 + x3 % 4) (by omega) (by omega), w64 (n := 1 + x5 % 3) (by omega) (by omega)]
    unfold SmallC
    omega
end
end Go.Proofs.YtflalhdofhobmaaGreat

/-
  SupplyAll's walk.
-/
set_option linter.unusedVariables false
set_option linter.unusedSimpArgs false
namespace Go.Proofs.YtflalhdofhobmaaGreat
open Go
attribute [local irreducible] Sx Cx Rx Fx Krg Ksq Kbl Klp Kr
/-- What is taken goes. -/
theorem TakeR.perm {ba : Int} {s s' : SupS} {l l' : List Int} {ch : Int} {is_ : Bool} {N : Nat} (h1 : 1 ≤ ba) (h : TakeR ba s l ch is_ N s' l') (hn : s.xs ++ l ≠ []) : is_ = true ∧ (s.xs ++ l).Perm (ch :: (s'.xs ++ l')) := by
  rcases h with ⟨hx, rfl, rfl, _, rfl, rfl⟩ | ⟨hx, hl, c, hc, rfl, rfl, _, rfl, rfl⟩ | ⟨hx, hl, _⟩
  · refine ⟨rfl, ?_⟩
    have e : s.xs = s.xs.dropLast ++ [lastI s.xs] := by
      unfold lastI
      rw [List.getLastD_eq_getLast?, List.getLast?_eq_some_getLast hx]
      exact (List.dropLast_concat_getLast hx).symm
    have : (s.xs.dropLast ++ [lastI s.xs] ++ l').Perm (lastI s.xs :: (s.xs.dropLast ++ l')) := by
      rw [List.append_assoc]
      exact List.perm_middle
    rw [← e] at this
    exact this
  · refine ⟨rfl, ?_⟩
    obtain ⟨y, l2, rfl⟩ := List.exists_cons_of_ne_nil hl
    obtain ⟨c, rfl⟩ : ∃ d, c = d + 1 := ⟨c - 1, by simp at hc; omega⟩
    have : (s.give (List.take (c + 1) (y :: l2)).tail).xs ++ List.drop (c + 1) (y :: l2) = l2 := by
      simp [SupS.give, hx]
    rw [this, hx]
    exact List.Perm.refl _
  · rw [hx, hl] at hn; exact absurd rfl hn
/-- What is known while one alone takes all. -/
def AllP (x : Cn) (i : Nat) (s : SupS) (m : Mm) (l : List Int) (sn : List Bool) : Prop :=
  s.most = (SupS.nil x.ca).most ∧ s.lm = Lm.nil ∧ m.ws.length = x.len ∧ Pool x.pool m l ∧ (s.xs ++ l).Nodup ∧ (∀ y ∈ s.xs ++ l, 0 ≤ y ∧ y < (x.c : Int)) ∧ i + (s.xs ++ l).length = x.c ∧ sn.length = x.c ∧ (∀ y ∈ s.xs ++ l, sn[y.toNat]? = some false)
theorem AllP.step {x : Cn} {i : Nat} {s s' : SupS} {m m' : Mm} {l l' : List Int} {sn : List Bool} {ch : Int} {is_ : Bool} {N : Nat} (h1 : 1 ≤ (x.ba : Int)) (h8 : (x.ba : Int) ≤ 8) (h : AllP x i s m l sn) (hi : i < x.c) (ht : TakeR x.ba s l ch is_ N s' l')
    (hl : m'.ws.length = x.len) (hp : Pool x.pool m' l') : is_ = true ∧ (0 ≤ ch ∧ ch < (x.c : Int)) ∧ sn[ch.toNat]? = some false ∧ AllP x (i + 1) s' m' l' (sn.set ch.toNat true) := by
  obtain ⟨a1, a2, a3, a4, a5, a6, a7, a8, a9⟩ := h
  obtain ⟨hi1, hpm⟩ := ht.perm h1 (by intro e; rw [e] at a7; simp at a7; omega)
  obtain ⟨_, z2, z3⟩ := ht.size h8
  have hmem : ch ∈ s.xs ++ l := hpm.mem_iff.2 (by simp)
  have hnd := hpm.nodup_iff.1 a5
  rw [List.nodup_cons] at hnd
  have hsub : ∀ y ∈ s'.xs ++ l', y ∈ s.xs ++ l := fun y hy => hpm.mem_iff.2 (List.mem_cons_of_mem _ hy)
  have hlen := hpm.length_eq
  rw [List.length_cons] at hlen
  refine ⟨hi1, a6 _ hmem, a9 _ hmem, z3.trans a1, z2.trans a2, hl, hp, hnd.2, fun y hy => a6 y (hsub y hy), by omega, by rw [List.length_set]; exact a8, fun y hy => ?_⟩
  have h2 := a6 y (hsub y hy)
  have h3 := a6 _ hmem
  rw [List.getElem?_set_ne (fun e => hnd.1 (by rw [show ch = y by omega]; exact hy))]
  exact a9 y (hsub y hy)
section
variable {L F G : St}
end
end Go.Proofs.YtflalhdofhobmaaGreat

/-
  GrantArgs' walk.
-/
set_option linter.unusedVariables false
set_option linter.unusedSimpArgs false
namespace Go.Proofs.YtflalhdofhobmaaGreat
open Go
attribute [local irreducible] Sx Cx Rx Fx Krg Ksq Kbl Klp Kr
section
variable {L F G : St}
theorem grF_out {P : As} {x : Cn} {n : Hn} {r r2 : Option Addr} {k c c2 : Nat} {Q : Nat → Who} {S S2 : Nat → SupS} {m m2 : Mm} : Ent (grF x n r r2 k c c2 Q S S2 m m2 (P :: G)) (P :: grF x n r r2 k c c2 Q S S2 m m2 G) := by
  dsimp only [grF]
  iterate 13 (refine Ent.trans (Ent.cons ?_) Ent.swap)
  exact Ent.deep (N := many k _) (M := [P]) (G := G)
theorem Cn.ok.w8 {x : Cn} (h : x.ok) : x.wd % 8 = 0 := by
  obtain ⟨_, _, _, b4, _⟩ := show MayC (x.w : Int) x.c x.wd x.sl x.ca x.ba from h
  rw [show (8 : Int) = ((8 : Nat) : Int) from rfl, natTmod] at b4
  omega
end
end Go.Proofs.YtflalhdofhobmaaGreat

/-
  GrantAlone: what one alone has got, behind each object.
-/
set_option linter.unusedVariables false
set_option linter.unusedSimpArgs false
namespace Go.Proofs.YtflalhdofhobmaaGreat
/-- ch: the newest chunk, -1: none; off: how many of its words are given away; used: how many chunks were taken; l: what is in the pool. -/
structure GA (x : Cn) (cl : Nat) (m : Mm) (ch : Int) (off used : Nat) (l : List Int) : Prop where
  len : m.ws.length = x.len
  ok : m.ok
  pool : Pool x.pool m l
  cnt : l.length + used = x.c
  root : rtOf (m.at_ (x.root + 0)) = ⟨1, if ch = -1 then 1 else (ch + 2).toNat, cl, off⟩
  ch1 : -1 ≤ ch
  ch2 : ch < x.c
  out : ch ∉ l
  off1 : off ≤ x.wd
theorem GA.rok {x : Cn} {cl : Nat} {m : Mm} {ch : Int} {off used : Nat} {l : List Int} (h : GA x cl m ch off used l) (hcl : cl ≤ 3) (hc : x.c ≤ 4096) (hwd : x.wd ≤ 1024) : (rtOf (m.at_ (x.root + 0))).ok := by
  rw [h.root]
  have := h.ch1; have := h.ch2; have := h.off1
  refine ⟨by show 1 < 4294967296; omega, ?_, hcl, by show off ≤ 1024; omega⟩
  show (if ch = -1 then 1 else (ch + 2).toNat) ≤ 4097
  split <;> omega
/-- No chunk of the pool was taken. -/
theorem GA.first {x : Cn} {cl : Nat} {m : Mm} (hl : m.ws.length = x.len) (hm : m.ok) (hp : Pool x.pool m (iotaI x.c)) (hr : rtOf (m.at_ (x.root + 0)) = ⟨1, 1, cl, 0⟩) : GA x cl m (-1) 0 0 (iotaI x.c) := by
  refine ⟨hl, hm, hp, by simp [iotaI], by rw [hr]; rfl, by omega, by omega, fun h => ?_, by omega⟩
  have := hp.c.mem _ h
  omega
section
variable {x : Cn} {cl n : Nat} {m : Mm} {S : SupS} {ch : Int} {off used : Nat} {l : List Int}
/-- There is none. -/
theorem GA.none_ (h : GA x cl m ch off used l) (hx : x.ok) (hcl : cl ≤ 3) (hs : S.xs.length + S.lm.size ≤ 1000) (hm0 : 0 ≤ S.most) (hm2 : S.most ≤ 64) (hba : x.ba = 1) (hxs : S.xs = []) (hlm : S.lm.size = 0) (need : Nat) (hneed : roundS cl n = need) (hf : ¬ (0 ≤ ch ∧ fitsS x.wd off need)) (hu : used = x.c) :
    ∃ M A, alIt (x.al 0 1 n) 3 (alR m S) = (M, S, A) ∧ AlRun x (x.al 0 1 n) (alR m S) 3 ∧ A.done = true ∧ A.v.code = 6 ∧ A.v.obj = Hd.zero ∧ A.v.point = 3 ∧ GA x cl M ch off used l := by
  obtain ⟨b1, b2, b3, b4, b5, b6, b7⟩ := show MayC (x.w : Int) x.c x.wd x.sl x.ca x.ba from hx
  have hr := h.root
  have hrk := h.rok hcl (by omega) (by omega)
  have hc1 := h.ch1
  have hl : l = [] := List.eq_nil_of_length_eq_zero (by have := h.cnt; omega)
  have hmk : 1 ≤ (if ch = -1 then 1 else (ch + 2).toNat) := by split <;> omega
  have hmk2 : 2 ≤ (if ch = -1 then 1 else (ch + 2).toNat) → 0 ≤ ch := by split <;> omega
  obtain ⟨t, e, hrun⟩ := al_none (x := x) (slot := 0) (gen := 1) (n := n) (m := m) (S := S) hx h.len h.ok (by omega) hrk hs hm0 hm2 hba hxs hlm (by rw [hr]; exact ⟨hmk, rfl⟩) need (by rw [hr]; exact hneed) (by rw [hr]; exact fun hh => hf ⟨hmk2 hh.1, hh.2⟩) (by rw [← hl]; exact h.pool)
  exact ⟨_, _, e, hrun, rfl, rfl, rfl, rfl, ⟨h.len, h.ok, ⟨h.pool.c.congr fun _ _ => rfl, h.pool.nd⟩, h.cnt, h.root, h.ch1, h.ch2, h.out, h.off1⟩⟩
/-- A chunk more. -/
theorem GA.more (h : GA x cl m ch off used l) (hx : x.ok) (hcl : cl ≤ 3) (hw8 : x.wd % 8 = 0) (hn : 1 ≤ n) (hnw : n ≤ x.wd) (hs : S.xs.length + S.lm.size ≤ 1000) (hm0 : 0 ≤ S.most) (hm2 : S.most ≤ 64) (hba : x.ba = 1) (hxs : S.xs = []) (hlm : S.lm.size = 0) (need : Nat) (hneed : roundS cl n = need) (hf : ¬ (0 ≤ ch ∧ fitsS x.wd off need)) (hu : used ≠ x.c) :
    ∃ M A y l', alIt (x.al 0 1 n) (x.wd + 6) (alR m S) = (M, S, A) ∧ AlRun x (x.al 0 1 n) (alR m S) (x.wd + 6) ∧ A.done = true ∧ A.v.code = 0 ∧ A.v.obj = ⟨0, 1, y, 0, n⟩ ∧ A.v.point = x.wd + 6 ∧ y ≠ ch ∧ 0 ≤ y ∧ GA x cl M y (afterS x.wd need) (used + 1) l' := by
  obtain ⟨b1, b2, b3, b4, b5, b6, b7⟩ := show MayC (x.w : Int) x.c x.wd x.sl x.ca x.ba from hx
  have hr := h.root
  have hrk := h.rok hcl (by omega) (by omega)
  have hc1 := h.ch1
  have hcnt := h.cnt
  have hmk : 1 ≤ (if ch = -1 then 1 else (ch + 2).toNat) := by split <;> omega
  have hmk2 : 2 ≤ (if ch = -1 then 1 else (ch + 2).toNat) → 0 ≤ ch := by split <;> omega
  obtain ⟨z, l', rfl⟩ : ∃ z l', l = z :: l' := by
    cases l with
    | nil => simp at hcnt; omega
    | cons z l' => exact ⟨z, l', rfl⟩
  have hz := h.pool.c.mem z (by simp)
  obtain ⟨y, rfl⟩ : ∃ y : Nat, z = y := ⟨z.toNat, by omega⟩
  have hzc : (y : Int) < x.c := hz.2
  have hn2 : need ≤ x.wd := by rw [← hneed]; exact roundS_le hcl hnw hw8
  have haf := afterS_le hn2
  obtain ⟨M, t, e, hrun, e1, e2, e3, e4, _⟩ := al_new (x := x) (slot := 0) (gen := 1) (n := n) (m := m) (S := S) hx h.len h.ok (by omega) hrk hs hm0 hm2 hba hxs hlm hw8 hn hnw (by rw [hr]; exact ⟨hmk, rfl⟩) need (by rw [hr]; exact hneed) (by rw [hr]; exact fun hh => hf ⟨hmk2 hh.1, hh.2⟩) y l' h.pool
  rw [hr] at e4
  have hR : Rt.ok ⟨1, 2 + y, cl, afterS x.wd need⟩ := ⟨by show 1 < 4294967296; omega, by show 2 + y ≤ 4097; omega, hcl, by show afterS x.wd need ≤ 1024; omega⟩
  have hnd := h.pool.nd
  rw [List.nodup_cons] at hnd
  refine ⟨M, _, (y : Int), l', e, hrun, rfl, rfl, rfl, rfl, fun hh => h.out (by rw [← hh]; simp), by omega, ⟨e1, e2, e3, by simp at hcnt; omega, ?_, by omega, hzc, hnd.1, haf⟩⟩
  rw [e4, rtOf_w hR, if_neg (by omega)]
  congr 1
  omega
end
end Go.Proofs.YtflalhdofhobmaaGreat

/-
  What comes in: a slice of an argument, as it stands in the world there was, read out of the statement's own reading.
-/
set_option linter.unusedVariables false
set_option linter.unusedSimpArgs false
namespace Go.Proofs.YtflalhdofhobmaaGreat
open Go Go.RowKit Go.ChangeShapes Go.WideShapes
/-- A slice that came in: n elements of sz cells each. -/
def In (w : World) (sz : Nat) (v : Value) (n : Nat) (vs : List Value) : Prop :=
  vs.length = n * sz ∧ n ≤ maxLen ∧ ∃ a c, v = .slice a n c ∧ (n = 0 ∨ ∃ b o, a = some ⟨b, o, none⟩ ∧ ∀ j u, vs[j]? = some u → w.cell? ⟨b, o + j, none⟩ = some u)
theorem addr_add (b o i : Nat) : (⟨b, o, none⟩ : Addr).add i = ⟨b, o + i, none⟩ := by
  unfold Addr.add; split <;> simp_all
theorem In.rd {w : World} {sz n : Nat} {v : Value} {vs : List Value} (h : In w sz v n vs) : n ≤ maxLen ∧ ∃ a c, v = .slice a n c ∧ ∀ L : St, Ent L [Old w] → Rd L sz a n vs := by
  obtain ⟨h1, h2, a, c, rfl, h3⟩ := h
  refine ⟨h2, a, c, rfl, fun L hL => ⟨h1, h3.imp id ?_⟩⟩
  rintro ⟨b, o, rfl, hc⟩
  exact ⟨b, o, rfl, Has.old hL hc⟩
theorem flat_get {sz : Nat} (hp : 0 < sz) : ∀ (rows : List (List Value)) (h : ∀ r ∈ rows, r.length = sz) (j : Nat), rows.flatten[j]? = (rows[j / sz]?).bind (·[j % sz]?)
  | [], _, j => by simp
  | r :: l, h, j => by
    have hr : r.length = sz := h r (by simp)
    have ih := flat_get hp l (fun x hx => h x (by simp [hx]))
    by_cases hj : j < sz
    · rw [List.flatten_cons, List.getElem?_append_left (by omega), Nat.div_eq_of_lt hj, Nat.mod_eq_of_lt hj]
      simp
    · rw [List.flatten_cons, List.getElem?_append_right (by omega), hr, ih]
      obtain ⟨q, rfl⟩ : ∃ q, j = q + sz := ⟨j - sz, by omega⟩
      rw [Nat.add_sub_cancel, Nat.add_mod_right, Nat.add_div_right q hp]
      simp
theorem flat_length {sz : Nat} : ∀ (rows : List (List Value)) (h : ∀ r ∈ rows, r.length = sz), rows.flatten.length = rows.length * sz
  | [], _ => by simp
  | r :: l, h => by
    have hr : r.length = sz := h r (by simp)
    have ih := flat_length l (fun x hx => h x (by simp [hx]))
    rw [List.flatten_cons, List.length_append, ih, hr, List.length_cons, Nat.add_mul]; omega
section
variable {H : Type} {enc : TypeId × Value → H} {P : Program} {w : World} {base : Nat} {held : Bool}
theorem In.rows {t e : TypeId} {sz fuel : Nat} {v : Value} {x : DataW H × List MemPlace} (ht : P.underlying t = some (.slice e)) (hs : P.cellsOf e = sz) (hp : 0 < sz)
    (h : DataW.trod enc P w base (fun _ => true) held fuel t [v] = some x) :
    ∃ rows : List (List Value), In w sz v rows.length rows.flatten ∧ ∀ r ∈ rows, r.length = sz ∧ ∃ n y, DataW.trod enc P w base (fun _ => true) held n e r = some y := by
  rcases Deep.open_slice ht h with ⟨h0, _⟩ | ⟨a, len, cap, m, n, D, Pl, h0, hb, hl, hm, hmm, rfl, hx⟩
  · simp only [List.cons.injEq, and_true] at h0
    subst h0
    exact ⟨[], ⟨by simp, by simp, none, 0, rfl, .inl rfl⟩, by simp⟩
  · simp only [List.cons.injEq, and_true] at h0
    subst h0
    simp only [if_true] at hmm
    subst hmm
    rw [hs] at hx
    obtain ⟨V, hV⟩ := Deep.choose_lt (α := List Value) (p := fun i cs' => w.cells? base (a.add (i * sz)) sz = some cs' ∧ DataW.trod enc P w base (fun _ => true) held n e cs' = some (D i, Pl i)) hx
    have hlen : ∀ i, i < m → (V i).length = sz := fun i hi => (World.cells?_some (hV i hi).1).2.1
    refine ⟨(List.range len).map V, ⟨?_, ?_, some a, m, by simp, ?_⟩, ?_⟩
    · rw [flat_length _ (by simp only [List.mem_map, List.mem_range]; rintro r ⟨i, hi, rfl⟩; exact hlen i (by omega))]
    · simp; omega
    · rcases Nat.eq_zero_or_pos len with h0 | h0
      · left; simpa using h0
      · right
        obtain ⟨b, o, spot⟩ := a
        have hc0 := (World.cells?_some (hV 0 (by omega)).1).2.2 0 hp
        rw [List.getElem?_eq_getElem (by rw [hlen 0 (by omega)]; exact hp)] at hc0
        have hspot : spot = none := by simpa [Addr.add] using World.cell?_spot hc0
        subst hspot
        refine ⟨b, o, rfl, fun j u hu => ?_⟩
        rw [flat_get hp _ (by simp only [List.mem_map, List.mem_range]; rintro r ⟨i, hi, rfl⟩; exact hlen i (by omega))] at hu
        obtain ⟨r, hr, hj⟩ := Option.bind_eq_some_iff.1 hu
        rw [List.getElem?_map] at hr
        obtain ⟨i, hi, rfl⟩ := Option.map_eq_some_iff.1 hr
        have hi' : j / sz < len := by have := (List.getElem?_eq_some_iff.1 hi).1; simpa using this
        have hij : i = j / sz := by simpa [hi'] using hi.symm
        subst hij
        have hc := (World.cells?_some (hV (j / sz) (by omega)).1).2.2 (j % sz) (Nat.mod_lt _ hp)
        rw [hj] at hc
        have he : o + j = o + j / sz * sz + j % sz := by have := Nat.div_add_mod j sz; rw [Nat.mul_comm] at this; omega
        rw [he]
        rwa [addr_add, addr_add] at hc
    · simp only [List.mem_map, List.mem_range]
      rintro r ⟨i, hi, rfl⟩
      exact ⟨hlen i (by omega), n, _, (hV i (by omega)).2⟩
/-- One cell each. -/
theorem In.ones {t e : TypeId} {fuel : Nat} {v : Value} {x : DataW H × List MemPlace} (ht : P.underlying t = some (.slice e)) (hs : P.cellsOf e = 1)
    (h : DataW.trod enc P w base (fun _ => true) held fuel t [v] = some x) :
    ∃ us : List Value, In w 1 v us.length us ∧ ∀ u ∈ us, ∃ n y, DataW.trod enc P w base (fun _ => true) held n e [u] = some y := by
  obtain ⟨rows, h1, h2⟩ := In.rows ht hs (by omega) h
  have key : ∀ rows : List (List Value), (∀ r ∈ rows, r.length = 1 ∧ ∃ n y, DataW.trod enc P w base (fun _ => true) held n e r = some y) → ∀ u ∈ rows.flatten, ∃ n y, DataW.trod enc P w base (fun _ => true) held n e [u] = some y := by
    intro rows h2 u hu
    obtain ⟨r, hr, hur⟩ := List.mem_flatten.1 hu
    obtain ⟨hl, n, y, hy⟩ := h2 r hr
    match r, hl with
    | [z], _ =>
      simp only [List.mem_singleton] at hur
      subst hur
      exact ⟨n, y, hy⟩
  refine ⟨rows.flatten, ?_, key rows h2⟩
  rw [flat_length rows (fun r hr => (h2 r hr).1), Nat.mul_one]
  exact h1
/-- Integers. -/
theorem In.ints {t e : TypeId} {k : IntKind} {fuel : Nat} {v : Value} {x : DataW H × List MemPlace} (ht : P.underlying t = some (.slice e)) (he : P.underlying e = some (.int k)) (hs : P.cellsOf e = 1)
    (h : DataW.trod enc P w base (fun _ => true) held fuel t [v] = some x) : ∃ xs : List Int, In w 1 v xs.length (xs.map (Value.int k)) ∧ ∀ x ∈ xs, (Lit.int k x).wf = true := by
  obtain ⟨us, h1, h2⟩ := In.ones ht hs h
  obtain ⟨xs, rfl, hx⟩ : ∃ xs : List Int, us = xs.map (Value.int k) ∧ ∀ x ∈ xs, (Lit.int k x).wf = true := by
    clear h1 h
    induction us with
    | nil => exact ⟨[], rfl, by simp⟩
    | cons u l ih =>
      obtain ⟨xs, rfl, hx⟩ := ih (fun z hz => h2 z (by simp [hz]))
      obtain ⟨n, y, hy⟩ := h2 u (by simp)
      obtain ⟨z, h3, _, h5⟩ := DataW.trod_int he hy
      simp only [List.cons.injEq, and_true] at h3
      subst h3
      refine ⟨z :: xs, rfl, ?_⟩
      simp only [List.mem_cons, forall_eq_or_imp]
      exact ⟨h5, hx⟩
  exact ⟨xs, by simpa using h1, hx⟩
end
end Go.Proofs.YtflalhdofhobmaaGreat

/-
  GrantAlone's walk.
-/
set_option linter.unusedVariables false
set_option linter.unusedSimpArgs false
namespace Go.Proofs.YtflalhdofhobmaaGreat
open Go
attribute [local irreducible] Sx Cx Rx Fx Krg Ksq Kbl Klp Kr
section
variable {L F G : St}
end
end Go.Proofs.YtflalhdofhobmaaGreat

/-
  A region is ended while an Alloc alone is under way.
-/
set_option linter.unusedVariables false
set_option linter.unusedSimpArgs false
namespace Go.Proofs.YtflalhdofhobmaaGreat
/-- The other memory differs at one cell, where it holds v. -/
def Off (r v : Nat) (m m2 : Mm) : Prop := m2.ws = m.ws.set r v
section
variable {r v : Nat} {m m2 : Mm}
theorem Off.len (h : Off r v m m2) : m2.ws.length = m.ws.length := by rw [show m2.ws = _ from h, List.length_set]
theorem Off.at_ (h : Off r v m m2) {a : Nat} (ha : r ≠ a) : m2.at_ a = m.at_ a := by
  unfold Mm.at_
  rw [show m2.ws = _ from h, List.getD_eq_getElem?_getD, List.getElem?_set_ne ha, ← List.getD_eq_getElem?_getD]
theorem Off.at0 (h : Off r v m m2) (hr : r < m.ws.length) : m2.at_ r = v := by
  unfold Mm.at_
  rw [show m2.ws = _ from h, List.getD_eq_getElem?_getD, List.getElem?_set_self hr]
  rfl
theorem Off.tick (h : Off r v m m2) : Off r v m.tick m2.tick := h
theorem Off.put (h : Off r v m m2) {i w : Nat} (hi : r ≠ i) : Off r v (m.put i w) (m2.put i w) := by
  show m2.ws.set i w = (m.ws.set i w).set r v
  rw [show m2.ws = _ from h, List.set_comm _ _ hi]
theorem Off.cas (h : Off r v m m2) {i o w : Nat} (hi : r ≠ i) : Off r v (m.cas i o w) (m2.cas i o w) := by
  unfold Mm.cas
  rw [h.at_ hi]
  split
  · exact h.put hi
  · exact h
theorem Off.ok (h : Off r v m m2) (hm : m.ok) (hv : v < 18446744073709551616) : m2.ok := fun w hw => by
  rw [show m2.ws = _ from h] at hw
  rcases List.mem_or_eq_of_mem_set hw with h | rfl
  · exact hm w h
  · exact hv
theorem Off.pool {k : Sk} {l : List Int} (h : Off r v m m2) (h0 : r ≠ k.head) (hl : ∀ z : Int, 0 ≤ z → z < k.n → r ≠ k.links + z.toNat) (hp : Pool k m l) : Pool k m2 l := by
  refine ⟨?_, hp.nd⟩
  rw [h.at_ h0]
  refine hp.c.congr fun z hz => ?_
  have := hp.c.mem z hz
  rw [h.at_ (hl z this.1 this.2)]
theorem popStep_off {k : Sk} {q : PopS} (h : Off r v m m2) (h0 : r ≠ k.head) (hl : ∀ z : Int, 0 ≤ z → z < k.n → r ≠ k.links + z.toNat) (hq : q.ok k) : (popStep k m2 q).1 = (popStep k m q).1 ∧ Off r v (popStep k m q).2 (popStep k m2 q).2 := by
  unfold popStep
  cases hd : q.done with
  | true => exact ⟨rfl, h⟩
  | false =>
    simp only [Bool.false_eq_true, if_false]
    have ha := hq.a
    rw [h.at_ h0]
    rcases (show q.at_ = 0 ∨ q.at_ = 1 ∨ q.at_ = 2 by omega) with h1 | h1 | h1
    · rw [h1]
      simp only
      split <;> exact ⟨rfl, h.tick⟩
    · have hlast := hq.g _ (lastI_mem (hq.ne hd (by omega)))
      rw [h1, h.at_ (hl _ hlast.1 hlast.2)]
      simp only
      split <;> exact ⟨rfl, h.tick⟩
    · rw [h1]
      exact ⟨rfl, h.cas h0⟩
theorem takeStep_off {k : Sk} {ba : Int} {s : SupS} {t : TakeS} (h : Off r v m m2) (h0 : r ≠ k.head) (hl : ∀ z : Int, 0 ≤ z → z < k.n → r ≠ k.links + z.toNat) (h1 : t.at_ = 1) (hq : t.q.ok k) :
    (takeStep k ba m2 s t).2 = (takeStep k ba m s t).2 ∧ Off r v (takeStep k ba m s t).1 (takeStep k ba m2 s t).1 := by
  unfold takeStep
  cases hd : t.done with
  | true => exact ⟨rfl, h⟩
  | false =>
    simp only [Bool.false_eq_true, if_false]
    obtain ⟨p1, p2⟩ := popStep_off (q := t.q) h h0 hl hq
    rw [h1]
    simp only
    rw [p1]
    split <;> exact ⟨rfl, p2⟩
/-- One access ahead of the Cas: the other memory's root is not looked at. -/
theorem alStep_off {p : AlP} {s : SupS} {a : AlS} (h : Off (p.ro + p.slot) v m m2) (h0 : p.ro + p.slot ≠ p.k.head) (hlk : p.ro + p.slot < p.k.links) (hwo : p.ro + p.slot < p.wo)
    (ha : (a.at_ = 2 ∧ a.t.at_ = 1 ∧ a.t.q.ok p.k) ∨ a.at_ = 3 ∨ a.at_ = 4) :
    (alStep p m2 s a).2 = (alStep p m s a).2 ∧ Off (p.ro + p.slot) v (alStep p m s a).1 (alStep p m2 s a).1 := by
  unfold alStep
  cases hd : a.done with
  | true => exact ⟨rfl, h⟩
  | false =>
    simp only [Bool.false_eq_true, if_false]
    rcases ha with ⟨h2, h3, h4⟩ | h2 | h2
    · obtain ⟨t1, t2⟩ := takeStep_off (ba := p.ba) (s := s) h h0 (fun z _ _ => by omega) h3 h4
      rw [h2]
      simp only
      rw [t1]
      exact ⟨rfl, t2⟩
    · rw [h2]
      exact ⟨rfl, h.put (by omega)⟩
    · rw [h2]
      exact ⟨rfl, h.put (by omega)⟩
end
section
variable {x : Cn} {slot : Nat} {gen : Int} {n : Nat} {m : Mm} {S : SupS}
theorem AlRun.all {p : AlP} {r : Mm × SupS × AlS} {N : Nat} (h : AlRun x p r N) (j : Nat) : AlGood x p.slot (alIt p j r) := by
  by_cases hj : j ≤ N
  · exact h.good j hj
  · obtain ⟨i, rfl⟩ : ∃ i, j = N + i := ⟨j - N, by omega⟩
    rw [alIt_idle h.d]
    exact h.good N (Nat.le_refl _)
theorem AlRun.end_ {p : AlP} {r : Mm × SupS × AlS} {N j : Nat} (h : AlRun x p r N) (hj : N ≤ j) : alIt p j r = alIt p N r := by
  obtain ⟨i, rfl⟩ : ∃ i, j = N + i := ⟨j - N, by omega⟩
  exact alIt_idle h.d i
/-- Behind k of its accesses the region is ended: what comes of it. -/
theorem al_ended (hx : x.ok) (hl : m.ws.length = x.len) (hm : m.ok) (hsl : slot < x.sl) (hk : (rtOf (m.at_ (x.root + slot))).ok) (hs : S.xs.length + S.lm.size ≤ 999) (hm0 : 1 ≤ S.most) (hm2 : S.most ≤ 64) (hba : x.ba = 1) (hxs : S.xs = []) (hlm : S.lm.size = 0) (hw8 : x.wd % 8 = 0) (hn : 1 ≤ n) (hnw : n ≤ x.wd)
    (hlv : (rtOf (m.at_ (x.root + slot))).live gen) (need : Nat) (hneed : roundS (rtOf (m.at_ (x.root + slot))).cl n = need) (hf : ¬ (2 ≤ (rtOf (m.at_ (x.root + slot))).mrk ∧ fitsS x.wd (rtOf (m.at_ (x.root + slot))).off need)) (y : Nat) (l : List Int) (hp : Pool x.pool m ((y : Int) :: l))
    (k : Nat) (hk6 : k < x.wd + 6) (g v : Nat) (hv : v = Rt.w ⟨g, 0, 0, 0⟩) (hg : g < 4294967296) (m2 : Mm) (ho : Off (x.root + slot) v (alIt (x.al slot gen n) k (alR m S)).1 m2) :
    ∃ N M S2 A l2, alIt (x.al slot gen n) N (m2, (alIt (x.al slot gen n) k (alR m S)).2) = (M, S2, A) ∧ N ≤ x.wd + 7 ∧ AlRun x (x.al slot gen n) (m2, (alIt (x.al slot gen n) k (alR m S)).2) N ∧
      A.done = true ∧ A.v.code = 3 ∧ A.v.obj = Hd.zero ∧ A.v.ends = true ∧ A.g = PushS.init [] ∧ M.ws.length = x.len ∧ M.ok ∧ Pool x.pool M l2 ∧ S2.xs.length + l2.length = l.length + 1 ∧ (4 ≤ k → S2.xs.length = 1) ∧ S2.most = S.most ∧ S2.lm = S.lm := by
  obtain ⟨b1, b2, b3, b4, b5, b6, b7⟩ := show MayC (x.w : Int) x.c x.wd x.sl x.ca x.ba from hx
  have hlen := hx.len_le
  have g1 : x.root + x.sl ≤ x.link := by unfold Cn.root Cn.link; omega
  have g2 : x.link + x.c = x.word := by unfold Cn.link Cn.word; omega
  have g3 : 3 ≤ x.root := by unfold Cn.root; omega
  have g4 : x.word ≤ x.len := by unfold Cn.word Cn.len; omega
  have hR : Rt.ok ⟨g, 0, 0, 0⟩ := ⟨hg, by show 0 ≤ 4097; omega, by show 0 ≤ 3; omega, by show 0 ≤ 1024; omega⟩
  have hvl : v < 18446744073709551616 := by rw [hv]; exact Rt.w_lt hR
  have hrv : rtOf v = ⟨g, 0, 0, 0⟩ := by rw [hv]; exact rtOf_w hR
  have hvn : ¬ (rtOf v).live gen := by rw [hrv]; intro h; have := h.1; simp at this
  have hne : v ≠ m.at_ (x.root + slot) := fun e => hvn (by rw [e]; exact hlv)
  obtain ⟨_, _, hyc, _⟩ := hp.c
  have hyc' : (y : Int) < x.c := hyc
  have hph : ∀ z : Int, 0 ≤ z → z < x.pool.n → x.root + slot ≠ x.pool.links + z.toNat := fun z h0 h1 => by
    show x.root + slot ≠ x.link + z.toNat
    omega
  have hp0 : x.root + slot ≠ x.pool.head := by show x.root + slot ≠ 0; omega
  rcases Nat.eq_zero_or_pos k with rfl | hk1
  · have ho' : Off (x.root + slot) v m m2 := ho
    have ha2 : m2.at_ (x.root + slot) = v := ho'.at0 (by omega)
    obtain ⟨e, hrun⟩ := al_stale (x := x) (slot := slot) (gen := gen) (n := n) (m := m2) (S := S) (ho'.len.trans hl) (ho'.ok hm hvl) (by rw [ha2, hrv]; exact hR) (by omega) (by omega) hm2 (by rw [hxs]; show (0 : Int) ≤ _; omega) (by rw [ha2]; exact hvn)
    refine ⟨1, _, _, _, (y : Int) :: l, e, by omega, hrun, rfl, rfl, rfl, rfl, rfl, ho'.len.trans hl, ho'.ok hm hvl, ?_, by rw [hxs]; simp, fun h => by omega, rfl, rfl⟩
    have := ho'.pool hp0 hph hp
    exact ⟨this.c.congr fun _ _ => rfl, this.nd⟩
  obtain ⟨_, _, _, hrun, _, _, _, _, _, _, hf1, hf2, hfr, hs1, hs2, T, hs3⟩ := al_new (x := x) (slot := slot) (gen := gen) (n := n) (m := m) (S := S) hx hl hm hsl hk (by omega) (by omega) hm2 hba hxs hlm hw8 hn hnw hlv need hneed hf y l hp
  obtain ⟨p, hpe⟩ : ∃ p, p = x.al slot gen n := ⟨_, rfl⟩
  rw [← hpe] at hrun hf1 hf2 hfr hs1 hs2 hs3 ho ⊢
  have epk : p.k = x.pool := by rw [hpe]
  have epr : p.ro + p.slot = x.root + slot := by rw [hpe]
  have epw : p.wo = x.word := by rw [hpe]
  have eps : p.slot = slot := by rw [hpe]
  have sync : ∀ i, k + i ≤ x.wd + 5 → ∃ M, alIt p i (m2, (alIt p k (alR m S)).2) = (M, (alIt p (k + i) (alR m S)).2) ∧ Off (x.root + slot) v (alIt p (k + i) (alR m S)).1 M := by
    intro i
    induction i with
    | zero => exact fun _ => ⟨m2, rfl, ho⟩
    | succ i ih =>
      intro hi
      obtain ⟨M, e1, e2⟩ := ih (by omega)
      have hst := alStep_off (p := p) (v := v) (m := (alIt p (k + i) (alR m S)).1) (m2 := M) (s := (alIt p (k + i) (alR m S)).2.1) (a := (alIt p (k + i) (alR m S)).2.2) (by rw [epr]; exact e2) (by rw [epr, epk]; exact hp0) (by rw [epr, epk]; show x.root + slot < x.link; omega) (by rw [epr, epw]; omega)
        (by
          by_cases h4 : k + i < 4
          · obtain ⟨q1, q2, q3⟩ := hs1 (k + i) (by omega) h4
            exact .inl ⟨q1, q2, by rw [epk]; exact q3⟩
          · exact .inr (hs2 (k + i) (by omega) (by omega)))
      rw [epr] at hst
      refine ⟨(alStep p M (alIt p (k + i) (alR m S)).2.1 (alIt p (k + i) (alR m S)).2.2).1, ?_, hst.2⟩
      show alStep p (alIt p i (m2, (alIt p k (alR m S)).2)).1 (alIt p i (m2, (alIt p k (alR m S)).2)).2.1 (alIt p i (m2, (alIt p k (alR m S)).2)).2.2 = _
      rw [e1]
      exact Prod.ext rfl hst.1
  obtain ⟨M5, q1, q2⟩ := sync (x.wd + 5 - k) (by omega)
  rw [show k + (x.wd + 5 - k) = x.wd + 5 by omega] at q1 q2
  have hS5 := (hf2 (x.wd + 5) (by omega) (by omega)).2.1
  have hP5 := (hf2 (x.wd + 5) (by omega) (by omega)).2.2
  have hG5 := hrun.good (x.wd + 5) (by omega)
  rw [eps] at hG5
  obtain ⟨R5, hR5⟩ : ∃ R5, alIt p (x.wd + 5) (alR m S) = R5 := ⟨_, rfl⟩
  rw [hR5] at q1 q2 hS5 hP5 hG5 hs3
  obtain ⟨m5, s5, a5⟩ := R5
  dsimp only at q1 q2 hS5 hP5 hG5 hs3
  subst hS5 hs3
  have hM5l : M5.ws.length = x.len := q2.len.trans hG5.l
  have hM5o : M5.ok := q2.ok hG5.m hvl
  have hM5a : M5.at_ (x.root + slot) = v := q2.at0 (by have := hG5.l; dsimp only at this; omega)
  obtain ⟨W, hW⟩ : ∃ W, m.at_ (x.root + slot) = W := ⟨_, rfl⟩
  rw [hW] at q1 hne hG5
  obtain ⟨V6, hV6⟩ : ∃ V6 : AlV, V6 = ⟨x.wd + 6, y, x.wd, true, false, need, 0, W, 0, Hd.zero⟩ := ⟨_, rfl⟩
  have q3 : alIt p (x.wd + 6 - k) (m2, (alIt p k (alR m s5)).2) = (M5.tick, s5, ⟨0, V6, T, gNone, false⟩) := by
    rw [show x.wd + 6 - k = (x.wd + 5 - k) + 1 by omega]
    show alStep p (alIt p (x.wd + 5 - k) (m2, (alIt p k (alR m s5)).2)).1 (alIt p (x.wd + 5 - k) (m2, (alIt p k (alR m s5)).2)).2.1 (alIt p (x.wd + 5 - k) (m2, (alIt p k (alR m s5)).2)).2.2 = _
    rw [q1]
    unfold alStep
    simp only [Bool.false_eq_true, if_false]
    rw [epr, if_neg (by rw [hM5a]; exact hne), hV6]
  obtain ⟨A7, hA7⟩ : ∃ A7 : AlS, A7 = ⟨6, ⟨x.wd + 7, -1, x.wd, true, true, need, x.wd + 7, v, 3, Hd.zero⟩, T, PushS.init [], true⟩ := ⟨_, rfl⟩
  have q4 : alIt p (x.wd + 7 - k) (m2, (alIt p k (alR m s5)).2) = (M5.tick.tick, { s5 with xs := [(y : Int)] }, A7) := by
    rw [show x.wd + 7 - k = (x.wd + 6 - k) + 1 by omega]
    show alStep p (alIt p (x.wd + 6 - k) (m2, (alIt p k (alR m s5)).2)).1 (alIt p (x.wd + 6 - k) (m2, (alIt p k (alR m s5)).2)).2.1 (alIt p (x.wd + 6 - k) (m2, (alIt p k (alR m s5)).2)).2.2 = _
    rw [q3]
    unfold alStep
    simp only [Bool.false_eq_true, if_false]
    rw [epr, show M5.tick.at_ (x.root + slot) = v from hM5a, hV6]
    unfold alSeen
    dsimp only
    rw [show p.gen = gen by rw [hpe], if_neg hvn]
    unfold alClose
    dsimp only
    rw [if_pos (by omega)]
    have hgv : s5.give [(y : Int)] = { s5 with xs := [(y : Int)] } := by unfold SupS.give; rw [hxs]; rfl
    rw [hgv]
    have h0 : overK s5.most [(y : Int)] = 0 := by unfold overK; simp; omega
    simp only [h0, List.take_zero, List.drop_zero, giveInit_nil]
    rw [hA7]
    simp [PushS.init]
  have hS1 : s5.lm.size ≤ 999 := by omega
  refine ⟨x.wd + 7 - k, _, _, _, l, q4, by omega, ⟨fun i hi => ?_, fun i hi => ?_, by rw [q4, hA7]⟩, by rw [hA7], by rw [hA7], by rw [hA7], by rw [hA7], by rw [hA7], hM5l, hM5o, ?_, by simp; omega, fun _ => rfl, rfl, rfl⟩
  · rw [eps]
    rcases (show k + i ≤ x.wd + 5 ∨ i = x.wd + 6 - k ∨ i = x.wd + 7 - k by omega) with h | rfl | rfl
    · obtain ⟨M, e1, e2⟩ := sync i h
      have hGi := hrun.good (k + i) (by omega)
      rw [eps] at hGi
      rw [e1]
      refine ⟨e2.len.trans hGi.l, e2.ok hGi.m hvl, ?_, hGi.s, hGi.m0, hGi.m2, hGi.a⟩
      show (rtOf (M.at_ (x.root + slot))).ok
      rw [e2.at0 (by have := hGi.l; omega), hrv]
      exact hR
    · rw [q3, hV6]
      refine ⟨hM5l, hM5o, ?_, by show s5.xs.length + s5.lm.size ≤ 1000; omega, by show 0 ≤ s5.most; omega, hm2, fun _ => ⟨by show 0 ≤ 6; omega, by show x.wd + 6 ≤ 1000000; omega, by show (-1 : Int) ≤ (y : Int); omega, hyc', by show (rtOf W).ok; rw [← hW]; exact hk, (fun h => by cases h), (fun h => by cases h), (fun h => by rcases h with h | h | h <;> cases h), (fun h => by cases h), (fun h => by cases h)⟩⟩
      show (rtOf (M5.at_ (x.root + slot))).ok
      rw [hM5a, hrv]
      exact hR
    · rw [q4, hA7]
      refine ⟨hM5l, hM5o, ?_, by show 1 + s5.lm.size ≤ 1000; omega, by show 0 ≤ s5.most; omega, hm2, (fun h => by cases h)⟩
      show (rtOf (M5.at_ (x.root + slot))).ok
      rw [hM5a, hrv]
      exact hR
  · rcases (show k + i ≤ x.wd + 5 ∨ i = x.wd + 6 - k by omega) with h | rfl
    · obtain ⟨M, e1, e2⟩ := sync i h
      rw [e1]
      exact hrun.nd (k + i) (by omega)
    · rw [q3]
  · have := q2.pool hp0 hph hP5
    exact ⟨this.c.congr fun _ _ => rfl, this.nd⟩
/-- What GrantStale asks for. -/
theorem al_stale_law {sz k : Nat} (hx : x.ok) (hl : m.ws.length = x.len) (hm : m.ok) (hrt : rtOf (m.at_ (x.root + 0)) = ⟨1, 1, 0, 0⟩) (hp : Pool x.pool m (iotaI x.c)) (hba : x.ba = 1) (hca : x.ca = 64) (hw8 : x.wd % 8 = 0) (hw16 : x.wd ≤ 16) (hn : 1 ≤ sz) (hnw : sz ≤ x.wd) :
    ∃ W, (alIt (x.al 0 1 sz) k (alR m (SupS.nil x.ca))).1.at_ (x.root + 0) = W ∧ (rtOf W).live 1 ∧ (rtOf W).gen = 1 ∧ W < 18446744073709551616 ∧ (rtOf W).mrk ≤ 4097 ∧
      (∀ j, AlGood x 0 (alIt (x.al 0 1 sz) j (alR m (SupS.nil x.ca)))) ∧
      ∀ m2, Off (x.root + 0) (Rt.w ⟨1, 0, 0, 0⟩) (alIt (x.al 0 1 sz) k (alR m (SupS.nil x.ca))).1 m2 →
        ∃ Z, alIt (x.al 0 1 sz) 60 (m2, (alIt (x.al 0 1 sz) k (alR m (SupS.nil x.ca))).2) = Z ∧ (∀ j, AlGood x 0 (alIt (x.al 0 1 sz) j (m2, (alIt (x.al 0 1 sz) k (alR m (SupS.nil x.ca))).2))) ∧ Z.2.2.done = true ∧ Z.2.2.v.ends = true ∧ Z.2.2.g.done = true ∧
          (((alIt (x.al 0 1 sz) k (alR m (SupS.nil x.ca))).2.2.done = true ∧ Z.2.2.v.code = 0 ∧ Z.2.2.v.obj.chunk = (rtOf W).chunk) ∨
           ((alIt (x.al 0 1 sz) k (alR m (SupS.nil x.ca))).2.2.done = false ∧ Z.2.2.v.code = 3 ∧ Z.2.2.v.obj = Hd.zero ∧ (rtOf W).chunk = -1 ∧ ∃ l2, Pool x.pool Z.1 l2 ∧ Z.2.1.xs.length + l2.length = x.c ∧ (4 ≤ k → Z.2.1.xs.length = 1))) := by
  obtain ⟨b1, b2, b3, b4, b5, b6, b7⟩ := show MayC (x.w : Int) x.c x.wd x.sl x.ca x.ba from hx
  have g1 : x.root + x.sl ≤ x.link := by unfold Cn.root Cn.link; omega
  have g2 : x.link + x.c ≤ x.len := by unfold Cn.link Cn.len; omega
  have hlen0 : (iotaI x.c).length = x.c := by simp [iotaI]
  obtain ⟨z, l, hzl⟩ : ∃ z l, iotaI x.c = z :: l := by
    cases h : iotaI x.c with
    | nil => rw [h] at hlen0; simp at hlen0; omega
    | cons z l => exact ⟨z, l, rfl⟩
  rw [hzl] at hp hlen0
  have hz := hp.c.mem z (by simp)
  obtain ⟨y, rfl⟩ : ∃ y : Nat, z = y := ⟨z.toNat, by omega⟩
  have hyc : (y : Int) < x.c := hz.2
  obtain ⟨S, hS⟩ : ∃ S, SupS.nil x.ca = S := ⟨_, rfl⟩
  have hxs : S.xs = [] := by rw [← hS]; rfl
  have hlm : S.lm.size = 0 := by rw [← hS]; rfl
  have hxl : S.xs.length = 0 := by rw [hxs]; rfl
  have hmost : S.most = 64 := by rw [← hS, hca]; rfl
  rw [hS]
  have hk0 : (rtOf (m.at_ (x.root + 0))).ok := by rw [hrt]; exact ⟨by show 1 < 4294967296; omega, by show 1 ≤ 4097; omega, by show 0 ≤ 3; omega, by show 0 ≤ 1024; omega⟩
  have hlv : (rtOf (m.at_ (x.root + 0))).live 1 := by rw [hrt]; exact ⟨by show 1 ≤ 1; omega, rfl⟩
  have hf : ¬ (2 ≤ (rtOf (m.at_ (x.root + 0))).mrk ∧ fitsS x.wd (rtOf (m.at_ (x.root + 0))).off (roundS (rtOf (m.at_ (x.root + 0))).cl sz)) := by rw [hrt]; intro h; have := h.1; dsimp only at this; omega
  have hwl := Mm.at_lt hm (x.root + 0)
  obtain ⟨M, t, e, hrun, e1, e2, e3, e4, _, _, _, _, hfr, _⟩ := al_new (x := x) (slot := 0) (gen := 1) (n := sz) (m := m) (S := S) hx hl hm (by omega) hk0 (by omega) (by omega) (by omega) hba hxs hlm hw8 hn hnw hlv _ rfl hf y l hp
  by_cases hk6 : k < x.wd + 6
  · have hW := hfr k hk6
    refine ⟨_, hW, hlv, by rw [hrt], hwl, by rw [hrt]; show 1 ≤ 4097; omega, hrun.all, fun m2 ho => ?_⟩
    obtain ⟨N, M2, S2, A, l2, q1, q2, q3, q4, q5, q6, q7, q8, q9, q10, q11, q12, q13, _, _⟩ := al_ended (x := x) (slot := 0) (gen := 1) (n := sz) (m := m) (S := S) hx hl hm (by omega) hk0 (by omega) (by omega) (by omega) hba hxs hlm hw8 hn hnw hlv _ rfl hf y l hp k hk6 1 _ rfl (by omega) m2 ho
    have e60 := q3.end_ (j := 60) (by omega)
    rw [q1] at e60
    refine ⟨_, e60, q3.all, q4, q7, by dsimp only; rw [q8]; rfl, .inr ⟨hrun.nd k hk6, q5, q6, by rw [hrt]; rfl, l2, q11, ?_, q13⟩⟩
    rw [List.length_cons] at hlen0
    dsimp only
    omega
  · have ek := hrun.end_ (j := k) (by omega)
    rw [e] at ek
    rw [ek]
    have hcl : (rtOf (m.at_ (x.root + 0))).cl = 0 := by rw [hrt]
    have hgn : (rtOf (m.at_ (x.root + 0))).gen = 1 := by rw [hrt]
    have hrl := roundS_le (cl := (rtOf (m.at_ (x.root + 0))).cl) (by omega) hnw hw8
    have haf := afterS_le hrl
    have hR : Rt.ok ⟨(rtOf (m.at_ (x.root + 0))).gen, 2 + y, (rtOf (m.at_ (x.root + 0))).cl, afterS x.wd (roundS (rtOf (m.at_ (x.root + 0))).cl sz)⟩ := ⟨by rw [hgn]; show 1 < 4294967296; omega, by show 2 + y ≤ 4097; omega, by rw [hcl]; show 0 ≤ 3; omega, by show afterS x.wd _ ≤ 1024; omega⟩
    refine ⟨_, e4, ?_, ?_, ?_, ?_, hrun.all, fun m2 ho => ?_⟩
    · rw [rtOf_w hR]; exact ⟨by show 1 ≤ 2 + y; omega, by show ((rtOf (m.at_ (x.root + 0))).gen : Int) = 1; rw [hgn]; rfl⟩
    · rw [rtOf_w hR]; exact hgn
    · exact Rt.w_lt hR
    · rw [rtOf_w hR]; exact hR.m
    · have hR2 : Rt.ok ⟨1, 0, 0, 0⟩ := ⟨by show 1 < 4294967296; omega, by show 0 ≤ 4097; omega, by show 0 ≤ 3; omega, by show 0 ≤ 1024; omega⟩
      have hend := hrun.good (x.wd + 6) (Nat.le_refl _)
      rw [e] at hend
      have h0 : AlRun x (x.al 0 1 sz) (m2, S, (⟨6, ⟨x.wd + 6, -1, x.wd, true, true, roundS (rtOf (m.at_ (x.root + 0))).cl sz, x.wd + 6, m.at_ (x.root + 0), 0, ⟨((0 : Nat) : Int), 1, (y : Int), 0, (sz : Int)⟩⟩, t, PushS.init [], true⟩ : AlS)) 0 := by
        refine ⟨fun j hj => ?_, fun j hj => by omega, rfl⟩
        obtain rfl : j = 0 := by omega
        refine ⟨ho.len.trans e1, ho.ok e2 (Rt.w_lt hR2), ?_, hend.s, hend.m0, hend.m2, (fun h => by cases h)⟩
        show (rtOf (m2.at_ (x.root + 0))).ok
        rw [ho.at0 (by dsimp only; omega), rtOf_w hR2]
        exact hR2
      have e60 := h0.end_ (j := 60) (by omega)
      refine ⟨_, e60, h0.all, rfl, rfl, rfl, .inl ⟨rfl, rfl, ?_⟩⟩
      rw [rtOf_w hR]
      unfold Rt.chunk
      rw [if_neg (by show ¬ 2 + y < 2; omega)]
      show (y : Int) = ((2 + y : Nat) : Int) - 2
      omega
end
end Go.Proofs.YtflalhdofhobmaaGreat

/-
  An End's steps; what is told of an Alloc.
-/
set_option linter.unusedVariables false
set_option linter.unusedSimpArgs false
namespace Go.Proofs.YtflalhdofhobmaaGreat
open Go
attribute [local irreducible] Sx Cx Rx Fx Krg Ksq Kbl Klp Kr
theorem small_cfg2 {w c wd sl ca ba : Int} (h : SmallC w c wd sl ca ba) : ∃ x : Cn, cfg w c wd sl ca ba = x.v ∧ x.ok ∧ x.ca ≤ 3 ∧ x.c ≤ 8 ∧ x.ba ≤ 3 ∧ x.w ≤ 4 ∧ x.wd ≤ 16 ∧ x.sl ≤ 4 := by
  unfold SmallC at h
  refine ⟨⟨w.toNat, c.toNat, wd.toNat, sl.toNat, ca.toNat, ba.toNat⟩, ?_, ?_, ?_⟩
  · simp only [Cn.v]
    rw [Int.toNat_of_nonneg (by omega), Int.toNat_of_nonneg (by omega), Int.toNat_of_nonneg (by omega), Int.toNat_of_nonneg (by omega), Int.toNat_of_nonneg (by omega), Int.toNat_of_nonneg (by omega)]
  · unfold Cn.ok MayC
    simp only
    rw [Int.toNat_of_nonneg (by omega), Int.toNat_of_nonneg (by omega), Int.toNat_of_nonneg (by omega), Int.toNat_of_nonneg (by omega), Int.toNat_of_nonneg (by omega), Int.toNat_of_nonneg (by omega)]
    rw [Int.tmod_eq_emod_of_nonneg (by omega)]
    omega
  · simp only; omega
section
variable {L F G : St}
/-- Is an Alloc done? -/
theorem alDoneQ {b g u pb : Nat} {x : Cn} {slot : Nat} {gen : Int} {n : Nat} {s : AlS} {F1 : St} (h6 : s.done = false → s.at_ ≤ 6) [t1 : Take L (some ⟨b, 0, none⟩) (AlO g u pb x slot gen n s) F1] : Fx Tryz.prog 27 [.pointer (some ⟨b, 0, none⟩)] L (fun v L' => v = .bool s.done ∧ L = L') := by
  cases hd : s.done with
  | true => exact alDone (b := b) (g := g) (u := u) (pb := pb) (x := x) (slot := slot) (gen := gen) (n := n) (s := s) hd
  | false =>
    have h7 := h6 hd
    refine Fx.kept (t := t1) ?_
    refine Fx.mk Tryz.func27 k27 (Nat.le_of_ble_eq_true rfl) ?_
    dsimp only [c27, envOf, Nat.reduceAdd]
    refine Cx.ent (Ent.of t1.out) ?_
    by_cases h2 : s.at_ = 2
    · refine Cx.openp (a := some ⟨b, 0, none⟩) (AlO.tt_ hd h2) ?_
      intro q
      simp only [alTL, List.cons_append, List.nil_append]
      refine go ?_
      refine Sx.ca rfl (machDoneNo (b := b)) ?_
      rintro v L' ⟨rfl, rfl⟩
      refine go ?_
      exact Kr.one (.inr rfl) rfl (AlO.closeT (v := s.v) (rt := rtOf s.v.was) s hd h2 rfl rfl rfl rfl) ⟨rfl, rfl⟩
    · by_cases h6 : s.at_ = 6
      · refine Cx.openp (a := some ⟨b, 0, none⟩) (AlO.gg_ hd h6) ?_
        rintro ⟨q, tp⟩
        simp only [alGL, List.cons_append, List.nil_append]
        refine go ?_
        refine Sx.ca rfl (machDoneNo (b := b)) ?_
        rintro v L' ⟨rfl, rfl⟩
        refine go ?_
        exact Kr.one (.inr rfl) rfl (AlO.closeG (v := s.v) (rt := rtOf s.v.was) s hd h6 rfl rfl rfl rfl) ⟨rfl, rfl⟩
      · refine Cx.openp (a := some ⟨b, 0, none⟩) (AlO.ss_ hd h2 h6) ?_
        rintro ⟨n1, n2, n3, tp⟩
        simp only [alSL, List.cons_append, List.nil_append]
        refine go ?_
        refine Sx.ca rfl (machDoneNo (b := b)) ?_
        rintro v L' ⟨rfl, rfl⟩
        refine go ?_
        exact Kr.one (.inr rfl) rfl (AlO.closeS (v := s.v) (rt := rtOf s.v.was) s hd (by rw [← Bool.not_eq_true, Nat.beq_eq]; exact h2) (by rw [← Bool.not_eq_true, Nat.beq_eq]; exact h6) rfl rfl rfl rfl) ⟨rfl, rfl⟩
theorem giveHandD {b pb : Nat} {k : Sk} {p : PushS} {F1 : St} (hd : p.done = true) [t1 : Take L (some ⟨b, 0, none⟩) (GiveO pb k p) F1] : Fx Tryz.prog 117 [.pointer (some ⟨b, 0, none⟩)] L (fun v L' => v = .slice none 0 0 ∧ L = L') := by
  refine Fx.mk Tryz.func117 k117 (Nat.le_of_ble_eq_true rfl) ?_
  dsimp only [c117, envOf, Nat.reduceAdd]
  refine go ?_
  refine Sx.ca rfl (giveDone (b := b) (pb := pb) (k := k) (p := p)) ?_
  rintro v L' ⟨rfl, rfl⟩
  rw [hd]
  refine go ?_
  exact Kr.one (.inr rfl) rfl (Ent.refl _) ⟨rfl, rfl⟩
/-- Nothing is in the hand of one that is done. -/
theorem alHandDone {b g u pb : Nat} {x : Cn} {slot : Nat} {gen : Int} {n : Nat} {s : AlS} {F1 : St} (hd : s.done = true) (he : s.v.ends = true) (hg : s.g.done = true) [t1 : Take L (some ⟨b, 0, none⟩) (AlO g u pb x slot gen n s) F1] : Fx Tryz.prog 42 [.pointer (some ⟨b, 0, none⟩)] L (fun v L' => v = .slice none 0 0 ∧ L = L') := by
  refine Fx.kept (t := t1) ?_
  refine Fx.mk Tryz.func42 k42 (Nat.le_of_ble_eq_true rfl) ?_
  dsimp only [c42, envOf, Nat.reduceAdd]
  refine Cx.ent (Ent.of t1.out) ?_
  refine Cx.openp (a := some ⟨b, 0, none⟩) (AlO.dd_ hd) ?_
  rintro ⟨q, n1, n2, n3, tp⟩
  simp only [alDL, List.cons_append, List.nil_append]
  refine go ?_
  rw [he]
  refine go ?_
  refine Sx.ca rfl (giveHandD (b := q) (pb := pb) (k := x.pool) (p := s.g) hg) ?_
  rintro v L' ⟨rfl, rfl⟩
  refine go ?_
  exact Kr.one (.inr rfl) rfl (AlO.closeD (v := s.v) (rt := rtOf s.v.was) s hd rfl rfl rfl rfl) ⟨rfl, rfl⟩
end
end Go.Proofs.YtflalhdofhobmaaGreat

/-
  GrantStale's walk.
-/
set_option linter.unusedVariables false
set_option linter.unusedSimpArgs false
namespace Go.Proofs.YtflalhdofhobmaaGreat
open Go
attribute [local irreducible] Sx Cx Rx Fx Krg Ksq Kbl Klp Kr
section
variable {L F G : St}
set_option maxRecDepth 100000 in
set_option maxHeartbeats 8000000 in
theorem grantStale (n at_ size : Int) : Fx Tryz.prog 7 [.int .i64 n, .int .i64 at_, .int .i64 size] L (fun v L' => v = .bool true ∧ Ent L' L) := by
  refine Fx.mk Tryz.func7 k7 (Nat.le_of_ble_eq_true rfl) ?_
  dsimp only [c7, envOf, Nat.reduceAdd]
  refine go ?_
  refine Sx.ca rfl grFirst ?_
  rintro v L' ⟨rfl, rfl⟩
  refine go ?_
  refine Sx.ca rfl (config_ n) ?_
  rintro v L' ⟨⟨w', c, wd, sl, ca, ba, rfl, hsm⟩, rfl⟩
  obtain ⟨x0, hxv, hx0, hca, hc8, hba, hw4, h16, _⟩ := small_cfg2 hsm
  rw [hxv]
  clear hxv hsm
  clear w' c wd sl ca ba
  refine Sx.al fun gb => ?_
  refine Sx.st (b := gb) rfl rfl rfl rfl rfl rfl ?_
  refine Sx.re [.int .i64 x0.w, .int .i64 x0.c, .int .i64 x0.wd, .int .i64 x0.sl, .int .i64 x0.ca, .int .i64 x0.ba] rfl ?_
  obtain ⟨x, hxe⟩ : ∃ x : Cn, x = ⟨x0.w, x0.c, x0.wd, x0.sl, 64, 1⟩ := ⟨_, rfl⟩
  have hx : x.ok := by
    obtain ⟨b1, b2, b3, b4, b5, b6, b7⟩ := show MayC (x0.w : Int) x0.c x0.wd x0.sl x0.ca x0.ba from hx0
    rw [hxe]
    exact ⟨b1, b2, b3, b4, b5, by show (0 : Int) ≤ ((64 : Nat) : Int) ∧ ((64 : Nat) : Int) ≤ 64; omega, by show (1 : Int) ≤ ((1 : Nat) : Int) ∧ ((1 : Nat) : Int) ≤ 8; omega⟩
  have exw : x0.w = x.w := by rw [hxe]
  have exc : x0.c = x.c := by rw [hxe]
  have exd : x0.wd = x.wd := by rw [hxe]
  have exs : x0.sl = x.sl := by rw [hxe]
  have exa : x.ca = 64 := by rw [hxe]
  have exb : x.ba = 1 := by rw [hxe]
  rw [exw, exc, exd, exs]
  have hv' : x.v = .agg #[.int .i64 x.w, .int .i64 x.c, .int .i64 x.wd, .int .i64 x.sl, .int .i64 64, .int .i64 1] := by
    show cfg _ _ _ _ _ _ = _
    rw [exa, exb]; rfl
  have hx' := hx
  obtain ⟨b1, b2, b3, b4, b5, b6, b7⟩ := hx'.b
  have hlen := hx.len_le
  have hw8 := hx.w8
  refine go ?_
  refine Sx.ca (vs := [x.v]) (by rw [hv']; rfl) (grMade hx) ?_
  rintro v L' ⟨nn, r, r2, c, c2, Q, rfl, rfl⟩
  refine Sx.ent grF_out ?_
  refine Sx.re [.int .i64 x.w, .int .i64 x.c, .int .i64 x.wd, .int .i64 x.sl, .int .i64 64, .int .i64 1] rfl ?_
  dsimp only [grF]
  have hw16 : x.wd ≤ 16 := by rw [← exd]; exact h16
  obtain ⟨M, hM, hMn, hml, hmo, hpo, hrt, hoth, hsp, hgen⟩ := region0 hx 0 (by omega)
  refine go ?_
  have gr := grRegion (x := x) (n := nn) (r := some ⟨r, 0, none⟩) (r2 := some ⟨r2, 0, none⟩) (k := 3) (c := c) (c2 := c2) (m := allM x) (s := 0) (l := (iotaI x.sl).tail)
    (G := pt (some ⟨gb, 0, none⟩) (Blk 24 [.int .i64 x.w, .int .i64 x.c, .int .i64 x.wd, .int .i64 x.sl, .int .i64 64, .int .i64 1]) :: pt (some ⟨r, 0, none⟩) (Row 47 1 3 c (ptrs 3 fun i => (Q i).u)) :: pt (some ⟨(Q 0).u, 0, none⟩) (SupO nn.mp (Q 0).pb x (SupS.nil x.ca)) :: pt (some ⟨(Q 0).pb, 0, none⟩) (SkO nn.mp x.pool) ::
      pt (some ⟨nn.g, 0, none⟩) (GrO nn.mp x) :: pt (some ⟨nn.pb, 0, none⟩) (SkO nn.mp x.pool) :: L) 0 (by omega) hx (allM_len x) (allM_ok hx) hsp
  rw [hM, hgen] at gr
  refine Sx.ent ?_ (Sx.ca rfl gr ?_)
  · refine Ent.trans (Ent.ith 0 (by omega)) ?_
    simp only [whoL, List.cons_append, List.nil_append]
    exact entm
  rintro v L' ⟨rfl, rfl⟩
  refine go ?_
  have hz1 := Int.emod_nonneg size (show (x.wd : Int) ≠ 0 by omega)
  have hz2 := Int.emod_lt_of_pos size (show (0 : Int) < (x.wd : Int) by omega)
  obtain ⟨sz, hsz⟩ : ∃ sz : Nat, 1 + size % (x.wd : Int) = sz := ⟨(1 + size % (x.wd : Int)).toNat, by omega⟩
  refine Cx.ordc rfl (by kernel_rfl) ?_
  refine ge ?_
  refine Ev.ldrH (b := r) (v := .pointer (some ⟨(Q 0).u, 0, none⟩)) (by kernel_rfl) rfl rfl (ptrs_get (U := fun i => (Q i).u) (show 0 < 3 by omega)) ?_
  refine ge ?_
  refine Ev.cakH (by kernel_rfl) rfl rfl (number size (x.wd : Int) (by omega) (by omega)) ?_
  refine ge ?_
  rw [w64 (n := 1 + size % (x.wd : Int)) (by omega) (by omega), hsz]
  refine Ev.caH (by kernel_rfl) rfl rfl (grantAlloc (g := nn.g) (u := (Q 0).u) (mp := nn.mp) (pb := (Q 0).pb) (x := x) 0 1 sz (by omega) (by omega) (by omega)) (Pres.deps (by kernel_rfl)) ?_
  rintro v L' ⟨b, rfl, rfl⟩
  refine ge ?_
  refine go ?_
  rw [w64 (n := (x.wd : Int) + 8) (by omega) (by omega)]
  refine Sx.ca rfl (number at_ ((x.wd : Int) + 8) (by omega) (by omega)) ?_
  rintro v L' ⟨rfl, rfl⟩
  have hk1 := Int.emod_nonneg at_ (show (x.wd : Int) + 8 ≠ 0 by omega)
  have hk2 := Int.emod_lt_of_pos at_ (show (0 : Int) < (x.wd : Int) + 8 by omega)
  obtain ⟨k, hk⟩ : ∃ k : Nat, at_ % ((x.wd : Int) + 8) = k := ⟨(at_ % ((x.wd : Int) + 8)).toNat, by omega⟩
  rw [hk]
  obtain ⟨W, hW, hlive, hWg, hWl, hWm, hgood, hlaw⟩ := al_stale_law (x := x) (m := M) (sz := sz) (k := k) hx hml hmo hrt hpo exb exa hw8 hw16 (by omega) (by omega)
  refine go ?_
  obtain ⟨p, hpe⟩ : ∃ p, x.al 0 1 sz = p := ⟨_, rfl⟩
  obtain ⟨R0, hR0⟩ : ∃ R0, alR M (SupS.nil x.ca) = R0 := ⟨_, rfl⟩
  rw [hpe, hR0] at hW hgood hlaw
  refine Cx.lp (α := {j : Nat // j ≤ k}) (fun j => [(7, .bool true), (8, .pointer (some ⟨gb, 0, none⟩)), (9, .pointer (some ⟨nn.a, 0, none⟩)), (10, .int .i64 ((0 : Nat) : Int)), (11, .int .i64 ((1 : Nat) : Int)), (13, .pointer (some ⟨b, 0, none⟩)), (15, .int .i64 (k : Nat)), (16, .int .i64 (j.1 : Nat))])
    (fun j => pt (some ⟨b, 0, none⟩) (AlO nn.g (Q 0).u (Q 0).pb x 0 1 sz (alIt p j.1 R0).2.2) :: agF x nn r (some ⟨r2, 0, none⟩) 3 c c2 Q 0 (alIt p j.1 R0).2.1 (alIt p j.1 R0).1 (pt (some ⟨gb, 0, none⟩) (Blk 24 [.int .i64 x.w, .int .i64 x.c, .int .i64 x.wd, .int .i64 x.sl, .int .i64 64, .int .i64 1]) :: pt (some ⟨nn.ro, 0, none⟩) (RoO nn.mp nn.sp x) :: pt (some ⟨nn.pb, 0, none⟩) (SkO nn.mp x.pool) :: L))
    (fun j => k - j.1) ⟨0, Nat.zero_le _⟩ (sub.cons rfl (sub.cons rfl (sub.cons rfl (sub.cons rfl (sub.cons rfl (sub.cons rfl (sub.cons rfl (sub.cons rfl sub.nil)))))))) ?_ ?_
  · subst hpe hR0
    dsimp only [agF, alIt]
    exact ent
  rintro ⟨i, hi⟩
  dsimp only [agF]
  refine go ?_
  refine Cx.ifp rfl (fun h => ?_) (fun h => ?_)
  · skip
    obtain ⟨g1, g2, g3, g4, g5, g6, g7⟩ := hgood i
    refine go ?_
    refine Sx.ca rfl (alStepC (b := b) (g := nn.g) (u := (Q 0).u) (mp := nn.mp) (pb := (Q 0).pb) (x := x) (slot := 0) (gen := 1) (n := sz) (S := (alIt p i R0).2.1) (m := (alIt p i R0).1) (a := (alIt p i R0).2.2) hx (by omega) (by omega) (by omega) (by omega) hw8 g3 (by omega) g5 g6 g7) ?_
    rintro v L' ⟨rfl, rfl⟩
    rw [hpe]
    refine go ?_
    rw [w64 (n := (i : Int) + 1) (by omega) (by omega)]
    refine Klp.nm ⟨i + 1, by omega⟩ (sub.cons rfl (sub.cons rfl (sub.cons rfl (sub.cons rfl (sub.cons rfl (sub.cons rfl (sub.cons rfl (sub.cons rfl sub.nil)))))))) ?_ (by dsimp only; omega)
    dsimp only [agF, alIt]
    exact ent
  obtain rfl : k = i := by omega
  obtain ⟨g1, g2, g3, g4, g5, g6, g7⟩ := hgood k
  refine go ?_
  refine Sx.ca rfl (alDoneQ (b := b) (g := nn.g) (u := (Q 0).u) (pb := (Q 0).pb) (x := x) (slot := 0) (gen := 1) (n := sz) (s := (alIt p k R0).2.2) (fun hd => (g7 hd).o0)) ?_
  rintro v L' ⟨rfl, rfl⟩
  refine go ?_
  refine Sx.ca rfl (rootsEnd (g := nn.ro) (mp := nn.mp) (sb := nn.sp) (x := x) 0 1 (by omega)) ?_
  rintro v L' ⟨d, rfl, rfl⟩
  refine go ?_
  have E1 : endStep (x.root + 0) 1 (alIt p k R0).1 EndS.init = (⟨1, 1, W, 0, -1, 0, false⟩, (alIt p k R0).1.tick) := by
    unfold endStep
    simp only [EndS.init, Bool.false_eq_true, if_false]
    rw [hW, if_pos hlive]
  have hW2 : (alIt p k R0).1.tick.at_ (x.root + 0) = W := hW
  have E2 : endStep (x.root + 0) 1 (alIt p k R0).1.tick ⟨1, 1, W, 0, -1, 0, false⟩ = (⟨1, 2, W, 0, (rtOf W).chunk, 2, true⟩, (alIt p k R0).1.tick.put (x.root + 0) (Rt.w ⟨1, 0, 0, 0⟩)) := by
    unfold endStep
    simp only [Bool.false_eq_true, if_false]
    unfold Mm.cas
    rw [if_pos hW2, if_pos hW2, hWg]
  refine Sx.ca rfl (endStepC (b := d) (r := nn.ro) (mp := nn.mp) (sp := nn.sp) (slot := 0) (gen := 1) (x := x) (m := (alIt p k R0).1) (e := EndS.init) hx (by omega) (by omega) EndS.ok_init) ?_
  rintro v L' ⟨rfl, rfl⟩
  rw [E1]
  refine go ?_
  refine Sx.ca rfl (endStepC (b := d) (r := nn.ro) (mp := nn.mp) (sp := nn.sp) (slot := 0) (gen := 1) (x := x) (m := (alIt p k R0).1.tick) (e := ⟨1, 1, W, 0, -1, 0, false⟩) hx (by show x.len ≤ (alIt p k R0).1.ws.length; omega) (by omega) ⟨by show 1 ≤ 1; omega, hWl, fun _ => hWm, by show 1 ≤ 1000000; omega⟩) ?_
  rintro v L' ⟨rfl, rfl⟩
  rw [E2]
  refine go ?_
  refine Sx.ca rfl (endDone (b := d) (r := nn.ro) (slot := 0) (gen := 1) (e := ⟨1, 2, W, 0, (rtOf W).chunk, 2, true⟩) (by show 1 ≤ 1; omega)) ?_
  rintro v L' ⟨rfl, rfl⟩
  refine go ?_
  refine Sx.ca rfl (endCode (b := d) (r := nn.ro) (slot := 0) (gen := 1) (e := ⟨1, 2, W, 0, (rtOf W).chunk, 2, true⟩) rfl) ?_
  rintro v L' ⟨rfl, rfl⟩
  refine go ?_
  obtain ⟨m2, hm2⟩ : ∃ m2, (alIt p k R0).1.tick.put (x.root + 0) (Rt.w ⟨1, 0, 0, 0⟩) = m2 := ⟨_, rfl⟩
  have ho : Off (x.root + 0) (Rt.w ⟨1, 0, 0, 0⟩) (alIt p k R0).1 m2 := by rw [← hm2]; exact (rfl : _ = _)
  rw [hm2]
  obtain ⟨Z, hZ, hgood2, z1, z2, z3, hz⟩ := hlaw m2 ho
  obtain ⟨R1, hR1⟩ : ∃ R1, (m2, (alIt p k R0).2) = R1 := ⟨_, rfl⟩
  rw [hR1] at hZ hgood2
  refine Cx.lp (α := {j : Nat // j ≤ 60}) (fun j => [(7, .bool true), (8, .pointer (some ⟨gb, 0, none⟩)), (9, .pointer (some ⟨nn.a, 0, none⟩)), (13, .pointer (some ⟨b, 0, none⟩)), (15, .int .i64 (k : Nat)), (17, .bool (alIt p k R0).2.2.done), (18, .pointer (some ⟨d, 0, none⟩)), (20, .int .i64 (j.1 : Nat))])
    (fun j => pt (some ⟨b, 0, none⟩) (AlO nn.g (Q 0).u (Q 0).pb x 0 1 sz (alIt p j.1 R1).2.2) :: pt (some ⟨d, 0, none⟩) (EndO nn.ro 0 1 ⟨1, 2, W, 0, (rtOf W).chunk, 2, true⟩) :: agF x nn r (some ⟨r2, 0, none⟩) 3 c c2 Q 0 (alIt p j.1 R1).2.1 (alIt p j.1 R1).1 (pt (some ⟨gb, 0, none⟩) (Blk 24 [.int .i64 x.w, .int .i64 x.c, .int .i64 x.wd, .int .i64 x.sl, .int .i64 64, .int .i64 1]) :: pt (some ⟨nn.ro, 0, none⟩) (RoO nn.mp nn.sp x) :: pt (some ⟨nn.pb, 0, none⟩) (SkO nn.mp x.pool) :: L))
    (fun j => 60 - j.1) ⟨0, Nat.zero_le _⟩ (sub.cons rfl (sub.cons rfl (sub.cons rfl (sub.cons rfl (sub.cons rfl (sub.cons rfl (sub.cons rfl (sub.cons rfl sub.nil)))))))) ?_ ?_
  · subst hR1
    dsimp only [agF, alIt]
    refine Ent.trans (Ent.take (a := some ⟨b, 0, none⟩)) (Ent.cons ?_)
    exact ent
  rintro ⟨i, hi⟩
  dsimp only [agF]
  refine go ?_
  refine Cx.ifp rfl (fun h => ?_) (fun h => ?_)
  · skip
    obtain ⟨g1, g2, g3, g4, g5, g6, g7⟩ := hgood2 i
    refine go ?_
    refine Sx.ca rfl (alStepC (b := b) (g := nn.g) (u := (Q 0).u) (mp := nn.mp) (pb := (Q 0).pb) (x := x) (slot := 0) (gen := 1) (n := sz) (S := (alIt p i R1).2.1) (m := (alIt p i R1).1) (a := (alIt p i R1).2.2) hx (by omega) (by omega) (by omega) (by omega) hw8 g3 (by omega) g5 g6 g7) ?_
    rintro v L' ⟨rfl, rfl⟩
    rw [hpe]
    refine go ?_
    rw [w64 (n := (i : Int) + 1) (by omega) (by omega)]
    refine Klp.nm ⟨i + 1, by omega⟩ (sub.cons rfl (sub.cons rfl (sub.cons rfl (sub.cons rfl (sub.cons rfl (sub.cons rfl (sub.cons rfl (sub.cons rfl sub.nil)))))))) ?_ (by dsimp only; omega)
    dsimp only [agF, alIt]
    exact ent
  obtain rfl : i = 60 := by omega
  rw [hZ]
  refine go ?_
  refine Sx.ca rfl (alDone (b := b) (g := nn.g) (u := (Q 0).u) (pb := (Q 0).pb) (x := x) (slot := 0) (gen := 1) (n := sz) (s := Z.2.2) z1) ?_
  rintro v L' ⟨rfl, rfl⟩
  refine go ?_
  refine Sx.ca rfl (alHandDone (b := b) (g := nn.g) (u := (Q 0).u) (pb := (Q 0).pb) (x := x) (slot := 0) (gen := 1) (n := sz) (s := Z.2.2) z1 z2 z3) ?_
  rintro v L' ⟨rfl, rfl⟩
  refine go ?_
  rcases hz with ⟨w1, w2, w3⟩ | ⟨w1, w2, w3, w4, l2, w5, w6, w7⟩
  · rw [w1]
    refine go ?_
    refine Sx.ca rfl (alCode (b := b) (g := nn.g) (u := (Q 0).u) (pb := (Q 0).pb) (x := x) (slot := 0) (gen := 1) (n := sz) (s := Z.2.2) z1) ?_
    rintro v L' ⟨rfl, rfl⟩
    rw [w2]
    refine go ?_
    refine Sx.ca rfl (endChunk (b := d) (r := nn.ro) (slot := 0) (gen := 1) (e := ⟨1, 2, W, 0, (rtOf W).chunk, 2, true⟩) rfl) ?_
    rintro v L' ⟨rfl, rfl⟩
    refine go ?_
    refine Sx.ca rfl (alObject (b := b) (g := nn.g) (u := (Q 0).u) (pb := (Q 0).pb) (x := x) (slot := 0) (gen := 1) (n := sz) (s := Z.2.2) z1) ?_
    rintro v L' ⟨rfl, rfl⟩
    refine go ?_
    refine Kr.one (.inr rfl) rfl (Ent.refl _) ⟨by rw [decide_eq_true w3.symm], ?_⟩
    exact entm
  · rw [w1]
    refine gg ?_
    refine Sx.ldr (b := r) rfl (v := .pointer (some ⟨(Q 0).u, 0, none⟩)) (ptrs_get (U := fun i => (Q i).u) (show 0 < 3 by omega)) ?_
    obtain ⟨g1, g2, g3, g4, g5, g6, g7⟩ := hgood2 60
    rw [hZ] at g1 g2 g3 g4 g5 g6 g7
    refine go ?_
    refine Sx.ca rfl (supStash (u := (Q 0).u) (mp := nn.mp) (pb := (Q 0).pb) (x := x) (s := Z.2.1) (by omega)) ?_
    rintro v L' ⟨sa2, sc2, rfl, rfl⟩
    refine go ?_
    refine Cx.ordc rfl (by kernel_rfl) ?_
    refine ge ?_
    refine Ev.yes 157 rfl rfl ?_
    refine ge ?_
    refine Ev.cakH (by kernel_rfl) rfl rfl (alCode (b := b) (g := nn.g) (u := (Q 0).u) (pb := (Q 0).pb) (x := x) (slot := 0) (gen := 1) (n := sz) (s := Z.2.2) z1) ?_
    rw [w2]
    refine ge ?_
    refine Ev.yes 162 rfl rfl ?_
    refine ge ?_
    refine Ev.cakH (by kernel_rfl) rfl rfl (alObject (b := b) (g := nn.g) (u := (Q 0).u) (pb := (Q 0).pb) (x := x) (slot := 0) (gen := 1) (n := sz) (s := Z.2.2) z1) ?_
    rw [w3]
    refine ge ?_
    refine Ev.yes 168 rfl rfl ?_
    refine ge ?_
    refine Ev.cakH (by kernel_rfl) rfl rfl (endChunk (b := d) (r := nn.ro) (slot := 0) (gen := 1) (e := ⟨1, 2, W, 0, (rtOf W).chunk, 2, true⟩) rfl) ?_
    rw [w4]
    refine ge ?_
    iterate 2 (refine Ev.bring 3 rfl ?_; refine ge ?_)
    refine Ev.caH (by kernel_rfl) rfl rfl (stackList (sb := nn.pb) (mp := nn.mp) (k := x.pool) (m := Z.1) (hx.pool (by omega) (by omega))) (.keep (fun v L' ⟨_, _, _, e⟩ => by subst e; exact Has.cell rfl) (Pres.deps (by kernel_rfl))) ?_
    rw [list_pool w5]
    rintro v L' ⟨ro, co, rfl, rfl⟩
    refine ge ?_
    rw [w64 (n := (Z.2.1.xs.length : Int) + l2.length) (by omega) (by omega)]
    refine Ev.yes 186 rfl (decide_eq_true (by omega)) ?_
    refine ge ?_
    by_cases h4 : k < 4
    · refine Ev.yes 189 rfl (decide_eq_true (by omega)) ?_
      refine ge ?_
      refine go ?_
      refine Kr.one (.inr rfl) rfl (Ent.refl _) ⟨rfl, ?_⟩
      exact ent
    · refine Ev.no 189 rfl (decide_eq_false (by omega)) ?_
      refine ge ?_
      refine go ?_
      have h1 := w7 (by omega)
      refine Kr.one (.inr rfl) rfl (Ent.refl _) ⟨by rw [decide_eq_true (show (Z.2.1.xs.length : Int) = 1 by omega)], ?_⟩
      exact ent
end
end Go.Proofs.YtflalhdofhobmaaGreat
