/-
  Parts of the proof, merged: what the statement leans on.
-/
import Derived.Deep.Slices
import Derived.Deep.Fields
import Derived.Test.YtflalhdofhobmaaGreatZHbE
/-
  Two memories that agree on some cells: what goes on by these goes on alike.
-/
set_option linter.unusedVariables false
set_option linter.unusedSimpArgs false
namespace Go.Proofs.YtflalhdofhobmaaGreat
structure Agree (A : Nat → Prop) (m m2 : Mm) : Prop where
  len : m2.ws.length = m.ws.length
  n : m2.n = m.n
  at_ : ∀ a, A a → m2.at_ a = m.at_ a
theorem Agree.refl (A : Nat → Prop) (m : Mm) : Agree A m m := ⟨rfl, rfl, fun _ _ => rfl⟩
theorem Agree.tick {A : Nat → Prop} {m m2 : Mm} (h : Agree A m m2) : Agree A m.tick m2.tick := ⟨h.len, congrArg (· + 1) h.n, h.at_⟩
theorem Agree.put {A : Nat → Prop} {m m2 : Mm} (h : Agree A m m2) {i v : Nat} (hi : i < m.ws.length) : Agree A (m.put i v) (m2.put i v) := by
  refine ⟨by rw [Mm.len_put, Mm.len_put, h.len], congrArg (· + 1) h.n, fun a ha => ?_⟩
  rw [Mm.at_put _ (by rw [h.len]; exact hi), Mm.at_put _ hi, h.at_ a ha]
theorem Agree.cas {A : Nat → Prop} {m m2 : Mm} (h : Agree A m m2) {i o v : Nat} (hi : i < m.ws.length) (ha : A i) : Agree A (m.cas i o v) (m2.cas i o v) := by
  unfold Mm.cas
  rw [h.at_ i ha]
  split
  · exact h.put hi
  · exact h.tick
/-- The cells of a stack are among them. -/
structure Covers (A : Nat → Prop) (k : Sk) : Prop where
  h : A k.head
  l : ∀ i, i < k.n → A (k.links + i)
/-- What holds of a Take as it goes on. -/
structure TkOk (k : Sk) (len : Nat) (r : Mm × SupS × TakeS) : Prop where
  m : r.1.ok
  l : r.1.ws.length = len
  t : r.2.2.ok
  q : r.2.2.done = false → r.2.2.at_ = 1 → r.2.2.q.ok k
theorem popStep_mok {k : Sk} {m : Mm} {q : PopS} (hm : m.ok) (hq : q.ok k) (hn : k.n ≤ 4096) : (popStep k m q).2.ok := by
  have hu := hq.u2
  unfold popStep
  (repeat' split) <;> first | exact hm | exact Mm.ok_tick hm | exact Mm.ok_cas hm (nextW_lt hq.w (by omega))
theorem TkOk.step {k : Sk} {ba : Int} {len : Nat} {r : Mm × SupS × TakeS} (hk : k.ok len) (h : TkOk k len r) : TkOk k len (takeStep k ba r.1 r.2.1 r.2.2) := by
  obtain ⟨m, s, t⟩ := r
  have hm := h.m
  have hl := h.l
  simp only at hm hl ⊢
  refine ⟨?_, by rw [takeStep_len]; exact hl, takeStep_ok h.t, ?_⟩
  · unfold takeStep
    split
    · exact hm
    · rename_i hd
      split
      · dsimp only; split <;> exact hm
      · rename_i hne
        have ha := h.t.a
        have := popStep_mok (k := k) (q := t.q) hm (h.q (by simpa using hd) (by simp only at ha; have : t.at_ ≠ 0 := hne; simp only; omega)) hk.n2
        dsimp only; split <;> exact this
  · unfold takeStep
    split
    · exact h.q
    · rename_i hd
      split
      · dsimp only
        split
        · rename_i r' hr
          unfold keepT at hr
          split at hr
          · cases hr
          · cases hr; intro h; cases h
        · exact fun _ _ => PopS.ok_init hk.n1 ba
      · rename_i hne
        have ha := h.t.a
        have hq := popStep_ok (m := m) hk hm (h.q (by simpa using hd) (by simp only at ha; have : t.at_ ≠ 0 := hne; simp only; omega))
        dsimp only
        split
        · intro h
          unfold popped at h
          split at h <;> cases h
        · exact fun _ _ => hq
theorem TkOk.init {k : Sk} {ba : Int} {m : Mm} {s : SupS} (hk : k.ok m.ws.length) (hm : m.ok) : TkOk k m.ws.length (m, takeInit ba s) := by
  refine ⟨hm, rfl, takeInit_ok, ?_⟩
  unfold takeInit keepT
  split
  · rename_i r hr
    split at hr
    · cases hr
    · cases hr; intro h; cases h
  · split
    · intro _ h; cases h
    · exact fun _ _ => PopS.ok_init hk.n1 ba
theorem TkOk.it {k : Sk} {ba : Int} {len : Nat} {r : Mm × SupS × TakeS} (hk : k.ok len) (h : TkOk k len r) : ∀ j, TkOk k len (tkIt k ba j r)
  | 0 => h
  | j + 1 => (TkOk.it hk h j).step hk
def SupS.size (s : SupS) : Nat := s.xs.length + s.lm.size
end Go.Proofs.YtflalhdofhobmaaGreat

/-
  An Alloc alone.
-/
set_option linter.unusedVariables false
set_option linter.unusedSimpArgs false
namespace Go.Proofs.YtflalhdofhobmaaGreat
/-- What holds of an Alloc alone behind each step. -/
structure AlGood (x : Cn) (slot : Nat) (r : Mm × SupS × AlS) : Prop where
  l : r.1.ws.length = x.len
  m : r.1.ok
  k : (rtOf (r.1.at_ (x.root + slot))).ok
  s : r.2.1.xs.length + r.2.1.lm.size ≤ 1000
  m0 : 0 ≤ r.2.1.most
  m2 : r.2.1.most ≤ 64
  a : r.2.2.done = false → AlOk x r.2.2
structure AlRun (x : Cn) (p : AlP) (r : Mm × SupS × AlS) (N : Nat) : Prop where
  good : ∀ j, j ≤ N → AlGood x p.slot (alIt p j r)
  nd : ∀ j, j < N → (alIt p j r).2.2.done = false
  d : (alIt p N r).2.2.done = true
theorem giveInit_nil (k : Sk) : giveInit k [] = PushS.init [] := giveInit_yes ⟨List.nodup_nil, fun _ h => (by cases h)⟩
theorem alClose_none {k : Sk} {S : SupS} {v : AlV} {t : TakeS} {code : Nat} {o : Hd} (hh : v.hand = -1) (hs : (S.xs.length : Int) ≤ S.most) :
    alClose k S v t code o = (S, ⟨6, { v with code := code, obj := o, point := v.cnt, ends := true, hand := -1 }, t, PushS.init [], true⟩) := by
  unfold alClose
  rw [if_neg (by omega)]
  have h0 : overK S.most S.xs = 0 := by unfold overK; omega
  simp only [h0, List.take_zero, List.drop_zero, giveInit_nil]
  simp [PushS.init]
section
variable {x : Cn} {slot : Nat} {gen : Int} {n : Nat} {m : Mm} {S : SupS}
abbrev alR (m : Mm) (S : SupS) : Mm × SupS × AlS := (m, S, AlS.init)
theorem good0 (hl : m.ws.length = x.len) (hm : m.ok) (hk : (rtOf (m.at_ (x.root + slot))).ok) (hs : S.xs.length + S.lm.size ≤ 1000) (hm0 : 0 ≤ S.most) (hm2 : S.most ≤ 64) : AlGood x slot (alR m S) :=
  ⟨hl, hm, hk, hs, hm0, hm2, fun _ => ⟨by show 0 ≤ 6; omega, by show 0 ≤ 1000000; omega, by show (-1 : Int) ≤ -1; omega, by show (-1 : Int) < x.c; omega, rt_zero_ok, (fun h => by cases h), (fun h => by cases h), (fun h => by rcases h with h | h | h <;> cases h), (fun h => by cases h), (fun h => by cases h)⟩⟩
/-- There are words left in the newest chunk. -/
theorem al_fit (hl : m.ws.length = x.len) (hm : m.ok) (hsl : slot < x.sl) (hk : (rtOf (m.at_ (x.root + slot))).ok) (hs : S.xs.length + S.lm.size ≤ 1000) (hm0 : 0 ≤ S.most) (hm2 : S.most ≤ 64) (hx0 : (S.xs.length : Int) ≤ S.most) (hwd : x.wd ≤ 1024) (hlv : (rtOf (m.at_ (x.root + slot))).live gen)
    (need : Nat) (hneed : roundS (rtOf (m.at_ (x.root + slot))).cl n = need) (hmk : 2 ≤ (rtOf (m.at_ (x.root + slot))).mrk) (hf : fitsS x.wd (rtOf (m.at_ (x.root + slot))).off need) :
    alIt (x.al slot gen n) 2 (alR m S) = (m.tick.put (x.root + slot) (Rt.w ⟨(rtOf (m.at_ (x.root + slot))).gen, (rtOf (m.at_ (x.root + slot))).mrk, (rtOf (m.at_ (x.root + slot))).cl, (rtOf (m.at_ (x.root + slot))).off + need⟩), S,
      ⟨6, ⟨2, -1, 0, false, true, need, 2, m.at_ (x.root + slot), 0, ⟨slot, gen, (rtOf (m.at_ (x.root + slot))).chunk, (rtOf (m.at_ (x.root + slot))).off, n⟩⟩, TakeS.zero, PushS.init [], true⟩) ∧ AlRun x (x.al slot gen n) (alR m S) 2 := by
  have hsz : x.root + x.sl ≤ x.len := by unfold Cn.root Cn.len; omega
  obtain ⟨W, hW⟩ : ∃ W, m.at_ (x.root + slot) = W := ⟨_, rfl⟩
  have hk' := hk
  rw [hW] at hk hlv hneed hmk hf ⊢
  have e1 : alIt (x.al slot gen n) 1 (alR m S) = (m.tick, S, ⟨1, ⟨1, -1, 0, false, false, need, 0, W, 0, Hd.zero⟩, TakeS.zero, gNone, false⟩) := by
    show (m.tick, alSeen (x.al slot gen n) S { AlV.init with cnt := 1, was := m.at_ (x.root + slot) } TakeS.zero) = _
    rw [hW]
    unfold alSeen
    rw [if_pos hlv]
    dsimp only
    rw [hneed, if_pos ⟨hmk, hf⟩]
    rfl
  have hat : m.tick.at_ (x.root + slot) = W := hW
  have hR : Rt.ok ⟨(rtOf W).gen, (rtOf W).mrk, (rtOf W).cl, (rtOf W).off + need⟩ := ⟨hk.g, hk.m, hk.c, by have := hf.2; show (rtOf W).off + need ≤ 1024; omega⟩
  have e2 : alIt (x.al slot gen n) 2 (alR m S) = (m.tick.put (x.root + slot) (Rt.w ⟨(rtOf W).gen, (rtOf W).mrk, (rtOf W).cl, (rtOf W).off + need⟩), S,
      ⟨6, ⟨2, -1, 0, false, true, need, 2, W, 0, ⟨slot, gen, (rtOf W).chunk, (rtOf W).off, n⟩⟩, TakeS.zero, PushS.init [], true⟩) := by
    show alStep (x.al slot gen n) (alIt (x.al slot gen n) 1 (alR m S)).1 (alIt (x.al slot gen n) 1 (alR m S)).2.1 (alIt (x.al slot gen n) 1 (alR m S)).2.2 = _
    rw [e1]
    unfold alStep
    simp only [Bool.false_eq_true, if_false]
    rw [if_pos hat, alClose_none rfl hx0]
  refine ⟨e2, fun j hj => ?_, fun j hj => ?_, by rw [e2]⟩
  · rcases (show j = 0 ∨ j = 1 ∨ j = 2 by omega) with rfl | rfl | rfl
    · exact good0 hl hm hk' hs hm0 hm2
    · rw [e1]
      exact ⟨hl, hm, by show (rtOf (m.at_ (x.root + slot))).ok; rw [hW]; exact hk, hs, hm0, hm2, fun _ => ⟨by show 1 ≤ 6; omega, by show 1 ≤ 1000000; omega, by show (-1 : Int) ≤ -1; omega, by show (-1 : Int) < x.c; omega, hk, fun _ => hf.2, (fun h => by cases h), (fun h => by rcases h with h | h | h <;> cases h), (fun h => by cases h), (fun h => by cases h)⟩⟩
    · rw [e2]
      refine ⟨by rw [Mm.len_put]; exact hl, Mm.ok_put (Mm.ok_tick hm) (Rt.w_lt hR), ?_, hs, hm0, hm2, (fun h => by cases h)⟩
      show (rtOf ((m.tick.put (x.root + slot) _).at_ (x.root + slot))).ok
      rw [Mm.at_put _ (by show _ < m.ws.length; omega), if_pos rfl, rtOf_w hR]
      exact hR
  · rcases (show j = 0 ∨ j = 1 by omega) with rfl | rfl
    · rfl
    · rw [e1]
end
end Go.Proofs.YtflalhdofhobmaaGreat

/-
  An Alloc alone that takes a chunk, or finds none.
-/
set_option linter.unusedVariables false
set_option linter.unusedSimpArgs false
namespace Go.Proofs.YtflalhdofhobmaaGreat
/-- Words are nought, one by one. -/
def clrM (m : Mm) (a : Nat) : Nat → Mm
  | 0 => m
  | i + 1 => (clrM m a i).put (a + i) 0
theorem clrM_len (m : Mm) (a : Nat) : ∀ i, (clrM m a i).ws.length = m.ws.length
  | 0 => rfl
  | i + 1 => by show ((clrM m a i).put (a + i) 0).ws.length = _; rw [Mm.len_put]; exact clrM_len m a i
theorem clrM_ok {m : Mm} (h : m.ok) (a : Nat) : ∀ i, (clrM m a i).ok
  | 0 => h
  | i + 1 => Mm.ok_put (clrM_ok h a i) (by omega)
theorem clrM_at {m : Mm} {a : Nat} : ∀ {i : Nat}, a + i ≤ m.ws.length → ∀ b, (clrM m a i).at_ b = if a ≤ b ∧ b < a + i then 0 else m.at_ b
  | 0, _, b => by rw [if_neg (by omega)]; rfl
  | i + 1, h, b => by
    show ((clrM m a i).put (a + i) 0).at_ b = _
    rw [Mm.at_put _ (by rw [clrM_len]; omega), clrM_at (by omega) b]
    by_cases h1 : a + i = b
    · rw [if_pos h1, if_pos (by omega)]
    · rw [if_neg h1]
      by_cases h2 : a ≤ b ∧ b < a + i
      · rw [if_pos h2, if_pos (by omega)]
      · rw [if_neg h2, if_neg (by omega)]
section
variable {x : Cn} {slot : Nat} {gen : Int} {n : Nat} {m : Mm} {S : SupS}
def TakeS.ask1 : TakeS := ⟨1, 0, false, -1, PopS.init 1, false⟩
theorem takeInit_ask (hba : x.ba = 1) (hxs : S.xs = []) (hlm : S.lm.size = 0) : takeInit x.ba S = (S, TakeS.ask1) := by
  unfold takeInit keepT
  rw [if_pos hxs]
  dsimp only
  rw [if_neg (by omega), hba]
  rfl
/-- What the first look comes to where there is nothing left of the newest chunk. -/
theorem al_first (hba : x.ba = 1) (hxs : S.xs = []) (hlm : S.lm.size = 0) (hlv : (rtOf (m.at_ (x.root + slot))).live gen) (need : Nat) (hneed : roundS (rtOf (m.at_ (x.root + slot))).cl n = need) (hf : ¬ (2 ≤ (rtOf (m.at_ (x.root + slot))).mrk ∧ fitsS x.wd (rtOf (m.at_ (x.root + slot))).off need)) :
    alIt (x.al slot gen n) 1 (alR m S) = (m.tick, S, ⟨2, ⟨1, -1, 0, true, false, need, 0, m.at_ (x.root + slot), 0, Hd.zero⟩, TakeS.ask1, gNone, false⟩) := by
  show (m.tick, alSeen (x.al slot gen n) S { AlV.init with cnt := 1, was := m.at_ (x.root + slot) } TakeS.zero) = _
  unfold alSeen
  rw [if_pos hlv]
  dsimp only
  rw [hneed, if_neg hf, if_neg (by show ¬ (0 : Int) ≤ -1; omega), if_neg (by show ¬ false = true; decide), takeInit_ask hba hxs hlm, if_neg (by show ¬ false = true; decide)]
  rfl
/-- The pool is empty: there is none. -/
theorem al_none (hx : x.ok) (hl : m.ws.length = x.len) (hm : m.ok) (hsl : slot < x.sl) (hk : (rtOf (m.at_ (x.root + slot))).ok) (hs : S.xs.length + S.lm.size ≤ 1000) (hm0 : 0 ≤ S.most) (hm2 : S.most ≤ 64) (hba : x.ba = 1) (hxs : S.xs = []) (hlm : S.lm.size = 0)
    (hlv : (rtOf (m.at_ (x.root + slot))).live gen) (need : Nat) (hneed : roundS (rtOf (m.at_ (x.root + slot))).cl n = need) (hf : ¬ (2 ≤ (rtOf (m.at_ (x.root + slot))).mrk ∧ fitsS x.wd (rtOf (m.at_ (x.root + slot))).off need)) (hp : Pool x.pool m []) :
    ∃ t, alIt (x.al slot gen n) 3 (alR m S) = (m.tick.tick.tick, S, ⟨6, ⟨3, -1, 0, true, true, need, 3, m.at_ (x.root + slot), 6, Hd.zero⟩, t, PushS.init [], true⟩) ∧ AlRun x (x.al slot gen n) (alR m S) 3 := by
  have hwl := Mm.at_lt hm (x.root + slot)
  have e1 := al_first (x := x) (slot := slot) (gen := gen) (n := n) (m := m) (S := S) hba hxs hlm hlv need hneed hf
  obtain ⟨W, hW⟩ : ∃ W, m.at_ (x.root + slot) = W := ⟨_, rfl⟩
  have hk' := hk
  rw [hW] at hk hlv hneed hf hwl e1 ⊢
  have hx0 : (S.xs.length : Int) ≤ S.most := by rw [hxs]; exact hm0
  obtain ⟨Q, hQ⟩ : ∃ Q : PopS, Q = ⟨min (max 1 1) 8, 0, 0, m.tick.at_ x.pool.head, [], true⟩ := ⟨_, rfl⟩
  have hps : popStep x.pool m.tick (PopS.init 1) = (Q, m.tick.tick) := by
    have hp1 : Pool x.pool m.tick [] := ⟨hp.c.congr fun _ _ => rfl, hp.nd⟩
    rw [pop_none hp1 1, hQ]
  have hts : takeStep x.pool x.ba m.tick S TakeS.ask1 = (m.tick.tick, S, ⟨1, 0, false, -1, Q, true⟩) := by
    unfold takeStep TakeS.ask1
    simp only [Bool.false_eq_true, if_false]
    rw [hps]
    dsimp only
    rw [if_pos (by rw [hQ])]
    unfold popped
    rw [show (Q.got : List Int) = [] by rw [hQ]]
  have e2 : alIt (x.al slot gen n) 2 (alR m S) = (m.tick.tick, S, ⟨0, ⟨2, -1, 0, true, false, need, 0, W, 0, Hd.zero⟩, ⟨1, 0, false, -1, Q, true⟩, gNone, false⟩) := by
    show alStep (x.al slot gen n) (alIt (x.al slot gen n) 1 (alR m S)).1 (alIt (x.al slot gen n) 1 (alR m S)).2.1 (alIt (x.al slot gen n) 1 (alR m S)).2.2 = _
    rw [e1]
    unfold alStep
    simp only [Bool.false_eq_true, if_false]
    rw [hts]
    rfl
  have e3 : alIt (x.al slot gen n) 3 (alR m S) = (m.tick.tick.tick, S, ⟨6, ⟨3, -1, 0, true, true, need, 3, W, 6, Hd.zero⟩, ⟨1, 0, false, -1, Q, true⟩, PushS.init [], true⟩) := by
    show alStep (x.al slot gen n) (alIt (x.al slot gen n) 2 (alR m S)).1 (alIt (x.al slot gen n) 2 (alR m S)).2.1 (alIt (x.al slot gen n) 2 (alR m S)).2.2 = _
    rw [e2]
    unfold alStep
    simp only [Bool.false_eq_true, if_false]
    rw [show m.tick.tick.at_ (x.root + slot) = W from hW]
    unfold alSeen
    rw [if_pos hlv]
    dsimp only
    rw [hneed, if_neg hf, if_neg (by omega), if_pos rfl, alClose_none rfl hx0]
  refine ⟨_, e3, fun j hj => ?_, fun j hj => ?_, by rw [e3]⟩
  · rcases (show j = 0 ∨ j = 1 ∨ j = 2 ∨ j = 3 by omega) with rfl | rfl | rfl | rfl
    · exact good0 hl hm hk' hs hm0 hm2
    · rw [e1]
      exact ⟨hl, hm, hk', hs, hm0, hm2, fun _ => ⟨by show 2 ≤ 6; omega, by show 1 ≤ 1000000; omega, by show (-1 : Int) ≤ -1; omega, by show (-1 : Int) < x.c; omega, hk, (fun h => by cases h), (fun h => by cases h), (fun h => by rcases h with h | h | h <;> cases h), (fun h => by cases h), fun _ => ⟨by show 1 ≤ 1; omega, fun _ => ⟨rfl, rfl⟩⟩⟩⟩
    · rw [e2]
      exact ⟨hl, hm, hk', hs, hm0, hm2, fun _ => ⟨by show 0 ≤ 6; omega, by show 2 ≤ 1000000; omega, by show (-1 : Int) ≤ -1; omega, by show (-1 : Int) < x.c; omega, hk, (fun h => by cases h), (fun h => by cases h), (fun h => by rcases h with h | h | h <;> cases h), (fun h => by cases h), (fun h => by cases h)⟩⟩
    · rw [e3]
      exact ⟨hl, hm, hk', hs, hm0, hm2, fun h => (by cases h)⟩
  · rcases (show j = 0 ∨ j = 1 ∨ j = 2 by omega) with rfl | rfl | rfl
    · rfl
    · rw [e1]
    · rw [e2]
end
end Go.Proofs.YtflalhdofhobmaaGreat

/-
  An Alloc alone that takes a chunk out of the pool.
-/
set_option linter.unusedVariables false
set_option linter.unusedSimpArgs false
namespace Go.Proofs.YtflalhdofhobmaaGreat
section
variable {x : Cn} {slot : Nat} {gen : Int} {n : Nat} {m : Mm} {S : SupS}
theorem ok_mid {a need cnt was : Nat} {hand : Int} {zat : Nat} {t : TakeS} (ha : a = 3 ∨ a = 4 ∨ a = 5) (hc : cnt ≤ 1000000) (h1 : 0 ≤ hand) (h2 : hand < x.c) (hr : (rtOf was).ok) (hn1 : 1 ≤ need) (hn2 : need ≤ x.wd) (hz : a = 3 → zat < x.wd) :
    AlOk x ⟨a, ⟨cnt, hand, zat, true, false, need, 0, was, 0, Hd.zero⟩, t, gNone, false⟩ :=
  ⟨by show a ≤ 6; omega, hc, by show -1 ≤ hand; omega, h2, hr, fun h => absurd (show a = 1 from h) (by omega), fun _ => ⟨hn1, hn2⟩, fun _ => h1, hz, fun h => absurd (show a = 2 from h) (by omega)⟩
set_option maxHeartbeats 1000000 in
theorem al_new (hx : x.ok) (hl : m.ws.length = x.len) (hm : m.ok) (hsl : slot < x.sl) (hk : (rtOf (m.at_ (x.root + slot))).ok) (hs : S.xs.length + S.lm.size ≤ 1000) (hm0 : 0 ≤ S.most) (hm2 : S.most ≤ 64) (hba : x.ba = 1) (hxs : S.xs = []) (hlm : S.lm.size = 0) (hw8 : x.wd % 8 = 0) (hn : 1 ≤ n) (hnw : n ≤ x.wd)
    (hlv : (rtOf (m.at_ (x.root + slot))).live gen) (need : Nat) (hneed : roundS (rtOf (m.at_ (x.root + slot))).cl n = need) (hf : ¬ (2 ≤ (rtOf (m.at_ (x.root + slot))).mrk ∧ fitsS x.wd (rtOf (m.at_ (x.root + slot))).off need)) (y : Nat) (l : List Int) (hp : Pool x.pool m ((y : Int) :: l)) :
    ∃ M t, alIt (x.al slot gen n) (x.wd + 6) (alR m S) = (M, S, ⟨6, ⟨x.wd + 6, -1, x.wd, true, true, need, x.wd + 6, m.at_ (x.root + slot), 0, ⟨slot, gen, y, 0, n⟩⟩, t, PushS.init [], true⟩) ∧ AlRun x (x.al slot gen n) (alR m S) (x.wd + 6) ∧
      M.ws.length = x.len ∧ M.ok ∧ Pool x.pool M l ∧ M.at_ (x.root + slot) = Rt.w ⟨(rtOf (m.at_ (x.root + slot))).gen, 2 + y, (rtOf (m.at_ (x.root + slot))).cl, afterS x.wd need⟩ ∧
      (∀ a, a ≠ 0 → a ≠ x.link + y → a ≠ x.root + slot → ¬ (x.word + y * x.wd ≤ a ∧ a < x.word + y * x.wd + x.wd) → M.at_ a = m.at_ a) ∧ (∀ a, x.word + y * x.wd ≤ a → a < x.word + y * x.wd + x.wd → M.at_ a = 0) ∧
      (∀ j, j < 4 → (alIt (x.al slot gen n) j (alR m S)).2.2.v.hand = -1 ∧ (alIt (x.al slot gen n) j (alR m S)).2.1 = S ∧ Pool x.pool (alIt (x.al slot gen n) j (alR m S)).1 ((y : Int) :: l)) ∧
      (∀ j, 4 ≤ j → j < x.wd + 6 → (alIt (x.al slot gen n) j (alR m S)).2.2.v.hand = y ∧ (alIt (x.al slot gen n) j (alR m S)).2.1 = S ∧ Pool x.pool (alIt (x.al slot gen n) j (alR m S)).1 l) ∧
      (∀ j, j < x.wd + 6 → (alIt (x.al slot gen n) j (alR m S)).1.at_ (x.root + slot) = m.at_ (x.root + slot)) ∧
      (∀ j, 1 ≤ j → j < 4 → (alIt (x.al slot gen n) j (alR m S)).2.2.at_ = 2 ∧ (alIt (x.al slot gen n) j (alR m S)).2.2.t.at_ = 1 ∧ (alIt (x.al slot gen n) j (alR m S)).2.2.t.q.ok x.pool) ∧
      (∀ j, 4 ≤ j → j < x.wd + 5 → (alIt (x.al slot gen n) j (alR m S)).2.2.at_ = 3 ∨ (alIt (x.al slot gen n) j (alR m S)).2.2.at_ = 4) ∧
      (∃ T, (alIt (x.al slot gen n) (x.wd + 5) (alR m S)).2.2 = ⟨5, ⟨x.wd + 5, y, x.wd, true, false, need, 0, m.at_ (x.root + slot), 0, Hd.zero⟩, T, gNone, false⟩) := by
  have hlen := hx.len_le
  obtain ⟨b1, b2, b3, b4, b5, b6, b7⟩ := show MayC (x.w : Int) x.c x.wd x.sl x.ca x.ba from hx
  have hpk := hx.pool (n := m.ws.length) (by omega) (by omega)
  obtain ⟨_, hy0, hy1, hpc⟩ := hp.c
  have hyc : y < x.c := by have : (y : Int) < x.c := hy1; omega
  have hwl := Mm.at_lt hm (x.root + slot)
  have hwd : x.word + y * x.wd + x.wd ≤ x.len := by
    have := word_lt (x := x) (k := y) (j := x.wd - 1) hyc (by omega); omega
  have g1 : x.root + x.sl ≤ x.link := by unfold Cn.root Cn.link; omega
  have g2 : x.link + x.c = x.word := by unfold Cn.link Cn.word; omega
  have g3 : 3 ≤ x.root := by unfold Cn.root; omega
  have e1 := al_first (x := x) (slot := slot) (gen := gen) (n := n) (m := m) (S := S) hba hxs hlm hlv need hneed hf
  have hcl := hk.c
  obtain ⟨W, hW⟩ : ∃ W, m.at_ (x.root + slot) = W := ⟨_, rfl⟩
  have hk' := hk
  rw [hW] at hk hlv hneed hf hwl e1 hcl ⊢
  have hn1 : 1 ≤ need := by have := roundS_ge (cl := (rtOf W).cl) (n := n) hcl; omega
  have hn2 : need ≤ x.wd := by rw [← hneed]; exact roundS_le hcl hnw hw8
  have hx0 : (S.xs.length : Int) ≤ S.most := by rw [hxs]; exact hm0
  -- the Pop
  have hp1 : Pool x.pool m.tick ((y : Int) :: l) := ⟨hp.c.congr fun _ _ => rfl, hp.nd⟩
  obtain ⟨m1, p1, n1, l1, po1, a1, d1⟩ := pop_alone (k := x.pool) (m := m.tick) (len := m.ws.length) hpk rfl hp1 1 (by omega) (by omega) (by simp) 1 (by simp; omega)
  simp only [List.drop_succ_cons, List.drop_zero, List.take_succ_cons, List.take_zero] at p1 po1
  have hin : ∀ j, (popIt x.pool j (PopS.init 1, m.tick)).2.ok ∧ (popIt x.pool j (PopS.init 1, m.tick)).1.ok x.pool ∧ (popIt x.pool j (PopS.init 1, m.tick)).2.ws.length = m.ws.length := by
    intro j
    induction j with
    | zero => exact ⟨hm, PopS.ok_init hpk.n1 1, rfl⟩
    | succ j ih =>
      rw [popIt_succ]
      exact ⟨(popStep_mem hpk ih.1 ih.2.1).1, popStep_ok hpk ih.1 ih.2.1, (popStep_mem hpk ih.1 ih.2.1).2.trans ih.2.2⟩
  have hm1 : m1.ok := by have := (hin (1 + 2)).1; rw [p1] at this; exact this
  -- the first two of its accesses look only
  have hlook : ∀ j, j ≤ 2 → ∃ q : PopS, popIt x.pool j (PopS.init 1, m.tick) = (q, m.tick.add j) ∧ q.done = false := by
    intro j hj
    rcases (show j = 0 ∨ j = 1 ∨ j = 2 by omega) with rfl | rfl | rfl
    · exact ⟨PopS.init 1, rfl, rfl⟩
    · obtain ⟨u, hu⟩ := pop_links hp1 1 (by omega) (by omega) (by simp) 1 (by omega) (by omega) (by simp)
      exact ⟨_, hu, rfl⟩
    · have hu := pop_cas hp1 1 (by omega) (by omega) (by simp) 1 (by simp; omega)
      exact ⟨_, hu, rfl⟩
  have e2 : ∀ j, j ≤ 2 → ∃ q : PopS, alIt (x.al slot gen n) (1 + j) (alR m S) = (m.tick.add j, S, ⟨2, ⟨1 + j, -1, 0, true, false, need, 0, W, 0, Hd.zero⟩, ⟨1, 0, false, -1, q, false⟩, gNone, false⟩) ∧ popIt x.pool j (PopS.init 1, m.tick) = (q, m.tick.add j) := by
    intro j
    induction j with
    | zero => intro _; exact ⟨PopS.init 1, e1, rfl⟩
    | succ j ih =>
      intro hj
      obtain ⟨q, h1, h2⟩ := ih (by omega)
      obtain ⟨q2, h3, h4⟩ := hlook (j + 1) hj
      have h5 := h3
      rw [popIt_succ, h2] at h5
      refine ⟨q2, ?_, h3⟩
      show alStep (x.al slot gen n) (alIt (x.al slot gen n) (1 + j) (alR m S)).1 (alIt (x.al slot gen n) (1 + j) (alR m S)).2.1 (alIt (x.al slot gen n) (1 + j) (alR m S)).2.2 = _
      rw [h1]
      have ht : takeStep x.pool x.ba (m.tick.add j) S ⟨1, 0, false, -1, q, false⟩ = (m.tick.add (j + 1), S, ⟨1, 0, false, -1, q2, false⟩) := by
        unfold takeStep
        simp only [Bool.false_eq_true, if_false]
        rw [h5]
        dsimp only
        rw [h4]
        rfl
      unfold alStep
      simp only [Bool.false_eq_true, if_false]
      rw [ht]
      rfl
  obtain ⟨q2, e3, h32⟩ := e2 2 (by omega)
  obtain ⟨Q, hQ⟩ : ∃ Q, Q = (popStep x.pool (m.tick.add 2) q2).1 := ⟨_, rfl⟩
  have p2 : popStep x.pool (m.tick.add 2) q2 = (⟨1, 0, l.headD (-1), m.tick.at_ x.pool.head, [(y : Int)], true⟩, m1) := by
    have := p1
    rw [show 1 + 2 = 2 + 1 from rfl, popIt_succ, h32] at this
    exact this
  obtain ⟨T, hT⟩ : ∃ T : TakeS, T = ⟨1, y, true, -1, ⟨1, 0, l.headD (-1), m.tick.at_ x.pool.head, [(y : Int)], true⟩, true⟩ := ⟨_, rfl⟩
  have e4 : alIt (x.al slot gen n) 4 (alR m S) = (m1, S, ⟨3, ⟨4, y, 0, true, false, need, 0, W, 0, Hd.zero⟩, T, gNone, false⟩) := by
    show alStep (x.al slot gen n) (alIt (x.al slot gen n) (1 + 2) (alR m S)).1 (alIt (x.al slot gen n) (1 + 2) (alR m S)).2.1 (alIt (x.al slot gen n) (1 + 2) (alR m S)).2.2 = _
    rw [e3]
    have ht : takeStep x.pool x.ba (m.tick.add 2) S ⟨1, 0, false, -1, q2, false⟩ = (m1, S, T) := by
      unfold takeStep
      simp only [Bool.false_eq_true, if_false]
      rw [p2]
      dsimp only
      unfold popped
      dsimp only
      rw [if_pos rfl, hT]
      have : S.give [] = S := by unfold SupS.give; rw [List.append_nil]
      rw [this]
    unfold alStep
    simp only [Bool.false_eq_true, if_false]
    rw [ht]
    dsimp only
    rw [show T.done = true by rw [hT], if_pos rfl]
    unfold alTaken
    rw [show T.is_ = true by rw [hT], if_pos rfl, show T.chunk = y by rw [hT]]
  have hwk : 1 ≤ x.wd := by omega
  have e5 : ∀ i, i ≤ x.wd → alIt (x.al slot gen n) (4 + i) (alR m S) = (clrM m1 (x.word + y * x.wd) i, S, ⟨if i < x.wd then 3 else 4, ⟨4 + i, y, i, true, false, need, 0, W, 0, Hd.zero⟩, T, gNone, false⟩) := by
    intro i
    induction i with
    | zero => intro _; rw [if_pos (by omega)]; exact e4
    | succ i ih =>
      intro hi
      show alStep (x.al slot gen n) (alIt (x.al slot gen n) (4 + i) (alR m S)).1 (alIt (x.al slot gen n) (4 + i) (alR m S)).2.1 (alIt (x.al slot gen n) (4 + i) (alR m S)).2.2 = _
      rw [ih (by omega), if_pos (by omega)]
      unfold alStep
      simp only [Bool.false_eq_true, if_false, Int.toNat_natCast]
      rfl
  have e6 : alIt (x.al slot gen n) (x.wd + 5) (alR m S) = ((clrM m1 (x.word + y * x.wd) x.wd).put (x.link + y) ((rtOf W).chunk + 1).toNat, S, ⟨5, ⟨x.wd + 5, y, x.wd, true, false, need, 0, W, 0, Hd.zero⟩, T, gNone, false⟩) := by
    have := e5 x.wd (Nat.le_refl _)
    rw [if_neg (by omega)] at this
    show alStep (x.al slot gen n) (alIt (x.al slot gen n) (x.wd + 4) (alR m S)).1 (alIt (x.al slot gen n) (x.wd + 4) (alR m S)).2.1 (alIt (x.al slot gen n) (x.wd + 4) (alR m S)).2.2 = _
    rw [show x.wd + 4 = 4 + x.wd by omega, this]
    unfold alStep
    simp only [Bool.false_eq_true, if_false, Int.toNat_natCast]
    rw [show 4 + x.wd + 1 = x.wd + 5 by omega]
    rfl
  have hl1 : m1.ws.length = x.len := l1.trans hl
  have hlc : ∀ i, (clrM m1 (x.word + y * x.wd) i).ws.length = x.len := fun i => (clrM_len _ _ _).trans hl1
  have hcat : ∀ i, i ≤ x.wd → ∀ a, (clrM m1 (x.word + y * x.wd) i).at_ a = if x.word + y * x.wd ≤ a ∧ a < x.word + y * x.wd + i then 0 else m1.at_ a := fun i hi a => clrM_at (by omega) a
  obtain ⟨v5, hv5⟩ : ∃ v5, v5 = ((rtOf W).chunk + 1).toNat := ⟨_, rfl⟩
  have hv5l : v5 < 18446744073709551616 := by
    have := Rt.chunk_lt (rtOf_mrk W); have := (rtOf W).chunk_ge; omega
  rw [← hv5] at e6
  have hat5 : ∀ a, ((clrM m1 (x.word + y * x.wd) x.wd).put (x.link + y) v5).at_ a = if x.link + y = a then v5 else if x.word + y * x.wd ≤ a ∧ a < x.word + y * x.wd + x.wd then 0 else m1.at_ a := fun a => by
    rw [Mm.at_put _ (by rw [hlc]; omega), hcat _ (Nat.le_refl _)]
  obtain ⟨m5, hm5⟩ : ∃ m5, m5 = (clrM m1 (x.word + y * x.wd) x.wd).put (x.link + y) v5 := ⟨_, rfl⟩
  rw [← hm5] at e6 hat5
  have hl5 : m5.ws.length = x.len := by rw [hm5, Mm.len_put]; exact hlc _
  have hok5 : m5.ok := by rw [hm5]; exact Mm.ok_put (clrM_ok hm1 _ _) hv5l
  have hr1 : m1.at_ (x.root + slot) = W := by rw [a1 _ (by show x.root + slot ≠ 0; omega)]; exact hW
  have hr5 : m5.at_ (x.root + slot) = W := by rw [hat5, if_neg (by omega), if_neg (by omega), hr1]
  have hR : Rt.ok ⟨(rtOf W).gen, 2 + y, (rtOf W).cl, afterS x.wd need⟩ := ⟨hk.g, by show 2 + y ≤ 4097; omega, hk.c, by have := afterS_le hn2; show afterS x.wd need ≤ 1024; omega⟩
  have e7 : alIt (x.al slot gen n) (x.wd + 6) (alR m S) = (m5.put (x.root + slot) (Rt.w ⟨(rtOf W).gen, 2 + y, (rtOf W).cl, afterS x.wd need⟩), S, ⟨6, ⟨x.wd + 6, -1, x.wd, true, true, need, x.wd + 6, W, 0, ⟨slot, gen, y, 0, n⟩⟩, T, PushS.init [], true⟩) := by
    show alStep (x.al slot gen n) (alIt (x.al slot gen n) (x.wd + 5) (alR m S)).1 (alIt (x.al slot gen n) (x.wd + 5) (alR m S)).2.1 (alIt (x.al slot gen n) (x.wd + 5) (alR m S)).2.2 = _
    rw [e6]
    unfold alStep
    simp only [Bool.false_eq_true, if_false, Int.toNat_natCast]
    rw [if_pos hr5, alClose_none rfl hx0]
  -- the pool
  have hnl : ∀ z ∈ l, z ≠ (y : Int) := fun z hz e => by
    have := hp.nd
    rw [List.nodup_cons] at this
    exact this.1 (e ▸ hz)
  have pool1 : ∀ i, i ≤ x.wd → Pool x.pool (clrM m1 (x.word + y * x.wd) i) l := fun i hi => by
    refine ⟨?_, po1.nd⟩
    rw [hcat i hi, if_neg (by show ¬ (_ ≤ 0 ∧ 0 < _); omega)]
    refine po1.c.congr fun z hz => ?_
    have hz2 := po1.c.mem z hz
    have hz3 : z < x.c := hz2.2
    rw [hcat i hi, if_neg (by show ¬ (_ ≤ x.link + z.toNat ∧ _); omega)]
  have pool5 : Pool x.pool m5 l := by
    refine ⟨?_, po1.nd⟩
    rw [hat5, if_neg (by show ¬ x.link + y = 0; omega), if_neg (by show ¬ (_ ≤ 0 ∧ 0 < _); omega)]
    refine po1.c.congr fun z hz => ?_
    have hz2 := po1.c.mem z hz
    have hz3 : z < x.c := hz2.2
    have := hnl z hz
    rw [hat5, if_neg (by show ¬ x.link + y = x.link + z.toNat; omega), if_neg (by show ¬ (_ ≤ x.link + z.toNat ∧ _); omega)]
  have hput : ∀ a v, (m5.put (x.root + slot) v).at_ a = if x.root + slot = a then v else m5.at_ a := fun a v => Mm.at_put a (by omega)
  have poolM : Pool x.pool (m5.put (x.root + slot) (Rt.w ⟨(rtOf W).gen, 2 + y, (rtOf W).cl, afterS x.wd need⟩)) l := by
    refine ⟨?_, po1.nd⟩
    rw [hput, if_neg (by show ¬ x.root + slot = 0; omega)]
    refine pool5.c.congr fun z hz => ?_
    rw [hput, if_neg (by show ¬ x.root + slot = x.link + z.toNat; omega)]
  have hall : ∀ j, j < x.wd + 6 → (j = 0) ∨ (∃ i, i ≤ 2 ∧ j = 1 + i) ∨ (∃ i, i ≤ x.wd ∧ j = 4 + i) ∨ j = x.wd + 5 := fun j hj => by
    rcases (show j = 0 ∨ (1 ≤ j ∧ j ≤ 3) ∨ (4 ≤ j ∧ j ≤ 4 + x.wd) ∨ j = x.wd + 5 by omega) with h | h | h | h
    · exact .inl h
    · exact .inr (.inl ⟨j - 1, by omega, by omega⟩)
    · exact .inr (.inr (.inl ⟨j - 4, by omega, by omega⟩))
    · exact .inr (.inr (.inr h))
  have hwok : (rtOf W).ok := hk
  have hnd : ∀ j, j < x.wd + 6 → (alIt (x.al slot gen n) j (alR m S)).2.2.done = false := fun j hj => by
    rcases hall j hj with rfl | ⟨i, hi, rfl⟩ | ⟨i, hi, rfl⟩ | rfl
    · rfl
    · obtain ⟨q, h, _⟩ := e2 i hi; rw [h]
    · rw [e5 i hi]
    · rw [e6]
  have hroot : ∀ j, j < x.wd + 6 → (alIt (x.al slot gen n) j (alR m S)).1.at_ (x.root + slot) = W := fun j hj => by
    rcases hall j hj with rfl | ⟨i, hi, rfl⟩ | ⟨i, hi, rfl⟩ | rfl
    · exact hW
    · obtain ⟨q, h, _⟩ := e2 i hi; rw [h]; exact hW
    · rw [e5 i hi]
      show (clrM m1 (x.word + y * x.wd) i).at_ _ = W
      rw [hcat i hi, if_neg (by omega), hr1]
    · rw [e6]; exact hr5
  refine ⟨_, _, e7, ⟨fun j hj => ?_, hnd, by rw [e7]⟩, by rw [Mm.len_put]; exact hl5, Mm.ok_put hok5 (Rt.w_lt hR), poolM, by rw [hput, if_pos rfl], fun a h0 h1 h2 h3 => ?_, fun a h1 h2 => ?_, fun j hj => ?_, fun j hj1 hj2 => ?_, hroot, fun j hj1 hj2 => ?_, fun j hj1 hj2 => ?_, T, by rw [e6]⟩
  · by_cases hj6 : j = x.wd + 6
    · subst hj6
      rw [e7]
      refine ⟨by rw [Mm.len_put]; exact hl5, Mm.ok_put hok5 (Rt.w_lt hR), ?_, hs, hm0, hm2, fun h => (by cases h)⟩
      show (rtOf ((m5.put (x.root + slot) _).at_ (x.root + slot))).ok
      rw [hput, if_pos rfl, rtOf_w hR]; exact hR
    · have hr := hroot j (by omega)
      rcases hall j (by omega) with rfl | ⟨i, hi, rfl⟩ | ⟨i, hi, rfl⟩ | rfl
      · exact good0 hl hm hk' hs hm0 hm2
      · obtain ⟨q, h, _⟩ := e2 i hi
        rw [h] at hr ⊢
        refine ⟨hl, hm, by show (rtOf ((m.tick.add i).at_ _)).ok; rw [hr]; exact hk, hs, hm0, hm2, fun _ => ⟨by show 2 ≤ 6; omega, by show 1 + i ≤ 1000000; omega, by show (-1 : Int) ≤ -1; omega, by show (-1 : Int) < x.c; omega, hk, (fun h => by cases h), (fun h => by cases h), (fun h => by rcases h with h | h | h <;> cases h), (fun h => by cases h), fun _ => ⟨by show 1 ≤ 1; omega, fun _ => ⟨rfl, rfl⟩⟩⟩⟩
      · rw [e5 i hi] at hr ⊢
        refine ⟨hlc i, clrM_ok hm1 _ _, by show (rtOf ((clrM m1 (x.word + y * x.wd) i).at_ _)).ok; rw [hr]; exact hk, hs, hm0, hm2, fun _ => ok_mid (by split <;> omega) (by omega) (by omega) (by omega) hk hn1 hn2 (fun h => by split at h <;> omega)⟩
      · rw [e6] at hr ⊢
        refine ⟨hl5, hok5, by show (rtOf (m5.at_ _)).ok; rw [hr]; exact hk, hs, hm0, hm2, fun _ => ok_mid (by omega) (by omega) (by omega) (by omega) hk hn1 hn2 (fun h => by omega)⟩
  · rw [hput, if_neg (fun h => h2 h.symm), hat5, if_neg (fun h => h1 h.symm), if_neg h3]
    exact a1 a h0
  · rw [hput, if_neg (by omega), hat5, if_neg (by omega), if_pos ⟨h1, h2⟩]
  · rcases (show j = 0 ∨ 1 ≤ j by omega) with rfl | h1
    · exact ⟨rfl, rfl, hp⟩
    · obtain ⟨q, h, _⟩ := e2 (j - 1) (by omega)
      rw [show 1 + (j - 1) = j by omega] at h
      rw [h]
      exact ⟨rfl, rfl, ⟨hp.c.congr fun _ _ => rfl, hp.nd⟩⟩
  · rcases hall j hj2 with h0 | ⟨i, hi, h0⟩ | ⟨i, hi, rfl⟩ | rfl
    · omega
    · omega
    · rw [e5 i hi]; exact ⟨rfl, rfl, pool1 i hi⟩
    · rw [e6]; exact ⟨rfl, rfl, pool5⟩
  · obtain ⟨q, h, h2⟩ := e2 (j - 1) (by omega)
    rw [show 1 + (j - 1) = j by omega] at h
    rw [h]
    refine ⟨rfl, rfl, ?_⟩
    have := (hin (j - 1)).2.1
    rw [h2] at this
    exact this
  · have h := e5 (j - 4) (by omega)
    rw [show 4 + (j - 4) = j by omega] at h
    rw [h]
    show (if j - 4 < x.wd then 3 else 4) = 3 ∨ (if j - 4 < x.wd then 3 else 4) = 4
    split
    · exact .inl rfl
    · exact .inr rfl
end
end Go.Proofs.YtflalhdofhobmaaGreat

/-
  grant's statements: a region by one alone; an Alloc by one alone.
-/
set_option linter.unusedVariables false
set_option linter.unusedSimpArgs false
namespace Go.Proofs.YtflalhdofhobmaaGreat
open Go
attribute [local irreducible] Sx Cx Rx Fx Krg Ksq Kbl Klp Kr
theorem crStep_ok {k : Sk} {ro cl len : Nat} {m : Mm} {c : CreS} (hk : k.ok len) (hm : m.ok) (hcl : cl ≤ 3) (h : c.ok k) (hn : c.cnt + 1 ≤ 1000000) : (crStep k ro cl m c).1.ok k ∧ (crStep k ro cl m c).2.ok ∧ (crStep k ro cl m c).2.ws.length = m.ws.length ∧ (crStep k ro cl m c).1.cnt ≤ c.cnt + 1 := by
  obtain ⟨h1, h2, h3, h4, h5⟩ := h
  have hq := popStep_ok hk hm h2
  have hpm := popStep_mem hk hm h2
  unfold crStep
  split
  · exact ⟨⟨h1, h2, h3, h4, h5⟩, hm, rfl, by show c.cnt ≤ c.cnt + 1; omega⟩
  · split
    · rename_i ha
      split
      · unfold crPopped
        split
        · exact ⟨⟨by show c.at_ ≤ 2; omega, hq, h3, fun h => absurd ha h, hn⟩, hpm.1, hpm.2, Nat.le_refl _⟩
        · rename_i s l hg
          exact ⟨⟨by show 1 ≤ 2; omega, hq, h3, fun _ => hq.g s (by dsimp only at hg; rw [hg]; simp), hn⟩, hpm.1, hpm.2, Nat.le_refl _⟩
      · exact ⟨⟨h1, hq, h3, fun h => absurd ha h, hn⟩, hpm.1, hpm.2, Nat.le_refl _⟩
    · rename_i ha
      exact ⟨⟨by show 2 ≤ 2; omega, h2, Mm.at_lt hm _, fun _ => h4 (by omega), hn⟩, hm, rfl, Nat.le_refl _⟩
    · rename_i ha _
      exact ⟨⟨h1, h2, h3, h4, hn⟩, Mm.ok_put hm (Rt.w_lt (nextRt_ok h3 hcl)), Mm.len_put, Nat.le_refl _⟩
theorem crIt_ok {k : Sk} {ro cl len : Nat} {m : Mm} (hk : k.ok len) (hm : m.ok) (hcl : cl ≤ 3) : ∀ j, j ≤ 100000 → (crIt k ro cl j (CreS.init, m)).1.ok k ∧ (crIt k ro cl j (CreS.init, m)).2.ok ∧ (crIt k ro cl j (CreS.init, m)).2.ws.length = m.ws.length ∧ (crIt k ro cl j (CreS.init, m)).1.cnt ≤ j
  | 0, _ => ⟨⟨by show 0 ≤ 2; omega, PopS.ok_init hk.n1 1, by show 0 < 18446744073709551616; omega, fun h => absurd rfl h, by show 0 ≤ 1000000; omega⟩, hm, rfl, Nat.le_refl _⟩
  | j + 1, hj => by
    obtain ⟨a, b, c, d⟩ := crIt_ok hk hm hcl j (by omega)
    have := crStep_ok (ro := ro) hk b hcl a (by omega)
    exact ⟨this.1, this.2.1, this.2.2.1.trans c, by have := this.2.2.2; show (crStep k ro cl (crIt k ro cl j (CreS.init, m)).2 (crIt k ro cl j (CreS.init, m)).1).1.cnt ≤ j + 1; omega⟩
section
variable {L F G : St}
abbrev rgF (x : Cn) (n : Hn) (r r2 : Option Addr) (k c c2 : Nat) (m : Mm) (G : St) : St :=
  pt (some ⟨n.a, 0, none⟩) (Blk 45 (grV x n r r2 k c c2)) :: pt (some ⟨n.mp, 0, none⟩) (MemO m) :: pt (some ⟨n.ro, 0, none⟩) (RoO n.mp n.sp x) :: pt (some ⟨n.sp, 0, none⟩) (SkO n.mp x.spare) ::
  pt (some ⟨n.rm, 0, none⟩) (RMemO m) :: pt (some ⟨n.w, 0, none⟩) (RWO x n.rm n.rp n.rs n.re) :: pt (some ⟨n.rs, 0, none⟩) (RSkO n.rm x.spare) :: G
set_option maxHeartbeats 4000000 in
theorem grRegion {x : Cn} {n : Hn} {r r2 : Option Addr} {k c c2 : Nat} {m : Mm} (cl : Nat) (hcl : cl ≤ 3) (hx : x.ok) (hl : m.ws.length = x.len) (hm : m.ok) {s : Nat} {l : List Int} (hp : Pool x.spare m ((s : Int) :: l)) :
    Fx Tryz.prog 25 [.pointer (some ⟨n.a, 0, none⟩), .int .i64 cl] (rgF x n r r2 k c c2 m G)
      (fun v L' => v = .tuple #[.int .i64 s, .int .i64 (laterT (rtOf (m.at_ (x.root + s))).gen : Nat), .bool true] ∧ L' = rgF x n r r2 k c c2 (crIt x.spare x.root cl 10 (CreS.init, m)).2 G) := by
  have hlen := hx.len_le
  have hk := hx.spare (n := m.ws.length) (by omega) (by omega)
  have hroot : x.root + x.sl = x.slot := by unfold Cn.root Cn.slot; omega
  obtain ⟨C, M, e10, hd, hcode, hslot, hat, hwas, _⟩ := cr_alone (k := x.spare) (ro := x.root) (cl := cl) (m := m) hk rfl hm hp (by show x.root + x.sl ≤ x.slot; omega) (by show 1 < x.root; unfold Cn.root; omega) hcl
  rw [Int.toNat_natCast] at hwas
  refine Fx.mk Tryz.func25 k25 (Nat.le_of_ble_eq_true rfl) ?_
  dsimp only [c25, envOf, Nat.reduceAdd]
  refine go ?_
  refine Cx.ordc rfl (by kernel_rfl) ?_
  refine ge ?_
  iterate 5 (refine Ev.bring 1 rfl ?_; refine ge ?_)
  refine Ev.caH (by kernel_rfl) rfl rfl (rootsCreate (g := n.ro) (mp := n.mp) (sb := n.sp) (x := x) cl hcl hx) (.keep (fun v L' ⟨_, _, e⟩ => by subst e; exact Has.cell rfl) (.dep rfl .nil)) ?_
  rintro v L' ⟨b, rfl, rfl⟩
  refine ge ?_
  refine Ev.caH (by kernel_rfl) rfl rfl (refCreate (w := n.w) (rm := n.rm) (rp := n.rp) (rs := n.rs) (re := n.re) (x := x) cl hcl) (Pres.deps (by kernel_rfl)) ?_
  rintro v L' ⟨bb, rfl, rfl⟩
  refine ge ?_
  refine go ?_
  refine Cx.lp (α := {j : Nat // j ≤ 10}) (fun j => [(7, .pointer (some ⟨b, 0, none⟩)), (8, .pointer (some ⟨bb, 0, none⟩)), (9, .int .i64 j.1)])
    (fun j => pt (some ⟨b, 0, none⟩) (CreO n.ro n.sp x.spare cl (crIt x.spare x.root cl j.1 (CreS.init, m)).1) :: pt (some ⟨bb, 0, none⟩) (RCreO n.w n.rs cl (crIt x.spare x.root cl j.1 (CreS.init, m)).1) :: rgF x n r r2 k c c2 (crIt x.spare x.root cl j.1 (CreS.init, m)).2 G)
    (fun j => 10 - j.1) ⟨0, by omega⟩ (sub.cons rfl (sub.cons rfl (sub.cons rfl sub.nil))) ?_ ?_
  · dsimp only [rgF, crIt]
    exact ent
  rintro ⟨j, hj⟩
  dsimp only [rgF]
  obtain ⟨k1, k2, k3, k4⟩ := crIt_ok (ro := x.root) (m := m) hk hm hcl j (by omega)
  refine go ?_
  refine Cx.ifp rfl (fun h => ?_) (fun h => ?_)
  · refine go ?_
    refine Sx.ca rfl (crStepC (b := b) (r := n.ro) (mp := n.mp) (sp := n.sp) (x := x) (m := (crIt x.spare x.root cl j (CreS.init, m)).2) (cl := cl) (c := (crIt x.spare x.root cl j (CreS.init, m)).1) hx (by omega) hcl k1) ?_
    rintro v L' ⟨rfl, rfl⟩
    refine go ?_
    refine Sx.ca rfl (refCrStep (b := bb) (w := n.w) (rm := n.rm) (rp := n.rp) (rs := n.rs) (re := n.re) (x := x) (m := (crIt x.spare x.root cl j (CreS.init, m)).2) (cl := cl) (c := (crIt x.spare x.root cl j (CreS.init, m)).1) hx (by omega) hcl k1) ?_
    rintro v L' ⟨rfl, rfl⟩
    refine go ?_
    rw [w64 (n := (j : Int) + 1) (by omega) (by omega)]
    refine Klp.nm ⟨j + 1, by omega⟩ (sub.cons rfl (sub.cons rfl (sub.cons rfl sub.nil))) ?_ (by dsimp only; omega)
    dsimp only [rgF, crIt]
    refine Ent.trans (Ent.take (a := some ⟨b, 0, none⟩)) (Ent.cons ?_)
    exact ent
  · obtain rfl : j = 10 := by omega
    rw [e10]
    dsimp only
    refine go ?_
    refine Sx.ca rfl (crRegion (b := b) (r := n.ro) (sp := n.sp) (k := x.spare) (cl := cl) (c := C) hd hat hcode) ?_
    rintro v L' ⟨rfl, rfl⟩
    rw [hslot, hwas]
    refine go ?_
    refine Cx.ent (Ent.take (a := some ⟨bb, 0, none⟩)) ?_
    refine Cx.openp (a := some ⟨bb, 0, none⟩) rfl ?_
    intro p
    have er : C.rslot = s := by unfold CreS.rslot; rw [if_neg (by omega), hslot]
    have eg : C.rgen = laterT (rtOf (m.at_ (x.root + s))).gen := by unfold CreS.rgen; rw [if_pos ⟨hd, hat⟩, hwas]
    simp only [rcrL, List.cons_append, List.nil_append, er, eg, hd, hcode]
    refine Cx.ordc rfl (by kernel_rfl) ?_
    refine ge ?_
    refine Ev.cakH (by kernel_rfl) rfl rfl (crDone (b := b) (r := n.ro) (sp := n.sp) (k := x.spare) (cl := cl) (c := C) hd) ?_
    refine ge ?_
    refine Ev.yes 43 rfl rfl ?_
    refine ge ?_
    refine Ev.yes 49 rfl rfl ?_
    refine ge ?_
    refine Ev.cakH (by kernel_rfl) rfl rfl (crCode (b := b) (r := n.ro) (sp := n.sp) (k := x.spare) (cl := cl) (c := C) hd) ?_
    rw [hcode]
    refine ge ?_
    refine Ev.yes 54 rfl rfl ?_
    refine ge ?_
    refine Ev.yes 61 rfl rfl ?_
    refine ge ?_
    refine Ev.yes 69 rfl (decide_eq_true rfl) ?_
    refine ge ?_
    refine go ?_
    refine Kr.three (.inr rfl) rfl rfl rfl ?_ ⟨by rw [decide_eq_true rfl], rfl⟩
    refine Ent.trans Ent.drop ?_
    exact ent
abbrev agF (x : Cn) (n : Hn) (r : Nat) (r2 : Option Addr) (k c c2 : Nat) (Q : Nat → Who) (i : Nat) (S : SupS) (m : Mm) (G : St) : St :=
  pt (some ⟨n.a, 0, none⟩) (Blk 45 (grV x n (some ⟨r, 0, none⟩) r2 k c c2)) :: pt (some ⟨r, 0, none⟩) (Row 47 1 k c (ptrs k fun i => (Q i).u)) :: pt (some ⟨(Q i).u, 0, none⟩) (SupO n.mp (Q i).pb x S) ::
  pt (some ⟨n.mp, 0, none⟩) (MemO m) :: pt (some ⟨(Q i).pb, 0, none⟩) (SkO n.mp x.pool) :: pt (some ⟨n.g, 0, none⟩) (GrO n.mp x) :: G
set_option maxHeartbeats 4000000 in
theorem grAlone {x : Cn} {n : Hn} {r : Nat} {r2 : Option Addr} {k c c2 : Nat} {Q : Nat → Who} {i : Nat} {S : SupS} {m : Mm} {slot : Nat} {gen : Int} {sz : Nat} (N : Nat) (hN : N < 4000) (hi : i < k) (hk : k ≤ 64) (hx : x.ok) (hs : slot < x.sl) (hn : 1 ≤ sz) (hn2 : sz ≤ x.wd) (hw8 : x.wd % 8 = 0) (hr : AlRun x (x.al slot gen sz) (alR m S) N) :
    Fx Tryz.prog 20 [.pointer (some ⟨n.a, 0, none⟩), .int .i64 i, .int .i64 slot, .int .i64 gen, .int .i64 sz] (agF x n r r2 k c c2 Q i S m G)
      (fun v L' => ∃ b, v = .tuple #[.pointer (some ⟨b, 0, none⟩), .int .i64 N] ∧ L' = pt (some ⟨b, 0, none⟩) (AlO n.g (Q i).u (Q i).pb x slot gen sz (alIt (x.al slot gen sz) N (alR m S)).2.2) ::
        agF x n r r2 k c c2 Q i (alIt (x.al slot gen sz) N (alR m S)).2.1 (alIt (x.al slot gen sz) N (alR m S)).1 G) := by
  obtain ⟨hgood, hnd, hd⟩ := hr
  refine Fx.mk Tryz.func20 k20 (Nat.le_of_ble_eq_true rfl) ?_
  dsimp only [c20, envOf, Nat.reduceAdd]
  refine go ?_
  refine Cx.ordc rfl (by kernel_rfl) ?_
  refine ge ?_
  refine Ev.ldrH (b := r) (v := .pointer (some ⟨(Q i).u, 0, none⟩)) (by kernel_rfl) rfl rfl (by rw [show 0 + (i : Int).toNat * 1 = i by omega]; exact ptrs_get (U := fun i => (Q i).u) hi) ?_
  refine ge ?_
  refine Ev.caH (by kernel_rfl) rfl rfl (grantAlloc (g := n.g) (u := (Q i).u) (mp := n.mp) (pb := (Q i).pb) (x := x) slot gen sz hs hn hn2) (Pres.deps (by kernel_rfl)) ?_
  rintro v L' ⟨b, rfl, rfl⟩
  refine ge ?_
  refine go ?_
  refine Cx.lp (α := {j : Nat // j ≤ N}) (fun j => [(12, .pointer (some ⟨b, 0, none⟩)), (14, .int .i64 j.1), (15, .int .i64 j.1)])
    (fun j => pt (some ⟨b, 0, none⟩) (AlO n.g (Q i).u (Q i).pb x slot gen sz (alIt (x.al slot gen sz) j.1 (alR m S)).2.2) :: agF x n r r2 k c c2 Q i (alIt (x.al slot gen sz) j.1 (alR m S)).2.1 (alIt (x.al slot gen sz) j.1 (alR m S)).1 G)
    (fun j => N - j.1) ⟨0, by omega⟩ (sub.cons rfl (sub.cons rfl (sub.cons rfl sub.nil))) ?_ ?_
  · dsimp only [agF, alIt]
    exact ent
  rintro ⟨j, hj⟩
  dsimp only [agF]
  obtain ⟨g1, g2, g3, g4, g5, g6, g7⟩ := hgood j hj
  repeat' (first|refine Zo0 rfl ?_|refine Zo1 ?_|refine Zo2 ?_|refine Zo3 ?_|refine Zo4 ?_|refine Zo5 ?_|refine Zo6 ?_|refine Zo7 ?_|refine Zo8 rfl ?_|refine Zo9 rfl ?_|refine Zoa ?_|refine Zob ?_|refine Zoc ?_|refine Zod ?_|refine Zoe ?_|refine Zof ?_|refine Zog ?_|refine Zoh ?_|refine Zom rfl (by rfl) ?_|refine Zon rfl rfl ?_|refine Zoo rfl rfl rfl rfl (by rfl) (by rfl) ?_|refine Zop rfl trivial ?_|refine Zoq rfl rfl rfl ?_)
  rw [decide_eq_true (show (j : Int) < 4000 by omega)]
  refine go ?_
  refine Sx.ca rfl (alStepC (b := b) (g := n.g) (u := (Q i).u) (mp := n.mp) (pb := (Q i).pb) (x := x) (slot := slot) (gen := gen) (n := sz) (S := (alIt (x.al slot gen sz) j (alR m S)).2.1) (m := (alIt (x.al slot gen sz) j (alR m S)).1) (a := (alIt (x.al slot gen sz) j (alR m S)).2.2) hx (by omega) hs hn hn2 hw8 g3 (by omega) g5 g6 g7) ?_
  rintro v L' ⟨rfl, rfl⟩
  by_cases hjn : j = N
  · subst hjn
    have e : alStep (x.al slot gen sz) (alIt (x.al slot gen sz) j (alR m S)).1 (alIt (x.al slot gen sz) j (alR m S)).2.1 (alIt (x.al slot gen sz) j (alR m S)).2.2 = alIt (x.al slot gen sz) j (alR m S) := by
      unfold alStep; rw [if_pos hd]
    rw [hd, e]
    refine go ?_
    refine Kr.two (.inr rfl) rfl rfl ?_ ⟨b, rfl, rfl⟩
    exact ent
  · rw [hnd j (by omega)]
    refine go ?_
    rw [w64 (n := (j : Int) + 1) (by omega) (by omega)]
    refine Klp.nm ⟨j + 1, by omega⟩ (sub.cons rfl (sub.cons rfl (sub.cons rfl sub.nil))) ?_ (by dsimp only; omega)
    dsimp only [agF, alIt]
    exact ent
theorem alDone {b g u pb : Nat} {x : Cn} {slot : Nat} {gen : Int} {n : Nat} {s : AlS} {F1 : St} (hd : s.done = true) [t1 : Take L (some ⟨b, 0, none⟩) (AlO g u pb x slot gen n s) F1] : Fx Tryz.prog 27 [.pointer (some ⟨b, 0, none⟩)] L (fun v L' => v = .bool true ∧ L = L') := by
  refine Fx.kept (t := t1) ?_
  refine Fx.mk Tryz.func27 k27 (Nat.le_of_ble_eq_true rfl) ?_
  dsimp only [c27, envOf, Nat.reduceAdd]
  refine Cx.ent (Ent.of t1.out) ?_
  refine Cx.openp (a := some ⟨b, 0, none⟩) (AlO.dd_ hd) ?_
  rintro ⟨q, n1, n2, n3, tp⟩
  simp only [alDL, List.cons_append, List.nil_append]
  refine go ?_
  refine Sx.ca rfl (machDoneYes (b := b)) ?_
  rintro v L' ⟨rfl, rfl⟩
  refine go ?_
  exact Kr.one (.inr rfl) rfl (AlO.closeD (v := s.v) (rt := rtOf s.v.was) s hd rfl rfl rfl rfl) ⟨rfl, rfl⟩
theorem alCode {b g u pb : Nat} {x : Cn} {slot : Nat} {gen : Int} {n : Nat} {s : AlS} {F1 : St} (hd : s.done = true) [t1 : Take L (some ⟨b, 0, none⟩) (AlO g u pb x slot gen n s) F1] : Fx Tryz.prog 21 [.pointer (some ⟨b, 0, none⟩)] L (fun v L' => v = .int .i64 (s.v.code : Nat) ∧ L = L') := by
  refine Fx.kept (t := t1) ?_
  refine Fx.mk Tryz.func21 k21 (Nat.le_of_ble_eq_true rfl) ?_
  dsimp only [c21, envOf, Nat.reduceAdd]
  refine Cx.ent (Ent.of t1.out) ?_
  refine go ?_
  refine Sx.ca rfl (alDone (b := b) (g := g) (u := u) (pb := pb) (x := x) (slot := slot) (gen := gen) (n := n) (s := s) hd) ?_
  rintro v L' ⟨rfl, rfl⟩
  refine go ?_
  refine Sx.openp (a := some ⟨b, 0, none⟩) (AlO.dd_ hd) ?_
  rintro ⟨q, n1, n2, n3, tp⟩
  simp only [alDL, List.cons_append, List.nil_append]
  refine go ?_
  exact Kr.one (.inr rfl) rfl (AlO.closeD (v := s.v) (rt := rtOf s.v.was) s hd rfl rfl rfl rfl) ⟨rfl, rfl⟩
theorem alPoint {b g u pb : Nat} {x : Cn} {slot : Nat} {gen : Int} {n : Nat} {s : AlS} {F1 : St} (hd : s.done = true) [t1 : Take L (some ⟨b, 0, none⟩) (AlO g u pb x slot gen n s) F1] : Fx Tryz.prog 22 [.pointer (some ⟨b, 0, none⟩)] L (fun v L' => v = .int .i64 (s.v.point : Nat) ∧ L = L') := by
  refine Fx.kept (t := t1) ?_
  refine Fx.mk Tryz.func22 k22 (Nat.le_of_ble_eq_true rfl) ?_
  dsimp only [c22, envOf, Nat.reduceAdd]
  refine Cx.ent (Ent.of t1.out) ?_
  refine Cx.openp (a := some ⟨b, 0, none⟩) (AlO.dd_ hd) ?_
  rintro ⟨q, n1, n2, n3, tp⟩
  simp only [alDL, List.cons_append, List.nil_append]
  refine go ?_
  exact Kr.one (.inr rfl) rfl (AlO.closeD (v := s.v) (rt := rtOf s.v.was) s hd rfl rfl rfl rfl) ⟨rfl, rfl⟩
theorem alObject {b g u pb : Nat} {x : Cn} {slot : Nat} {gen : Int} {n : Nat} {s : AlS} {F1 : St} (hd : s.done = true) [t1 : Take L (some ⟨b, 0, none⟩) (AlO g u pb x slot gen n s) F1] : Fx Tryz.prog 28 [.pointer (some ⟨b, 0, none⟩)] L (fun v L' => v = hdA s.v.obj ∧ L = L') := by
  refine Fx.kept (t := t1) ?_
  refine Fx.mk Tryz.func28 k28 (Nat.le_of_ble_eq_true rfl) ?_
  dsimp only [c28, envOf, Nat.reduceAdd]
  refine Cx.ent (Ent.of t1.out) ?_
  refine Cx.sq ?_
  refine Cx.rg ?_
  refine Sx.al fun o => ?_
  refine go ?_
  refine Sx.ca rfl (alDone (b := b) (g := g) (u := u) (pb := pb) (x := x) (slot := slot) (gen := gen) (n := n) (s := s) hd) ?_
  rintro v L' ⟨rfl, rfl⟩
  refine go ?_
  refine Sx.ent (Ent.take (a := some ⟨b, 0, none⟩)) ?_
  refine Sx.openp (a := some ⟨b, 0, none⟩) (AlO.dd_ hd) ?_
  rintro ⟨q, n1, n2, n3, tp⟩
  simp only [alDL, List.cons_append, List.nil_append]
  refine go ?_
  refine Sx.st (b := o) rfl rfl rfl rfl rfl rfl ?_
  refine Sx.re (hdL s.v.obj) rfl ?_
  refine go ?_
  refine Kr_cell (b := o) (.inr rfl) rfl rfl ?_ ⟨rfl, rfl⟩
  refine Ent.trans Ent.drop ?_
  exact AlO.closeD (v := s.v) (rt := rtOf s.v.was) s hd rfl rfl rfl rfl
end
end Go.Proofs.YtflalhdofhobmaaGreat

/-
  grant's statements: the chapter's example.
-/
set_option linter.unusedVariables false
set_option linter.unusedSimpArgs false
namespace Go.Proofs.YtflalhdofhobmaaGreat
open Go
attribute [local irreducible] Sx Cx Rx Fx Krg Ksq Kbl Klp Kr
/-- What a region made by one alone, first of all, leaves behind. -/
theorem region0 {x : Cn} (hx : x.ok) (cl : Nat) (hcl : cl ≤ 3) : ∃ M, (crIt x.spare x.root cl 10 (CreS.init, allM x)).2 = M ∧ M.n = 5 ∧ M.ws.length = x.len ∧ M.ok ∧ Pool x.pool M (iotaI x.c) ∧ rtOf (M.at_ (x.root + 0)) = ⟨1, 1, cl, 0⟩ ∧ (∀ a, a ≠ 1 → a ≠ x.root → M.at_ a = (allM x).at_ a) ∧
    Pool x.spare (allM x) (((0 : Nat) : Int) :: (iotaI x.sl).tail) ∧ laterT (rtOf ((allM x).at_ (x.root + 0))).gen = 1 := by
  obtain ⟨b1, b2, b3, b4, b5, b6, b7⟩ := hx.b
  have hlen := hx.len_le
  have hl := allM_len x
  have hk := hx.spare (n := (allM x).ws.length) (by omega) (by omega)
  have hroot : x.root + x.sl = x.slot := by unfold Cn.root Cn.slot; omega
  have hslot : x.slot + x.sl = x.link := by unfold Cn.slot Cn.link; omega
  have g3 : 3 ≤ x.root := by unfold Cn.root; omega
  have hsp := allM_spare hx
  have hio : iotaI x.sl = ((0 : Nat) : Int) :: (iotaI x.sl).tail := by
    have h0 := iota_get (n := x.sl) (i := 0) (by omega)
    have hl0 : (iotaI x.sl).length = x.sl := by simp [iotaI]
    cases he : iotaI x.sl with
    | nil => rw [he] at hl0; simp at hl0; omega
    | cons z l => rw [he] at h0; simp only [itI, List.getD_cons_zero] at h0; rw [h0]; rfl
  rw [hio] at hsp
  have h0 : (allM x).at_ (x.root + 0) = 0 := allM_at hx (by omega) (by omega) (by omega) (by omega)
  have hroot0 : (allM x).at_ (x.root + 0) < 18446744073709551616 := by omega
  obtain ⟨C, M, e10, _, _, _, _, _, hn, hml, hmo, _, hrv, hoth⟩ := cr_alone (k := x.spare) (ro := x.root) (cl := cl) (m := allM x) hk rfl (allM_ok hx) hsp (by show x.root + x.sl ≤ x.slot; omega) (by show 1 < x.root; omega) hcl
  rw [Int.toNat_natCast] at hrv hoth
  refine ⟨M, by rw [e10], ?_, hml.trans hl, hmo, ?_, ?_, fun a ha hb => hoth a ha (by omega), hsp, by rw [h0]; rfl⟩
  · rw [hn]; unfold allM poolM; rw [fillM_n, fillM_n]; rfl
  · have hp := allM_pool hx
    refine ⟨?_, hp.nd⟩
    rw [hoth _ (by show (0 : Nat) ≠ 1; omega) (by show 0 ≠ x.root + 0; omega)]
    refine hp.c.congr fun z hz => ?_
    have hz2 := hp.c.mem z hz
    exact hoth _ (by show x.link + z.toNat ≠ 1; omega) (by show x.link + z.toNat ≠ x.root + 0; omega)
  · rw [hrv, rtOf_w (nextRt_ok hroot0 hcl), h0]; rfl
section
variable {L F G : St}
theorem grF_rg {x : Cn} {n : Hn} {r r2 : Option Addr} {k c c2 : Nat} {Q : Nat → Who} {S S2 : Nat → SupS} {m : Mm} : Ent (grF x n r r2 k c c2 Q S S2 m m G)
    (rgF x n r r2 k c c2 m (pt r (Row 47 1 k c (ptrs k fun i => (Q i).u)) :: pt r2 (Row 81 1 k c2 (ptrs k fun i => (Q i).s)) :: pt (some ⟨n.pb, 0, none⟩) (SkO n.mp x.pool) :: pt (some ⟨n.g, 0, none⟩) (GrO n.mp x) ::
      pt (some ⟨n.rp, 0, none⟩) (RSkO n.rm x.pool) :: pt (some ⟨n.re, 0, none⟩) (REpO x n.rm) :: (many k (fun i => whoL n.mp n.w x (Q i) (S i) (S2 i)) ++ G))) := by
  exact entm
set_option maxHeartbeats 4000000 in
theorem grFirst : Fx Tryz.prog 12 [] L (fun v L' => v = .bool true ∧ L = L') := by
  refine Fx.mk Tryz.func12 k12 (Nat.le_of_ble_eq_true rfl) ?_
  dsimp only [c12, envOf, Nat.reduceAdd]
  have hx : (⟨1, 2, 8, 1, 1, 1⟩ : Cn).ok := by unfold Cn.ok MayC; decide
  obtain ⟨x, hxe⟩ : ∃ x, x = (⟨1, 2, 8, 1, 1, 1⟩ : Cn) := ⟨_, rfl⟩
  have hwd : x.wd = 8 := by rw [hxe]
  have hc : x.c = 2 := by rw [hxe]
  have hca : x.ca = 1 := by rw [hxe]
  have hba : x.ba = 1 := by rw [hxe]
  have hsl : x.sl = 1 := by rw [hxe]
  rw [← hxe] at hx
  obtain ⟨M, hM, hn, hml, hmo, hpo, hrt, hoth, hsp, hgen⟩ := region0 hx 0 (by omega)
  have hio : iotaI x.c = ((0 : Nat) : Int) :: [1] := by rw [hc]; rfl
  rw [hio] at hpo
  have hcl : (rtOf (M.at_ (x.root + 0))).cl = 0 := by rw [hrt]
  obtain ⟨M2, t, e14, hrun, _⟩ := al_new (x := x) (slot := 0) (gen := 1) (n := 3) (m := M) (S := SupS.nil x.ca) hx hml hmo (by omega) (by rw [hrt]; exact ⟨by show 1 < 4294967296; omega, by show 1 ≤ 4097; omega, by show 0 ≤ 3; omega, by show 0 ≤ 1024; omega⟩)
    (by show 0 + 0 ≤ 1000; omega) (by rw [hca]; decide) (by rw [hca]; decide) hba rfl rfl (by omega) (by omega) (by omega) (by rw [hrt]; exact ⟨by show 1 ≤ 1; omega, rfl⟩) 3 (by rw [hrt]; rfl) (by rw [hrt]; intro h; have := h.1; dsimp only at this; omega) 0 [1] hpo
  rw [hwd] at e14 hrun
  refine go ?_
  refine Sx.ca (vs := [x.v]) (by rw [hxe]; rfl) (grMade hx) ?_
  rintro v L' ⟨n, r, r2, c, c2, Q, rfl, rfl⟩
  refine go ?_
  refine Sx.ent grF_rg ?_
  refine Sx.ca rfl (grRegion (x := x) (n := n) (m := allM x) (s := 0) (l := (iotaI x.sl).tail) 0 (by omega) hx (allM_len x) (allM_ok hx) hsp) ?_
  rintro v L' ⟨rfl, rfl⟩
  rw [hM, hgen]
  refine go ?_
  have ga := grAlone (x := x) (n := n) (r := r) (r2 := some ⟨r2, 0, none⟩) (k := 3) (c := c) (c2 := c2) (Q := Q) (i := 0) (S := SupS.nil x.ca) (m := M) (slot := 0) (gen := 1) (sz := 3) (G := L) 14 (by omega) (by omega) (by omega) hx (by omega) (by omega) (by omega) (by omega) hrun
  rw [e14] at ga
  refine Sx.ent ?_ (Sx.ca rfl ga ?_)
  · dsimp only [rgF, agF]
    refine Ent.trans (Ent.ith 0 (by omega)) ?_
    simp only [whoL, List.cons_append, List.nil_append]
    exact entm
  rintro v L' ⟨b, rfl, rfl⟩
  refine go ?_
  obtain ⟨A, hA⟩ : ∃ A : AlS, A = ⟨6, ⟨8 + 6, -1, 8, true, true, 3, 8 + 6, M.at_ (x.root + 0), 0, ⟨((0 : Nat) : Int), 1, ((0 : Nat) : Int), 0, ((3 : Nat) : Int)⟩⟩, t, PushS.init [], true⟩ := ⟨_, rfl⟩
  rw [← hA]
  have a1 : A.done = true := by rw [hA]
  have a2 : A.v.code = 0 := by rw [hA]
  have a3 : A.v.obj = ⟨((0 : Nat) : Int), 1, ((0 : Nat) : Int), 0, ((3 : Nat) : Int)⟩ := by rw [hA]
  have a4 : A.v.point = 14 := by rw [hA]
  refine Sx.ca rfl (alDone (b := b) (g := n.g) (u := (Q 0).u) (pb := (Q 0).pb) (x := x) (slot := 0) (gen := 1) (n := 3) (s := A) a1) ?_
  rintro v L' ⟨rfl, rfl⟩
  refine go ?_
  refine Sx.ca rfl (alCode (b := b) (g := n.g) (u := (Q 0).u) (pb := (Q 0).pb) (x := x) (slot := 0) (gen := 1) (n := 3) (s := A) a1) ?_
  rintro v L' ⟨rfl, rfl⟩
  rw [a2]
  refine go ?_
  refine Sx.ca rfl (alObject (b := b) (g := n.g) (u := (Q 0).u) (pb := (Q 0).pb) (x := x) (slot := 0) (gen := 1) (n := 3) (s := A) a1) ?_
  rintro v L' ⟨rfl, rfl⟩
  rw [a3]
  refine go ?_
  refine Sx.ca rfl (alPoint (b := b) (g := n.g) (u := (Q 0).u) (pb := (Q 0).pb) (x := x) (slot := 0) (gen := 1) (n := 3) (s := A) a1) ?_
  rintro v L' ⟨rfl, rfl⟩
  rw [a4]
  refine go ?_
  refine Kr.one (.inr rfl) rfl ?_ ⟨rfl, rfl⟩
  exact entm
end
end Go.Proofs.YtflalhdofhobmaaGreat

/-
  The supplies' example.
-/
set_option linter.unusedVariables false
set_option linter.unusedSimpArgs false
namespace Go.Proofs.YtflalhdofhobmaaGreat
open Go
attribute [local irreducible] Sx Cx Rx Fx Krg Ksq Kbl Klp Kr
section
variable {L F G : St}
end
end Go.Proofs.YtflalhdofhobmaaGreat

/-
  BoundKinds' walk: no kind's bound is above Alone's, nor Alone's above Most's; with more of anything no bound is less.
-/
set_option linter.unusedVariables false
set_option linter.unusedSimpArgs false
namespace Go.Proofs.YtflalhdofhobmaaGreat
open Go
attribute [local irreducible] Sx Cx Rx Fx Krg Ksq Kbl Klp Kr
theorem ints_getD {xs : List Int} {i : Nat} {x : Int} (h : xs[i]? = some x) : (ints xs)[i]? = some (.int .i64 x) := by simp [ints, h]
section
variable {L F : St}
theorem Rd.atD {a : Option Addr} {n i : Nat} {vs : List Value} {v : Value} (h : Rd L 1 a n vs) (hv : vs[i]? = some v) : ∃ b o, a = some ⟨b, o, none⟩ ∧ Has L b (o + i) [v] := by
  obtain ⟨h1, h0 | ⟨b, o, rfl, h2⟩⟩ := h
  · have := (List.getElem?_eq_some_iff.1 hv).1; omega
  · exact ⟨b, o, rfl, h2.at_ hv⟩
/-- The next number of a row of numbers. -/
theorem seqN {q : Nat} {xs : List Int} {a : Option Addr} {n c i : Nat} {m : Int} {F : St} [t : Take L (some ⟨q, 0, none⟩) (Blk 125 [.slice a n c, .int .i64 i]) F]
    (hr : Rd L 1 a n (ints xs)) (hi : i ≤ 1000000000) (hm : 0 < m) (hm2 : m ≤ 4611686018427387904) :
    Fx Tryz.prog 68 [.pointer (some ⟨q, 0, none⟩), .int .i64 m] L (fun v L' => v = .int .i64 (xs.getD i 0 % m) ∧ L' = pt (some ⟨q, 0, none⟩) (Blk 125 [.slice a n c, .int .i64 ((i + 1 : Nat) : Int)]) :: F) := by
  have hn : n = xs.length := by have := hr.1; simp [ints] at this; omega
  refine Fx.mk Tryz.func68 k68 (Nat.le_of_ble_eq_true rfl) ?_
  dsimp only [c68, envOf, Nat.reduceAdd]
  refine go ?_
  refine Cx.calm (by kernel_rfl) ?_
  repeat' (first | (refine Cm.pvs rfl ?_) | (refine Cm.step rfl ?_) | (refine Cm.done ?_) | (refine Cm.ldb rfl rfl (by rfl) ?_) | (refine Cm.ldbs rfl rfl rfl ?_))
  refine Cx.jn (β := Unit) (fun _ => [(0, .pointer (some ⟨q, 0, none⟩)), (1, .int .i64 m), (5, .int .i64 (xs.getD i 0))]) (fun _ => L) ?_ ?_
  · refine Cx.ifp rfl (fun h => ?_) (fun h => ?_)
    · have hlt : i < xs.length := by omega
      have hg : (ints xs)[i]? = some (.int .i64 (xs.getD i 0)) := ints_getD (by simp [hlt])
      obtain ⟨b, o, rfl, hh⟩ := hr.atD hg
      refine Cx.calmK Kjn.mono (by kernel_rfl) ?_
      repeat' (first | (refine Cm.pvs rfl ?_) | (refine Cm.step rfl ?_) | (refine Cm.done ?_) | (refine Cm.ldb rfl rfl (by rfl) ?_) | (refine Cm.ldbs rfl rfl rfl ?_))
      refine Cm.pv rfl rfl ⟨by omega, by omega⟩ ?_
      refine Cm.ld rfl rfl (by simpa using hh) rfl ?_
      repeat' (first | (refine Cm.pvs rfl ?_) | (refine Cm.step rfl ?_) | (refine Cm.done ?_) | (refine Cm.ldb rfl rfl (by rfl) ?_) | (refine Cm.ldbs rfl rfl rfl ?_))
      exact Cm.nil (Kjn.nm () (sub.cons rfl (sub.cons rfl (sub.cons rfl sub.nil))) (Ent.refl _))
    · refine go ?_
      refine Kjn.nm () (sub.cons rfl (sub.cons rfl (sub.cons ?_ sub.nil))) (Ent.refl _)
      rw [show xs.getD i 0 = 0 by rw [List.getD_eq_getElem?_getD, List.getElem?_eq_none (by omega)]; rfl]
      rfl
  · rintro ⟨⟩
    refine go ?_
    rw [w64 (by omega) (by omega)]
    refine Sx.ca rfl (number _ m hm hm2) ?_
    rintro v L' ⟨rfl, rfl⟩
    refine go ?_
    exact Kr.one (.inr rfl) rfl (Ent.refl _) ⟨rfl, by simp⟩
/-- What a small configuration is. -/
def SmallC (w c wd sl ca ba : Int) : Prop := (1 ≤ w ∧ w ≤ 4) ∧ (1 ≤ c ∧ c ≤ 8) ∧ (wd = 8 ∨ wd = 16) ∧ (1 ≤ sl ∧ sl ≤ 4) ∧ (0 ≤ ca ∧ ca ≤ 3) ∧ (1 ≤ ba ∧ ba ≤ 3)
theorem config_ (n : Int) : Fx Tryz.prog 13 [.int .i64 n] L (fun v L' => (∃ w c wd sl ca ba, v = cfg w c wd sl ca ba ∧ SmallC w c wd sl ca ba) ∧ L = L') := by
  refine Fx.mk Tryz.func13 k13 (Nat.le_of_ble_eq_true rfl) ?_
  dsimp only [c13, envOf, Nat.reduceAdd]
  refine go ?_
  refine Sx.al fun g => ?_
  refine go ?_
  refine Sx.ca rfl (number n 4 (by omega) (by omega)) ?_
  rintro v L' ⟨rfl, rfl⟩
  refine go ?_
  refine Sx.pv rfl (by decide) ?_
  refine Sx.ca rfl (number _ 8 (by omega) (by omega)) ?_
  rintro v L' ⟨rfl, rfl⟩
  refine go ?_
  refine Sx.pv rfl (by decide) ?_
  refine Sx.ca rfl (number _ 2 (by omega) (by omega)) ?_
  rintro v L' ⟨rfl, rfl⟩
  refine go ?_
  refine Sx.pv rfl (by decide) ?_
  refine Sx.ca rfl (number _ 4 (by omega) (by omega)) ?_
  rintro v L' ⟨rfl, rfl⟩
  refine go ?_
  refine Sx.pv rfl (by decide) ?_
  refine Sx.ca rfl (number _ 4 (by omega) (by omega)) ?_
  rintro v L' ⟨rfl, rfl⟩
  refine go ?_
  refine Sx.pv rfl (by decide) ?_
  refine Sx.ca rfl (number _ 3 (by omega) (by omega)) ?_
  rintro v L' ⟨rfl, rfl⟩
  refine go ?_
  generalize n % 4 = x0
  generalize IntKind.i64.wrap (n.tdiv 4) % 8 = x1
  generalize IntKind.i64.wrap (n.tdiv 32) % 2 = x2
  generalize IntKind.i64.wrap (n.tdiv 64) % 4 = x3
  generalize IntKind.i64.wrap (n.tdiv 256) % 4 = x4
  generalize IntKind.i64.wrap (n.tdiv 1024) % 3 = x5
  refine Sx.bs (sz := 1) rfl rfl fun r => ?_
  refine go ?_
  refine Sx.bx rfl rfl fun q => ?_
  refine go ?_
  refine Sx.ca rfl (seqN (q := q) (xs := [x0, x1, x2, x3, x4, x5]) (i := 0) (Rd.row (b := r) (E := 3) (cap := 6) rfl) (by omega) (by omega) (by omega)) ?_
  rintro v L' ⟨rfl, rfl⟩
  refine go ?_
  refine Sx.ca rfl (seqN (q := q) (xs := [x0, x1, x2, x3, x4, x5]) (i := 1) (Rd.row (b := r) (E := 3) (cap := 6) rfl) (by omega) (by omega) (by omega)) ?_
  rintro v L' ⟨rfl, rfl⟩
  refine go ?_
  refine Sx.ca rfl (seqN (q := q) (xs := [x0, x1, x2, x3, x4, x5]) (i := 2) (Rd.row (b := r) (E := 3) (cap := 6) rfl) (by omega) (by omega) (by omega)) ?_
  rintro v L' ⟨rfl, rfl⟩
  refine go ?_
  refine Sx.ca rfl (seqN (q := q) (xs := [x0, x1, x2, x3, x4, x5]) (i := 3) (Rd.row (b := r) (E := 3) (cap := 6) rfl) (by omega) (by omega) (by omega)) ?_
  rintro v L' ⟨rfl, rfl⟩
  refine go ?_
  refine Sx.ca rfl (seqN (q := q) (xs := [x0, x1, x2, x3, x4, x5]) (i := 4) (Rd.row (b := r) (E := 3) (cap := 6) rfl) (by omega) (by omega) (by omega)) ?_
  rintro v L' ⟨rfl, rfl⟩
  refine go ?_
  refine Sx.ca rfl (seqN (q := q) (xs := [x0, x1, x2, x3, x4, x5]) (i := 5) (Rd.row (b := r) (E := 3) (cap := 6) rfl) (by omega) (by omega) (by omega)) ?_
  rintro v L' ⟨rfl, rfl⟩
  refine go ?_
  refine Sx.st (b := g) rfl rfl rfl rfl rfl rfl ?_
  dsimp only [lay]
  refine go ?_
  refine Kr_cell (b := g) (.inr rfl) rfl rfl (L' := L) ?_ ⟨⟨_, _, _, _, _, _, rfl, ?_⟩, rfl⟩
  · exact ent
  · have h0 := Int.emod_nonneg x0 (show (4 : Int) ≠ 0 by omega)
    have h0' := Int.emod_lt_of_pos x0 (show (0 : Int) < 4 by omega)
    have h1 := Int.emod_nonneg x1 (show (8 : Int) ≠ 0 by omega)
    have h1' := Int.emod_lt_of_pos x1 (show (0 : Int) < 8 by omega)
    have h2 := Int.emod_nonneg x2 (show (2 : Int) ≠ 0 by omega)
    have h2' := Int.emod_lt_of_pos x2 (show (0 : Int) < 2 by omega)
    have h3 := Int.emod_nonneg x3 (show (4 : Int) ≠ 0 by omega)
    have h3' := Int.emod_lt_of_pos x3 (show (0 : Int) < 4 by omega)
    have h4 := Int.emod_nonneg x4 (show (4 : Int) ≠ 0 by omega)
    have h4' := Int.emod_lt_of_pos x4 (show (0 : Int) < 4 by omega)
    have h5 := Int.emod_nonneg x5 (show (3 : Int) ≠ 0 by omega)
    have h5' := Int.emod_lt_of_pos x5 (show (0 : Int) < 3 by omega)
    simp only [List.getD_cons_zero, List.getD_cons_succ]
    rw [w64 (n := 1 + x0 % 4) (by omega) (by omega), w64 (n := 1 + x1 % 8) (by omega) (by omega), w64 (n := 8 * (x2 % 2)) (by omega) (by omega), w64 (n := 8 + 8 * (x2 % 2)) (by omega) (by omega), w64 (n := 1 + x3 % 4) (by omega) (by omega), w64 (n := 1 + x5 % 3) (by omega) (by omega)]
    unfold SmallC
    omega
end
end Go.Proofs.YtflalhdofhobmaaGreat

/-
  SupplyAll's walk.
-/
set_option linter.unusedVariables false
set_option linter.unusedSimpArgs false
namespace Go.Proofs.YtflalhdofhobmaaGreat
open Go
attribute [local irreducible] Sx Cx Rx Fx Krg Ksq Kbl Klp Kr
theorem small_cfg {w c wd sl ca ba : Int} (h : SmallC w c wd sl ca ba) : ∃ x : Cn, cfg w c wd sl ca ba = x.v ∧ x.ok ∧ x.ca ≤ 3 ∧ x.c ≤ 8 ∧ x.ba ≤ 3 ∧ x.w ≤ 4 := by
  unfold SmallC at h
  refine ⟨⟨w.toNat, c.toNat, wd.toNat, sl.toNat, ca.toNat, ba.toNat⟩, ?_, ?_, ?_⟩
  · simp only [Cn.v]
    rw [Int.toNat_of_nonneg (by omega), Int.toNat_of_nonneg (by omega), Int.toNat_of_nonneg (by omega), Int.toNat_of_nonneg (by omega), Int.toNat_of_nonneg (by omega), Int.toNat_of_nonneg (by omega)]
  · unfold Cn.ok MayC
    simp only
    rw [Int.toNat_of_nonneg (by omega), Int.toNat_of_nonneg (by omega), Int.toNat_of_nonneg (by omega), Int.toNat_of_nonneg (by omega), Int.toNat_of_nonneg (by omega), Int.toNat_of_nonneg (by omega)]
    rw [Int.tmod_eq_emod_of_nonneg (by omega)]
    omega
  · simp only; omega
/-- What is taken goes. -/
theorem TakeR.perm {ba : Int} {s s' : SupS} {l l' : List Int} {ch : Int} {is_ : Bool} {N : Nat} (h1 : 1 ≤ ba) (h : TakeR ba s l ch is_ N s' l') (hn : s.xs ++ l ≠ []) : is_ = true ∧ (s.xs ++ l).Perm (ch :: (s'.xs ++ l')) := by
  rcases h with ⟨hx, rfl, rfl, _, rfl, rfl⟩ | ⟨hx, hl, c, hc, rfl, rfl, _, rfl, rfl⟩ | ⟨hx, hl, _⟩
  · refine ⟨rfl, ?_⟩
    have e : s.xs = s.xs.dropLast ++ [lastI s.xs] := by
      unfold lastI
      rw [List.getLastD_eq_getLast?, List.getLast?_eq_some_getLast hx]
      exact (List.dropLast_concat_getLast hx).symm
    have : (s.xs.dropLast ++ [lastI s.xs] ++ l').Perm (lastI s.xs :: (s.xs.dropLast ++ l')) := by
      rw [List.append_assoc]
      exact List.perm_middle
    rw [← e] at this
    exact this
  · refine ⟨rfl, ?_⟩
    obtain ⟨y, l2, rfl⟩ := List.exists_cons_of_ne_nil hl
    obtain ⟨c, rfl⟩ : ∃ d, c = d + 1 := ⟨c - 1, by simp at hc; omega⟩
    have : (s.give (List.take (c + 1) (y :: l2)).tail).xs ++ List.drop (c + 1) (y :: l2) = l2 := by
      simp [SupS.give, hx]
    rw [this, hx]
    exact List.Perm.refl _
  · rw [hx, hl] at hn; exact absurd rfl hn
/-- What is known while one alone takes all. -/
def AllP (x : Cn) (i : Nat) (s : SupS) (m : Mm) (l : List Int) (sn : List Bool) : Prop :=
  s.most = (SupS.nil x.ca).most ∧ s.lm = Lm.nil ∧ m.ws.length = x.len ∧ Pool x.pool m l ∧ (s.xs ++ l).Nodup ∧ (∀ y ∈ s.xs ++ l, 0 ≤ y ∧ y < (x.c : Int)) ∧ i + (s.xs ++ l).length = x.c ∧ sn.length = x.c ∧ (∀ y ∈ s.xs ++ l, sn[y.toNat]? = some false)
theorem AllP.step {x : Cn} {i : Nat} {s s' : SupS} {m m' : Mm} {l l' : List Int} {sn : List Bool} {ch : Int} {is_ : Bool} {N : Nat} (h1 : 1 ≤ (x.ba : Int)) (h8 : (x.ba : Int) ≤ 8) (h : AllP x i s m l sn) (hi : i < x.c) (ht : TakeR x.ba s l ch is_ N s' l')
    (hl : m'.ws.length = x.len) (hp : Pool x.pool m' l') : is_ = true ∧ (0 ≤ ch ∧ ch < (x.c : Int)) ∧ sn[ch.toNat]? = some false ∧ AllP x (i + 1) s' m' l' (sn.set ch.toNat true) := by
  obtain ⟨a1, a2, a3, a4, a5, a6, a7, a8, a9⟩ := h
  obtain ⟨hi1, hpm⟩ := ht.perm h1 (by intro e; rw [e] at a7; simp at a7; omega)
  obtain ⟨_, z2, z3⟩ := ht.size h8
  have hmem : ch ∈ s.xs ++ l := hpm.mem_iff.2 (by simp)
  have hnd := hpm.nodup_iff.1 a5
  rw [List.nodup_cons] at hnd
  have hsub : ∀ y ∈ s'.xs ++ l', y ∈ s.xs ++ l := fun y hy => hpm.mem_iff.2 (List.mem_cons_of_mem _ hy)
  have hlen := hpm.length_eq
  rw [List.length_cons] at hlen
  refine ⟨hi1, a6 _ hmem, a9 _ hmem, z3.trans a1, z2.trans a2, hl, hp, hnd.2, fun y hy => a6 y (hsub y hy), by omega, by rw [List.length_set]; exact a8, fun y hy => ?_⟩
  have h2 := a6 y (hsub y hy)
  have h3 := a6 _ hmem
  rw [List.getElem?_set_ne (fun e => hnd.1 (by rw [show ch = y by omega]; exact hy))]
  exact a9 y (hsub y hy)
section
variable {L F G : St}
end
end Go.Proofs.YtflalhdofhobmaaGreat

/-
  GrantArgs' walk.
-/
set_option linter.unusedVariables false
set_option linter.unusedSimpArgs false
namespace Go.Proofs.YtflalhdofhobmaaGreat
open Go
attribute [local irreducible] Sx Cx Rx Fx Krg Ksq Kbl Klp Kr
section
variable {L F G : St}
theorem grF_out {P : As} {x : Cn} {n : Hn} {r r2 : Option Addr} {k c c2 : Nat} {Q : Nat → Who} {S S2 : Nat → SupS} {m m2 : Mm} : Ent (grF x n r r2 k c c2 Q S S2 m m2 (P :: G)) (P :: grF x n r r2 k c c2 Q S S2 m m2 G) := by
  dsimp only [grF]
  iterate 13 (refine Ent.trans (Ent.cons ?_) Ent.swap)
  exact Ent.deep (N := many k _) (M := [P]) (G := G)
theorem Cn.ok.w8 {x : Cn} (h : x.ok) : x.wd % 8 = 0 := by
  obtain ⟨_, _, _, b4, _⟩ := show MayC (x.w : Int) x.c x.wd x.sl x.ca x.ba from h
  rw [show (8 : Int) = ((8 : Nat) : Int) from rfl, natTmod] at b4
  omega
end
end Go.Proofs.YtflalhdofhobmaaGreat

/-
  GrantAlone: what one alone has got, behind each object.
-/
set_option linter.unusedVariables false
set_option linter.unusedSimpArgs false
namespace Go.Proofs.YtflalhdofhobmaaGreat
/-- ch: the newest chunk, -1: none; off: how many of its words are given away; used: how many chunks were taken; l: what is in the pool. -/
structure GA (x : Cn) (cl : Nat) (m : Mm) (ch : Int) (off used : Nat) (l : List Int) : Prop where
  len : m.ws.length = x.len
  ok : m.ok
  pool : Pool x.pool m l
  cnt : l.length + used = x.c
  root : rtOf (m.at_ (x.root + 0)) = ⟨1, if ch = -1 then 1 else (ch + 2).toNat, cl, off⟩
  ch1 : -1 ≤ ch
  ch2 : ch < x.c
  out : ch ∉ l
  off1 : off ≤ x.wd
theorem GA.rok {x : Cn} {cl : Nat} {m : Mm} {ch : Int} {off used : Nat} {l : List Int} (h : GA x cl m ch off used l) (hcl : cl ≤ 3) (hc : x.c ≤ 4096) (hwd : x.wd ≤ 1024) : (rtOf (m.at_ (x.root + 0))).ok := by
  rw [h.root]
  have := h.ch1; have := h.ch2; have := h.off1
  refine ⟨by show 1 < 4294967296; omega, ?_, hcl, by show off ≤ 1024; omega⟩
  show (if ch = -1 then 1 else (ch + 2).toNat) ≤ 4097
  split <;> omega
/-- No chunk of the pool was taken. -/
theorem GA.first {x : Cn} {cl : Nat} {m : Mm} (hl : m.ws.length = x.len) (hm : m.ok) (hp : Pool x.pool m (iotaI x.c)) (hr : rtOf (m.at_ (x.root + 0)) = ⟨1, 1, cl, 0⟩) : GA x cl m (-1) 0 0 (iotaI x.c) := by
  refine ⟨hl, hm, hp, by simp [iotaI], by rw [hr]; rfl, by omega, by omega, fun h => ?_, by omega⟩
  have := hp.c.mem _ h
  omega
section
variable {x : Cn} {cl n : Nat} {m : Mm} {S : SupS} {ch : Int} {off used : Nat} {l : List Int}
/-- Words of the newest chunk. -/
theorem GA.fit (h : GA x cl m ch off used l) (hx : x.ok) (hcl : cl ≤ 3) (hn : 1 ≤ n) (hnw : n ≤ x.wd) (hs : S.xs.length + S.lm.size ≤ 1000) (hm0 : 0 ≤ S.most) (hm2 : S.most ≤ 64) (hx0 : (S.xs.length : Int) ≤ S.most) (h0 : 0 ≤ ch) (need : Nat) (hneed : roundS cl n = need) (hf : fitsS x.wd off need) :
    ∃ M A, alIt (x.al 0 1 n) 2 (alR m S) = (M, S, A) ∧ AlRun x (x.al 0 1 n) (alR m S) 2 ∧ A.done = true ∧ A.v.code = 0 ∧ A.v.obj = ⟨0, 1, ch, off, n⟩ ∧ A.v.point = 2 ∧ GA x cl M ch (off + need) used l := by
  obtain ⟨b1, b2, b3, b4, b5, b6, b7⟩ := show MayC (x.w : Int) x.c x.wd x.sl x.ca x.ba from hx
  have g1 : x.root + x.sl ≤ x.link := by unfold Cn.root Cn.link; omega
  have g2 : x.link + x.c ≤ x.len := by unfold Cn.link Cn.len; omega
  have g3 : 3 ≤ x.root := by unfold Cn.root; omega
  have hr := h.root
  have hrk := h.rok hcl (by omega) (by omega)
  have hc1 := h.ch2
  rw [if_neg (by omega)] at hr
  obtain ⟨e, hrun⟩ := al_fit (x := x) (slot := 0) (gen := 1) (n := n) (m := m) (S := S) h.len h.ok (by omega) hrk hs hm0 hm2 hx0 (by omega) (by rw [hr]; exact ⟨by show 1 ≤ (ch + 2).toNat; omega, rfl⟩) need (by rw [hr]; exact hneed) (by rw [hr]; show 2 ≤ (ch + 2).toNat; omega) (by rw [hr]; exact hf)
  have hR : Rt.ok ⟨1, (ch + 2).toNat, cl, off + need⟩ := ⟨by show 1 < 4294967296; omega, by show (ch + 2).toNat ≤ 4097; omega, hcl, by have := hf.2; show off + need ≤ 1024; omega⟩
  rw [hr] at e
  have hput : ∀ a v, (m.tick.put (x.root + 0) v).at_ a = if x.root + 0 = a then v else m.at_ a := fun a v => Mm.at_put a (by have := h.len; show _ < m.ws.length; omega)
  refine ⟨_, _, e, hrun, rfl, rfl, ?_, rfl, ⟨by rw [Mm.len_put]; exact h.len, Mm.ok_put (Mm.ok_tick h.ok) (Rt.w_lt hR), ⟨?_, h.pool.nd⟩, h.cnt, ?_, h.ch1, h.ch2, h.out, hf.2⟩⟩
  · show (⟨((0 : Nat) : Int), 1, Rt.chunk ⟨1, (ch + 2).toNat, cl, off⟩, (off : Int), (n : Int)⟩ : Hd) = _
    unfold Rt.chunk
    rw [if_neg (by show ¬ (ch + 2).toNat < 2; omega)]
    dsimp only
    rw [show (((ch + 2).toNat : Nat) : Int) - 2 = ch by omega]
    rfl
  · rw [hput, if_neg (by show ¬ x.root + 0 = 0; omega)]
    refine h.pool.c.congr fun z hz => ?_
    have := h.pool.c.mem z hz
    rw [hput, if_neg (by show ¬ x.root + 0 = x.link + z.toNat; omega)]
  · rw [hput, if_pos rfl, rtOf_w hR, if_neg (by omega)]
/-- There is none. -/
theorem GA.none_ (h : GA x cl m ch off used l) (hx : x.ok) (hcl : cl ≤ 3) (hs : S.xs.length + S.lm.size ≤ 1000) (hm0 : 0 ≤ S.most) (hm2 : S.most ≤ 64) (hba : x.ba = 1) (hxs : S.xs = []) (hlm : S.lm.size = 0) (need : Nat) (hneed : roundS cl n = need) (hf : ¬ (0 ≤ ch ∧ fitsS x.wd off need)) (hu : used = x.c) :
    ∃ M A, alIt (x.al 0 1 n) 3 (alR m S) = (M, S, A) ∧ AlRun x (x.al 0 1 n) (alR m S) 3 ∧ A.done = true ∧ A.v.code = 6 ∧ A.v.obj = Hd.zero ∧ A.v.point = 3 ∧ GA x cl M ch off used l := by
  obtain ⟨b1, b2, b3, b4, b5, b6, b7⟩ := show MayC (x.w : Int) x.c x.wd x.sl x.ca x.ba from hx
  have hr := h.root
  have hrk := h.rok hcl (by omega) (by omega)
  have hc1 := h.ch1
  have hl : l = [] := List.eq_nil_of_length_eq_zero (by have := h.cnt; omega)
  have hmk : 1 ≤ (if ch = -1 then 1 else (ch + 2).toNat) := by split <;> omega
  have hmk2 : 2 ≤ (if ch = -1 then 1 else (ch + 2).toNat) → 0 ≤ ch := by split <;> omega
  obtain ⟨t, e, hrun⟩ := al_none (x := x) (slot := 0) (gen := 1) (n := n) (m := m) (S := S) hx h.len h.ok (by omega) hrk hs hm0 hm2 hba hxs hlm (by rw [hr]; exact ⟨hmk, rfl⟩) need (by rw [hr]; exact hneed) (by rw [hr]; exact fun hh => hf ⟨hmk2 hh.1, hh.2⟩) (by rw [← hl]; exact h.pool)
  exact ⟨_, _, e, hrun, rfl, rfl, rfl, rfl, ⟨h.len, h.ok, ⟨h.pool.c.congr fun _ _ => rfl, h.pool.nd⟩, h.cnt, h.root, h.ch1, h.ch2, h.out, h.off1⟩⟩
/-- A chunk more. -/
theorem GA.more (h : GA x cl m ch off used l) (hx : x.ok) (hcl : cl ≤ 3) (hw8 : x.wd % 8 = 0) (hn : 1 ≤ n) (hnw : n ≤ x.wd) (hs : S.xs.length + S.lm.size ≤ 1000) (hm0 : 0 ≤ S.most) (hm2 : S.most ≤ 64) (hba : x.ba = 1) (hxs : S.xs = []) (hlm : S.lm.size = 0) (need : Nat) (hneed : roundS cl n = need) (hf : ¬ (0 ≤ ch ∧ fitsS x.wd off need)) (hu : used ≠ x.c) :
    ∃ M A y l', alIt (x.al 0 1 n) (x.wd + 6) (alR m S) = (M, S, A) ∧ AlRun x (x.al 0 1 n) (alR m S) (x.wd + 6) ∧ A.done = true ∧ A.v.code = 0 ∧ A.v.obj = ⟨0, 1, y, 0, n⟩ ∧ A.v.point = x.wd + 6 ∧ y ≠ ch ∧ 0 ≤ y ∧ GA x cl M y (afterS x.wd need) (used + 1) l' := by
  obtain ⟨b1, b2, b3, b4, b5, b6, b7⟩ := show MayC (x.w : Int) x.c x.wd x.sl x.ca x.ba from hx
  have hr := h.root
  have hrk := h.rok hcl (by omega) (by omega)
  have hc1 := h.ch1
  have hcnt := h.cnt
  have hmk : 1 ≤ (if ch = -1 then 1 else (ch + 2).toNat) := by split <;> omega
  have hmk2 : 2 ≤ (if ch = -1 then 1 else (ch + 2).toNat) → 0 ≤ ch := by split <;> omega
  obtain ⟨z, l', rfl⟩ : ∃ z l', l = z :: l' := by
    cases l with
    | nil => simp at hcnt; omega
    | cons z l' => exact ⟨z, l', rfl⟩
  have hz := h.pool.c.mem z (by simp)
  obtain ⟨y, rfl⟩ : ∃ y : Nat, z = y := ⟨z.toNat, by omega⟩
  have hzc : (y : Int) < x.c := hz.2
  have hn2 : need ≤ x.wd := by rw [← hneed]; exact roundS_le hcl hnw hw8
  have haf := afterS_le hn2
  obtain ⟨M, t, e, hrun, e1, e2, e3, e4, _⟩ := al_new (x := x) (slot := 0) (gen := 1) (n := n) (m := m) (S := S) hx h.len h.ok (by omega) hrk hs hm0 hm2 hba hxs hlm hw8 hn hnw (by rw [hr]; exact ⟨hmk, rfl⟩) need (by rw [hr]; exact hneed) (by rw [hr]; exact fun hh => hf ⟨hmk2 hh.1, hh.2⟩) y l' h.pool
  rw [hr] at e4
  have hR : Rt.ok ⟨1, 2 + y, cl, afterS x.wd need⟩ := ⟨by show 1 < 4294967296; omega, by show 2 + y ≤ 4097; omega, hcl, by show afterS x.wd need ≤ 1024; omega⟩
  have hnd := h.pool.nd
  rw [List.nodup_cons] at hnd
  refine ⟨M, _, (y : Int), l', e, hrun, rfl, rfl, rfl, rfl, fun hh => h.out (by rw [← hh]; simp), by omega, ⟨e1, e2, e3, by simp at hcnt; omega, ?_, by omega, hzc, hnd.1, haf⟩⟩
  rw [e4, rtOf_w hR, if_neg (by omega)]
  congr 1
  omega
end
end Go.Proofs.YtflalhdofhobmaaGreat

/-
  What comes in: a slice of an argument, as it stands in the world there was, read out of the statement's own reading.
-/
set_option linter.unusedVariables false
set_option linter.unusedSimpArgs false
namespace Go.Proofs.YtflalhdofhobmaaGreat
open Go Go.RowKit Go.ChangeShapes Go.WideShapes
/-- A slice that came in: n elements of sz cells each. -/
def In (w : World) (sz : Nat) (v : Value) (n : Nat) (vs : List Value) : Prop :=
  vs.length = n * sz ∧ n ≤ maxLen ∧ ∃ a c, v = .slice a n c ∧ (n = 0 ∨ ∃ b o, a = some ⟨b, o, none⟩ ∧ ∀ j u, vs[j]? = some u → w.cell? ⟨b, o + j, none⟩ = some u)
theorem addr_add (b o i : Nat) : (⟨b, o, none⟩ : Addr).add i = ⟨b, o + i, none⟩ := by
  unfold Addr.add; split <;> simp_all
theorem In.rd {w : World} {sz n : Nat} {v : Value} {vs : List Value} (h : In w sz v n vs) : n ≤ maxLen ∧ ∃ a c, v = .slice a n c ∧ ∀ L : St, Ent L [Old w] → Rd L sz a n vs := by
  obtain ⟨h1, h2, a, c, rfl, h3⟩ := h
  refine ⟨h2, a, c, rfl, fun L hL => ⟨h1, h3.imp id ?_⟩⟩
  rintro ⟨b, o, rfl, hc⟩
  exact ⟨b, o, rfl, Has.old hL hc⟩
theorem flat_get {sz : Nat} (hp : 0 < sz) : ∀ (rows : List (List Value)) (h : ∀ r ∈ rows, r.length = sz) (j : Nat), rows.flatten[j]? = (rows[j / sz]?).bind (·[j % sz]?)
  | [], _, j => by simp
  | r :: l, h, j => by
    have hr : r.length = sz := h r (by simp)
    have ih := flat_get hp l (fun x hx => h x (by simp [hx]))
    by_cases hj : j < sz
    · rw [List.flatten_cons, List.getElem?_append_left (by omega), Nat.div_eq_of_lt hj, Nat.mod_eq_of_lt hj]
      simp
    · rw [List.flatten_cons, List.getElem?_append_right (by omega), hr, ih]
      obtain ⟨q, rfl⟩ : ∃ q, j = q + sz := ⟨j - sz, by omega⟩
      rw [Nat.add_sub_cancel, Nat.add_mod_right, Nat.add_div_right q hp]
      simp
theorem flat_length {sz : Nat} : ∀ (rows : List (List Value)) (h : ∀ r ∈ rows, r.length = sz), rows.flatten.length = rows.length * sz
  | [], _ => by simp
  | r :: l, h => by
    have hr : r.length = sz := h r (by simp)
    have ih := flat_length l (fun x hx => h x (by simp [hx]))
    rw [List.flatten_cons, List.length_append, ih, hr, List.length_cons, Nat.add_mul]; omega
section
variable {H : Type} {enc : TypeId × Value → H} {P : Program} {w : World} {base : Nat} {held : Bool}
theorem In.rows {t e : TypeId} {sz fuel : Nat} {v : Value} {x : DataW H × List MemPlace} (ht : P.underlying t = some (.slice e)) (hs : P.cellsOf e = sz) (hp : 0 < sz)
    (h : DataW.trod enc P w base (fun _ => true) held fuel t [v] = some x) :
    ∃ rows : List (List Value), In w sz v rows.length rows.flatten ∧ ∀ r ∈ rows, r.length = sz ∧ ∃ n y, DataW.trod enc P w base (fun _ => true) held n e r = some y := by
  rcases Deep.open_slice ht h with ⟨h0, _⟩ | ⟨a, len, cap, m, n, D, Pl, h0, hb, hl, hm, hmm, rfl, hx⟩
  · simp only [List.cons.injEq, and_true] at h0
    subst h0
    exact ⟨[], ⟨by simp, by simp, none, 0, rfl, .inl rfl⟩, by simp⟩
  · simp only [List.cons.injEq, and_true] at h0
    subst h0
    simp only [if_true] at hmm
    subst hmm
    rw [hs] at hx
    obtain ⟨V, hV⟩ := Deep.choose_lt (α := List Value) (p := fun i cs' => w.cells? base (a.add (i * sz)) sz = some cs' ∧ DataW.trod enc P w base (fun _ => true) held n e cs' = some (D i, Pl i)) hx
    have hlen : ∀ i, i < m → (V i).length = sz := fun i hi => (World.cells?_some (hV i hi).1).2.1
    refine ⟨(List.range len).map V, ⟨?_, ?_, some a, m, by simp, ?_⟩, ?_⟩
    · rw [flat_length _ (by simp only [List.mem_map, List.mem_range]; rintro r ⟨i, hi, rfl⟩; exact hlen i (by omega))]
    · simp; omega
    · rcases Nat.eq_zero_or_pos len with h0 | h0
      · left; simpa using h0
      · right
        obtain ⟨b, o, spot⟩ := a
        have hc0 := (World.cells?_some (hV 0 (by omega)).1).2.2 0 hp
        rw [List.getElem?_eq_getElem (by rw [hlen 0 (by omega)]; exact hp)] at hc0
        have hspot : spot = none := by simpa [Addr.add] using World.cell?_spot hc0
        subst hspot
        refine ⟨b, o, rfl, fun j u hu => ?_⟩
        rw [flat_get hp _ (by simp only [List.mem_map, List.mem_range]; rintro r ⟨i, hi, rfl⟩; exact hlen i (by omega))] at hu
        obtain ⟨r, hr, hj⟩ := Option.bind_eq_some_iff.1 hu
        rw [List.getElem?_map] at hr
        obtain ⟨i, hi, rfl⟩ := Option.map_eq_some_iff.1 hr
        have hi' : j / sz < len := by have := (List.getElem?_eq_some_iff.1 hi).1; simpa using this
        have hij : i = j / sz := by simpa [hi'] using hi.symm
        subst hij
        have hc := (World.cells?_some (hV (j / sz) (by omega)).1).2.2 (j % sz) (Nat.mod_lt _ hp)
        rw [hj] at hc
        have he : o + j = o + j / sz * sz + j % sz := by have := Nat.div_add_mod j sz; rw [Nat.mul_comm] at this; omega
        rw [he]
        rwa [addr_add, addr_add] at hc
    · simp only [List.mem_map, List.mem_range]
      rintro r ⟨i, hi, rfl⟩
      exact ⟨hlen i (by omega), n, _, (hV i (by omega)).2⟩
/-- One cell each. -/
theorem In.ones {t e : TypeId} {fuel : Nat} {v : Value} {x : DataW H × List MemPlace} (ht : P.underlying t = some (.slice e)) (hs : P.cellsOf e = 1)
    (h : DataW.trod enc P w base (fun _ => true) held fuel t [v] = some x) :
    ∃ us : List Value, In w 1 v us.length us ∧ ∀ u ∈ us, ∃ n y, DataW.trod enc P w base (fun _ => true) held n e [u] = some y := by
  obtain ⟨rows, h1, h2⟩ := In.rows ht hs (by omega) h
  have key : ∀ rows : List (List Value), (∀ r ∈ rows, r.length = 1 ∧ ∃ n y, DataW.trod enc P w base (fun _ => true) held n e r = some y) → ∀ u ∈ rows.flatten, ∃ n y, DataW.trod enc P w base (fun _ => true) held n e [u] = some y := by
    intro rows h2 u hu
    obtain ⟨r, hr, hur⟩ := List.mem_flatten.1 hu
    obtain ⟨hl, n, y, hy⟩ := h2 r hr
    match r, hl with
    | [z], _ =>
      simp only [List.mem_singleton] at hur
      subst hur
      exact ⟨n, y, hy⟩
  refine ⟨rows.flatten, ?_, key rows h2⟩
  rw [flat_length rows (fun r hr => (h2 r hr).1), Nat.mul_one]
  exact h1
/-- Integers. -/
theorem In.ints {t e : TypeId} {k : IntKind} {fuel : Nat} {v : Value} {x : DataW H × List MemPlace} (ht : P.underlying t = some (.slice e)) (he : P.underlying e = some (.int k)) (hs : P.cellsOf e = 1)
    (h : DataW.trod enc P w base (fun _ => true) held fuel t [v] = some x) : ∃ xs : List Int, In w 1 v xs.length (xs.map (Value.int k)) ∧ ∀ x ∈ xs, (Lit.int k x).wf = true := by
  obtain ⟨us, h1, h2⟩ := In.ones ht hs h
  obtain ⟨xs, rfl, hx⟩ : ∃ xs : List Int, us = xs.map (Value.int k) ∧ ∀ x ∈ xs, (Lit.int k x).wf = true := by
    clear h1 h
    induction us with
    | nil => exact ⟨[], rfl, by simp⟩
    | cons u l ih =>
      obtain ⟨xs, rfl, hx⟩ := ih (fun z hz => h2 z (by simp [hz]))
      obtain ⟨n, y, hy⟩ := h2 u (by simp)
      obtain ⟨z, h3, _, h5⟩ := DataW.trod_int he hy
      simp only [List.cons.injEq, and_true] at h3
      subst h3
      refine ⟨z :: xs, rfl, ?_⟩
      simp only [List.mem_cons, forall_eq_or_imp]
      exact ⟨h5, hx⟩
  exact ⟨xs, by simpa using h1, hx⟩
end
end Go.Proofs.YtflalhdofhobmaaGreat

/-
  GrantAlone's walk.
-/
set_option linter.unusedVariables false
set_option linter.unusedSimpArgs false
namespace Go.Proofs.YtflalhdofhobmaaGreat
open Go
attribute [local irreducible] Sx Cx Rx Fx Krg Ksq Kbl Klp Kr
section
variable {L F G : St}
theorem Rd.at1_ {a : Option Addr} {n i : Nat} {vs : List Value} {v : Value} (h : Rd L 1 a n vs) (hv : vs[i]? = some v) : ∃ b o, a = some ⟨b, o, none⟩ ∧ Has L b (o + i) [v] := by
  obtain ⟨h1, h0 | ⟨b, o, rfl, h2⟩⟩ := h
  · have := (List.getElem?_eq_some_iff.1 hv).1; omega
  · exact ⟨b, o, rfl, h2.at_ hv⟩
theorem rootsRoot {g mp sb : Nat} {x : Cn} {m : Mm} {F1 : St} (n : Nat) (hn : n < x.sl) (hx : x.ok) (hm : m.ok) (hl : x.len ≤ m.ws.length) [t : Take L (some ⟨mp, 0, none⟩) (MemO m) F1] [c : Take L (some ⟨g, 0, none⟩) (RoO mp sb x) G] :
    Fx Tryz.prog 30 [.pointer (some ⟨g, 0, none⟩), .int .i64 n] L (fun v L' => v = rtV (rtOf (m.at_ (x.root + n))) ∧ L = L') := by
  have hsz : x.root + x.sl ≤ x.len := by unfold Cn.root Cn.len; omega
  refine Fx.mk Tryz.func30 k30 (Nat.le_of_ble_eq_true rfl) ?_
  dsimp only [c30, envOf, Nat.reduceAdd]
  refine Cx.sq ?_
  refine Cx.rg ?_
  refine Sx.al fun q => ?_
  refine go ?_
  refine Cx.ordc rfl (by kernel_rfl) ?_
  refine ge ?_
  refine Ev.cakH (by kernel_rfl) rfl rfl (layRootN hx n hn) ?_
  refine ge ?_
  refine Ev.cakH (by kernel_rfl) rfl rfl (cellsPeek (b := mp) (m := m) (x.root + n) (by omega)) ?_
  refine ge ?_
  refine Ev.cakH (by kernel_rfl) rfl rfl (getRoot (m.at_ (x.root + n)) (Mm.at_lt hm _)) ?_
  refine ge ?_
  refine Ev.stnH (b := q) (rtL (rtOf (m.at_ (x.root + n)))) (by kernel_rfl) rfl rfl rfl rfl rfl rfl rfl rfl (Pres.deps (by kernel_rfl)) ?_
  refine ge ?_
  refine go ?_
  exact Kr_cell (b := q) (.inr rfl) rfl rfl (L' := L) Ent.drop ⟨rfl, rfl⟩
set_option maxRecDepth 100000 in
set_option maxHeartbeats 8000000 in
theorem grantAlone {w : World} {v : Value} {xs : List Int} (n cls : Int) (hv : In w 1 v xs.length (ints xs)) : Fx Tryz.prog 5 [.int .i64 n, .int .i64 cls, v] [Old w] (fun v L' => v = .bool true ∧ Ent L' [Old w]) := by
  obtain ⟨hn, sa, scp, rfl, hRd⟩ := hv.rd
  have hmx : maxLen = 9223372036854775807 := rfl
  refine Fx.mk Tryz.func5 k5 (Nat.le_of_ble_eq_true rfl) ?_
  dsimp only [c5, envOf, Nat.reduceAdd]
  refine go ?_
  refine Sx.ca rfl grFirst ?_
  rintro v L' ⟨rfl, rfl⟩
  refine go ?_
  refine Cx.ifp rfl (fun h => ?_) (fun hlen => ?_)
  · refine go ?_
    exact Kr.one (.inr rfl) rfl (Ent.refl _) ⟨rfl, Ent.refl _⟩
  refine go ?_
  refine Sx.ca rfl (config_ n) ?_
  rintro v L' ⟨⟨w', c, wd, sl, ca, ba, rfl, hsm⟩, rfl⟩
  obtain ⟨x0, hxv, hx0, hca, hc8, hba, hw4⟩ := small_cfg hsm
  rw [hxv]
  clear hxv hsm
  clear w' c wd sl ca ba
  refine Sx.al fun gb => ?_
  refine Sx.st (b := gb) rfl rfl rfl rfl rfl rfl ?_
  refine Sx.re [.int .i64 x0.w, .int .i64 x0.c, .int .i64 x0.wd, .int .i64 x0.sl, .int .i64 x0.ca, .int .i64 x0.ba] rfl ?_
  obtain ⟨x, hxe⟩ : ∃ x : Cn, x = ⟨x0.w, x0.c, x0.wd, x0.sl, 64, 1⟩ := ⟨_, rfl⟩
  have hx : x.ok := by
    obtain ⟨b1, b2, b3, b4, b5, b6, b7⟩ := show MayC (x0.w : Int) x0.c x0.wd x0.sl x0.ca x0.ba from hx0
    rw [hxe]
    exact ⟨b1, b2, b3, b4, b5, by show (0 : Int) ≤ ((64 : Nat) : Int) ∧ ((64 : Nat) : Int) ≤ 64; omega, by show (1 : Int) ≤ ((1 : Nat) : Int) ∧ ((1 : Nat) : Int) ≤ 8; omega⟩
  have exw : x0.w = x.w := by rw [hxe]
  have exc : x0.c = x.c := by rw [hxe]
  have exd : x0.wd = x.wd := by rw [hxe]
  have exs : x0.sl = x.sl := by rw [hxe]
  have exa : x.ca = 64 := by rw [hxe]
  have exb : x.ba = 1 := by rw [hxe]
  rw [exw, exc, exd, exs]
  have hv' : x.v = .agg #[.int .i64 x.w, .int .i64 x.c, .int .i64 x.wd, .int .i64 x.sl, .int .i64 64, .int .i64 1] := by
    show cfg _ _ _ _ _ _ = _
    rw [exa, exb]; rfl
  have hx' := hx
  obtain ⟨b1, b2, b3, b4, b5, b6, b7⟩ := hx'.b
  have hlen := hx.len_le
  have hw8 := hx.w8
  refine go ?_
  refine Sx.ca (vs := [x.v]) (by rw [hv']; rfl) (grMade hx) ?_
  rintro v L' ⟨nn, r, r2, c, c2, Q, rfl, rfl⟩
  refine Sx.ent grF_out ?_
  refine Sx.re [.int .i64 x.w, .int .i64 x.c, .int .i64 x.wd, .int .i64 x.sl, .int .i64 64, .int .i64 1] rfl ?_
  dsimp only [grF]
  refine go ?_
  refine Sx.ca rfl (number cls 4 (by omega) (by omega)) ?_
  rintro v L' ⟨rfl, rfl⟩
  have hq1 := Int.emod_nonneg cls (show (4 : Int) ≠ 0 by omega)
  have hq2 := Int.emod_lt_of_pos cls (show (0 : Int) < 4 by omega)
  obtain ⟨cl, hcle, hcl⟩ : ∃ cl : Nat, cls % 4 = cl ∧ cl ≤ 3 := ⟨(cls % 4).toNat, by omega, by omega⟩
  rw [hcle]
  obtain ⟨M, hM, hMn, hml, hmo, hpo, hrt, hoth, hsp, hgen⟩ := region0 hx cl hcl
  have hG0 := GA.first hml hmo hpo hrt
  refine go ?_
  obtain ⟨CB, hCB⟩ : ∃ CB : Option Addr → As, CB = Blk 24 [.int .i64 x.w, .int .i64 x.c, .int .i64 x.wd, .int .i64 x.sl, .int .i64 64, .int .i64 1] := ⟨_, rfl⟩
  have gr := grRegion (x := x) (n := nn) (r := some ⟨r, 0, none⟩) (r2 := some ⟨r2, 0, none⟩) (k := 3) (c := c) (c2 := c2) (m := allM x) (s := 0) (l := (iotaI x.sl).tail)
    (G := pt (some ⟨gb, 0, none⟩) (Blk 24 [.int .i64 x.w, .int .i64 x.c, .int .i64 x.wd, .int .i64 x.sl, .int .i64 64, .int .i64 1]) :: pt (some ⟨r, 0, none⟩) (Row 47 1 3 c (ptrs 3 fun i => (Q i).u)) :: pt (some ⟨(Q 0).u, 0, none⟩) (SupO nn.mp (Q 0).pb x (SupS.nil x.ca)) :: pt (some ⟨(Q 0).pb, 0, none⟩) (SkO nn.mp x.pool) ::
      pt (some ⟨nn.g, 0, none⟩) (GrO nn.mp x) :: pt (some ⟨nn.pb, 0, none⟩) (SkO nn.mp x.pool) :: [Old w]) cl hcl hx (allM_len x) (allM_ok hx) hsp
  rw [hM, hgen] at gr
  refine Sx.ent ?_ (Sx.ca rfl gr ?_)
  · refine Ent.trans (Ent.ith 0 (by omega)) ?_
    simp only [whoL, List.cons_append, List.nil_append]
    exact entm
  clear hCB CB
  rintro v L' ⟨rfl, rfl⟩
  refine go ?_
  refine Cx.lp (α := {p : Nat × Mm × Int × Nat × Nat × List Int // p.1 ≤ xs.length ∧ GA x cl p.2.1 p.2.2.1 p.2.2.2.1 p.2.2.2.2.1 p.2.2.2.2.2})
    (fun p => [(2, .slice sa xs.length scp), (7, .bool true), (8, .pointer (some ⟨gb, 0, none⟩)), (9, .pointer (some ⟨nn.a, 0, none⟩)), (10, .int .i64 (cl : Nat)), (11, .int .i64 ((0 : Nat) : Int)), (12, .int .i64 ((1 : Nat) : Int)), (14, .int .i64 p.1.2.2.1), (15, .int .i64 (p.1.2.2.2.1 : Nat)), (16, .int .i64 (p.1.2.2.2.2.1 : Nat)), (17, .int .i64 (p.1.1 : Nat))])
    (fun p => agF x nn r (some ⟨r2, 0, none⟩) 3 c c2 Q 0 (SupS.nil x.ca) p.1.2.1 (pt (some ⟨gb, 0, none⟩) (Blk 24 [.int .i64 x.w, .int .i64 x.c, .int .i64 x.wd, .int .i64 x.sl, .int .i64 64, .int .i64 1]) :: pt (some ⟨nn.ro, 0, none⟩) (RoO nn.mp nn.sp x) :: pt (some ⟨nn.pb, 0, none⟩) (SkO nn.mp x.pool) :: [Old w]))
    (fun p => xs.length - p.1.1) ⟨(0, M, -1, 0, 0, iotaI x.c), Nat.zero_le _, hG0⟩ (sub.cons rfl (sub.cons rfl (sub.cons rfl (sub.cons rfl (sub.cons rfl (sub.cons rfl (sub.cons rfl (sub.cons rfl (sub.cons rfl (sub.cons rfl (sub.cons rfl sub.nil))))))))))) ?_ ?_
  · dsimp only [agF]
    exact ent
  rintro ⟨⟨i, m, ch, off, used, l⟩, hi, hG⟩
  dsimp only [agF] at hi hG ⊢
  refine go ?_
  refine Cx.ifp rfl (fun h => ?_) (fun h => ?_)
  · have hik : i < xs.length := by omega
    have hg : (ints xs)[i]? = some (.int .i64 xs[i]) := by simp [ints]
    obtain ⟨b0, o, rfl, _⟩ := (hRd [Old w] (Ent.refl _)).at1_ hg
    have hat : ∀ L, Ent L [Old w] → Has L b0 (o + i * 1) [.int .i64 xs[i]] := fun L hL => by
      obtain ⟨_, _, e, h⟩ := (hRd L hL).at1_ hg
      simp only [Option.some.injEq, Addr.mk.injEq, and_true] at e
      obtain ⟨rfl, rfl⟩ := e
      simpa using h
    have hz1 := Int.emod_nonneg xs[i] (show (x.wd : Int) ≠ 0 by omega)
    have hz2 := Int.emod_lt_of_pos xs[i] (show (0 : Int) < (x.wd : Int) by omega)
    obtain ⟨sz, hsz⟩ : ∃ sz : Nat, 1 + xs[i] % (x.wd : Int) = sz := ⟨(1 + xs[i] % (x.wd : Int)).toNat, by omega⟩
    refine go ?_
    refine Cx.ordc rfl (by kernel_rfl) ?_
    refine ge ?_
    refine Ev.ldH (by kernel_rfl) rfl rfl (hat _ (by exact ent)) rfl ?_
    refine ge ?_
    refine Ev.cakH (by kernel_rfl) rfl rfl (number xs[i] (x.wd : Int) (by omega) (by omega)) ?_
    refine ge ?_
    rw [w64 (n := 1 + xs[i] % (x.wd : Int)) (by omega) (by omega), hsz]
    refine go ?_
    rw [wrap64 (n := cl) (by omega)]
    refine Sx.pv rfl (by omega) ?_
    have hp : 1 ≤ 2 ^ cl ∧ 2 ^ cl ≤ 8 := by rcases (show cl = 0 ∨ cl = 1 ∨ cl = 2 ∨ cl = 3 by omega) with rfl | rfl | rfl | rfl <;> decide
    have e3 : min (cl : Int).toNat IntKind.i64.bits = cl := by rw [Int.toNat_natCast]; exact Nat.min_eq_left (by show cl ≤ 64; omega)
    obtain ⟨P, hP⟩ : ∃ P, P = 2 ^ cl := ⟨_, rfl⟩
    rw [← hP] at hp
    rw [e3, show (1 : Int) * 2 ^ cl = ((2 ^ cl : Nat) : Int) by push_cast; omega, ← hP, w64 (n := (P : Int)) (by omega) (by omega)]
    refine go ?_
    rw [w64 (n := (sz : Int) + P) (by omega) (by omega), w64 (n := (sz : Int) + P - 1) (by omega) (by omega)]
    refine Sx.pv rfl (by omega) ?_
    have e4 : Int.tdiv ((sz : Int) + P - 1) P = (((sz + P - 1) / P : Nat) : Int) := by
      rw [show (sz : Int) + P - 1 = ((sz + P - 1 : Nat) : Int) by omega]; rfl
    have e5 : (sz + P - 1) / P * P ≤ sz + P - 1 := Nat.div_mul_le_self _ _
    have e6 : (sz + P - 1) / P ≤ sz + P - 1 := Nat.div_le_self _ _
    have e7 : roundS cl sz = (sz + P - 1) / P * P := by unfold roundS; rw [hP]
    have e8 : (((sz + P - 1) / P : Nat) : Int) * (P : Int) = (((sz + P - 1) / P * P : Nat) : Int) := by push_cast; rfl
    obtain ⟨D, hD⟩ : ∃ D, (sz + P - 1) / P = D := ⟨_, rfl⟩
    rw [hD] at e4 e5 e6 e7 e8
    obtain ⟨need, hE⟩ : ∃ need, D * P = need := ⟨_, rfl⟩
    rw [hE] at e5 e7 e8
    rw [e4, w64 (n := (D : Int)) (by omega) (by omega)]
    refine go ?_
    rw [e8, w64 (n := (need : Int)) (by omega) (by omega)]
    have hnw : need ≤ x.wd := by rw [← e7]; exact roundS_le hcl (by omega) hw8
    have hnn : 1 ≤ need := by have := roundS_ge (n := sz) hcl; omega
    clear e3 e4 e5 e6 e8
    refine go ?_
    by_cases hf : 0 ≤ ch ∧ fitsS x.wd off need
    · obtain ⟨M2, A, ae, arun, a1, a2, a3, a4, hG2⟩ := hG.fit (S := SupS.nil x.ca) hx hcl (n := sz) (by omega) (by omega) (by show 0 + 0 ≤ 1000; omega) (by rw [exa]; decide) (by rw [exa]; decide) (by rw [exa]; decide) hf.1 need e7 hf.2
      have ga := grAlone (x := x) (n := nn) (r := r) (r2 := some ⟨r2, 0, none⟩) (k := 3) (c := c) (c2 := c2) (Q := Q) (i := 0) (S := SupS.nil x.ca) (m := m) (slot := 0) (gen := 1) (sz := sz) (G := pt (some ⟨gb, 0, none⟩) (Blk 24 [.int .i64 x.w, .int .i64 x.c, .int .i64 x.wd, .int .i64 x.sl, .int .i64 64, .int .i64 1]) :: pt (some ⟨nn.ro, 0, none⟩) (RoO nn.mp nn.sp x) :: pt (some ⟨nn.pb, 0, none⟩) (SkO nn.mp x.pool) :: [Old w]) 2 (by omega) (by omega) (by omega) hx (by omega) (by omega) (by omega) hw8 arun
      rw [ae] at ga
      refine Sx.ca rfl ga ?_
      rintro v L' ⟨b, rfl, rfl⟩
      dsimp only [agF]
      refine go ?_
      refine Sx.ca rfl (alDone (b := b) (g := nn.g) (u := (Q 0).u) (pb := (Q 0).pb) (x := x) (slot := 0) (gen := 1) (n := sz) (s := A) a1) ?_
      rintro v L' ⟨rfl, rfl⟩
      refine go ?_
      refine Sx.gyes rfl (decide_eq_true hf.1) ?_
      refine go ?_
      have hff := hf.2
      unfold fitsS at hff
      rw [w64 (n := 2 * (need : Int)) (by omega) (by omega)]
      refine Sx.gyes rfl (decide_eq_true (by omega)) ?_
      refine go ?_
      rw [w64 (n := (off : Int) + need) (by omega) (by omega)]
      refine Cx.cyes rfl (decide_eq_true (by omega)) ?_
      refine go ?_
      refine Sx.ca rfl (alObject (b := b) (g := nn.g) (u := (Q 0).u) (pb := (Q 0).pb) (x := x) (slot := 0) (gen := 1) (n := sz) (s := A) a1) ?_
      rintro v L' ⟨rfl, rfl⟩
      rw [a3]
      refine go ?_
      refine Sx.gyes rfl (by simp) ?_
      refine go ?_
      refine Sx.ca rfl (alPoint (b := b) (g := nn.g) (u := (Q 0).u) (pb := (Q 0).pb) (x := x) (slot := 0) (gen := 1) (n := sz) (s := A) a1) ?_
      rintro v L' ⟨rfl, rfl⟩
      rw [a4]
      refine go ?_
      rw [w64 (n := (off : Int) + need) (by omega) (by omega)]
      refine go ?_
      refine Sx.ca rfl (rootsRoot (g := nn.ro) (mp := nn.mp) (sb := nn.sp) (x := x) (m := M2) 0 (by omega) hx hG2.ok (by have := hG2.len; omega)) ?_
      rintro v L' ⟨rfl, rfl⟩
      rw [hG2.root, if_neg (by omega)]
      refine go ?_
      refine Sx.al fun q => ?_
      refine Sx.st (b := q) rfl rfl rfl rfl rfl rfl ?_
      refine Sx.re (rtL ⟨1, (ch + 2).toNat, cl, off + need⟩) rfl ?_
      refine go ?_
      have hc2 := hG.ch2
      refine Sx.gyes rfl (by simp) ?_
      refine go ?_
      refine Sx.gyes rfl (decide_eq_true hf.1) ?_
      refine go ?_
      rw [w64 (n := ch + 2) (by omega) (by omega)]
      refine Sx.gyes rfl (by simp; omega) ?_
      refine go ?_
      refine Sx.gyes rfl (by simp) ?_
      refine go ?_
      refine Sx.gno rfl (decide_eq_false (by omega)) ?_
      refine go ?_
      rw [w64 (n := (i : Int) + 1) (by omega) (by omega)]
      refine Klp.nm ⟨(i + 1, M2, ch, off + need, used, l), by dsimp only; omega, hG2⟩ (sub.cons rfl (sub.cons rfl (sub.cons rfl (sub.cons rfl (sub.cons rfl (sub.cons rfl (sub.cons rfl (sub.cons rfl (sub.cons rfl (sub.cons rfl (sub.cons rfl sub.nil))))))))))) ?_ (by dsimp only; omega)
      dsimp only [agF]
      exact ent
    · by_cases hu : used = x.c
      · obtain ⟨M2, A, ae, arun, a1, a2, a3, a4, hG2⟩ := hG.none_ (n := sz) (S := SupS.nil x.ca) hx hcl (by show 0 + 0 ≤ 1000; omega) (by rw [exa]; decide) (by rw [exa]; decide) exb rfl rfl need e7 hf hu
        have ga := grAlone (x := x) (n := nn) (r := r) (r2 := some ⟨r2, 0, none⟩) (k := 3) (c := c) (c2 := c2) (Q := Q) (i := 0) (S := SupS.nil x.ca) (m := m) (slot := 0) (gen := 1) (sz := sz) (G := pt (some ⟨gb, 0, none⟩) (Blk 24 [.int .i64 x.w, .int .i64 x.c, .int .i64 x.wd, .int .i64 x.sl, .int .i64 64, .int .i64 1]) :: pt (some ⟨nn.ro, 0, none⟩) (RoO nn.mp nn.sp x) :: pt (some ⟨nn.pb, 0, none⟩) (SkO nn.mp x.pool) :: [Old w]) 3 (by omega) (by omega) (by omega) hx (by omega) (by omega) (by omega) hw8 arun
        rw [ae] at ga
        refine Sx.ca rfl ga ?_
        rintro v L' ⟨b, rfl, rfl⟩
        dsimp only [agF]
        refine go ?_
        refine Sx.ca rfl (alDone (b := b) (g := nn.g) (u := (Q 0).u) (pb := (Q 0).pb) (x := x) (slot := 0) (gen := 1) (n := sz) (s := A) a1) ?_
        rintro v L' ⟨rfl, rfl⟩
        refine go ?_
        have hch2 := hG.ch2
        have hch1 := hG.ch1
        have hcnt := hG.cnt
        have hff : ch < 0 ∨ (0 ≤ ch ∧ x.wd < 2 * need) ∨ (0 ≤ ch ∧ 2 * need ≤ x.wd ∧ x.wd < off + need) := by
          unfold fitsS at hf; omega
        have ho1 := hG.off1
        rcases hff with h1 | ⟨h0, h1⟩ | ⟨h0, h1, h2⟩
        · refine Sx.gno rfl (decide_eq_false (by omega)) ?_
          refine go ?_
          refine Cx.cyes rfl (decide_eq_true (by omega)) ?_
          refine go ?_
          refine Sx.ca rfl (alCode (b := b) (g := nn.g) (u := (Q 0).u) (pb := (Q 0).pb) (x := x) (slot := 0) (gen := 1) (n := sz) (s := A) a1) ?_
          rintro v L' ⟨rfl, rfl⟩
          rw [a2]
          refine go ?_
          refine Sx.ca rfl (alObject (b := b) (g := nn.g) (u := (Q 0).u) (pb := (Q 0).pb) (x := x) (slot := 0) (gen := 1) (n := sz) (s := A) a1) ?_
          rintro v L' ⟨rfl, rfl⟩
          rw [a3]
          refine go ?_
          refine Sx.ca rfl (alPoint (b := b) (g := nn.g) (u := (Q 0).u) (pb := (Q 0).pb) (x := x) (slot := 0) (gen := 1) (n := sz) (s := A) a1) ?_
          rintro v L' ⟨rfl, rfl⟩
          rw [a4]
          refine go ?_
          refine Sx.ca rfl (rootsRoot (g := nn.ro) (mp := nn.mp) (sb := nn.sp) (x := x) (m := M2) 0 (by omega) hx hG2.ok (by have := hG2.len; omega)) ?_
          rintro v L' ⟨rfl, rfl⟩
          rw [hG2.root, if_pos (by omega)]
          refine go ?_
          refine Sx.al fun q => ?_
          refine Sx.st (b := q) rfl rfl rfl rfl rfl rfl ?_
          refine Sx.re (rtL ⟨1, 1, cl, off⟩) rfl ?_
          refine go ?_
          refine Sx.gyes rfl (by simp) ?_
          refine go ?_
          refine Sx.gno rfl (decide_eq_false (by omega)) ?_
          refine go ?_
          refine Sx.gyes rfl (decide_eq_true (by omega)) ?_
          refine go ?_
          rw [w64 (n := (i : Int) + 1) (by omega) (by omega)]
          refine Klp.nm ⟨(i + 1, M2, ch, off, used, l), by dsimp only; omega, hG2⟩ (sub.cons rfl (sub.cons rfl (sub.cons rfl (sub.cons rfl (sub.cons rfl (sub.cons rfl (sub.cons rfl (sub.cons rfl (sub.cons rfl (sub.cons rfl (sub.cons rfl sub.nil))))))))))) ?_ (by dsimp only; omega)
          dsimp only [agF]
          exact ent
        · refine Sx.gyes rfl (decide_eq_true h0) ?_
          refine go ?_
          rw [w64 (n := 2 * (need : Int)) (by omega) (by omega)]
          refine Sx.gno rfl (decide_eq_false (by omega)) ?_
          refine go ?_
          refine Cx.cyes rfl (decide_eq_true (by omega)) ?_
          refine go ?_
          refine Sx.ca rfl (alCode (b := b) (g := nn.g) (u := (Q 0).u) (pb := (Q 0).pb) (x := x) (slot := 0) (gen := 1) (n := sz) (s := A) a1) ?_
          rintro v L' ⟨rfl, rfl⟩
          rw [a2]
          refine go ?_
          refine Sx.ca rfl (alObject (b := b) (g := nn.g) (u := (Q 0).u) (pb := (Q 0).pb) (x := x) (slot := 0) (gen := 1) (n := sz) (s := A) a1) ?_
          rintro v L' ⟨rfl, rfl⟩
          rw [a3]
          refine go ?_
          refine Sx.ca rfl (alPoint (b := b) (g := nn.g) (u := (Q 0).u) (pb := (Q 0).pb) (x := x) (slot := 0) (gen := 1) (n := sz) (s := A) a1) ?_
          rintro v L' ⟨rfl, rfl⟩
          rw [a4]
          refine go ?_
          refine Sx.ca rfl (rootsRoot (g := nn.ro) (mp := nn.mp) (sb := nn.sp) (x := x) (m := M2) 0 (by omega) hx hG2.ok (by have := hG2.len; omega)) ?_
          rintro v L' ⟨rfl, rfl⟩
          rw [hG2.root, if_neg (by omega)]
          refine go ?_
          refine Sx.al fun q => ?_
          refine Sx.st (b := q) rfl rfl rfl rfl rfl rfl ?_
          refine Sx.re (rtL ⟨1, (ch + 2).toNat, cl, off⟩) rfl ?_
          refine go ?_
          refine Sx.gyes rfl (by simp) ?_
          refine go ?_
          refine Sx.gyes rfl (decide_eq_true (by omega)) ?_
          refine go ?_
          rw [w64 (n := ch + 2) (by omega) (by omega)]
          refine Sx.gyes rfl (by simp; omega) ?_
          refine go ?_
          refine Sx.gyes rfl (by simp) ?_
          refine go ?_
          refine Sx.gno rfl (decide_eq_false (by omega)) ?_
          refine go ?_
          rw [w64 (n := (i : Int) + 1) (by omega) (by omega)]
          refine Klp.nm ⟨(i + 1, M2, ch, off, used, l), by dsimp only; omega, hG2⟩ (sub.cons rfl (sub.cons rfl (sub.cons rfl (sub.cons rfl (sub.cons rfl (sub.cons rfl (sub.cons rfl (sub.cons rfl (sub.cons rfl (sub.cons rfl (sub.cons rfl sub.nil))))))))))) ?_ (by dsimp only; omega)
          dsimp only [agF]
          exact ent
        · refine Sx.gyes rfl (decide_eq_true h0) ?_
          refine go ?_
          rw [w64 (n := 2 * (need : Int)) (by omega) (by omega)]
          refine Sx.gyes rfl (decide_eq_true (by omega)) ?_
          refine go ?_
          rw [w64 (n := (off : Int) + need) (by omega) (by omega)]
          refine Cx.cno rfl (decide_eq_false (by omega)) ?_
          refine go ?_
          refine Cx.cyes rfl (decide_eq_true (by omega)) ?_
          refine go ?_
          refine Sx.ca rfl (alCode (b := b) (g := nn.g) (u := (Q 0).u) (pb := (Q 0).pb) (x := x) (slot := 0) (gen := 1) (n := sz) (s := A) a1) ?_
          rintro v L' ⟨rfl, rfl⟩
          rw [a2]
          refine go ?_
          refine Sx.ca rfl (alObject (b := b) (g := nn.g) (u := (Q 0).u) (pb := (Q 0).pb) (x := x) (slot := 0) (gen := 1) (n := sz) (s := A) a1) ?_
          rintro v L' ⟨rfl, rfl⟩
          rw [a3]
          refine go ?_
          refine Sx.ca rfl (alPoint (b := b) (g := nn.g) (u := (Q 0).u) (pb := (Q 0).pb) (x := x) (slot := 0) (gen := 1) (n := sz) (s := A) a1) ?_
          rintro v L' ⟨rfl, rfl⟩
          rw [a4]
          refine go ?_
          refine Sx.ca rfl (rootsRoot (g := nn.ro) (mp := nn.mp) (sb := nn.sp) (x := x) (m := M2) 0 (by omega) hx hG2.ok (by have := hG2.len; omega)) ?_
          rintro v L' ⟨rfl, rfl⟩
          rw [hG2.root, if_neg (by omega)]
          refine go ?_
          refine Sx.al fun q => ?_
          refine Sx.st (b := q) rfl rfl rfl rfl rfl rfl ?_
          refine Sx.re (rtL ⟨1, (ch + 2).toNat, cl, off⟩) rfl ?_
          refine go ?_
          refine Sx.gyes rfl (by simp) ?_
          refine go ?_
          refine Sx.gyes rfl (decide_eq_true (by omega)) ?_
          refine go ?_
          rw [w64 (n := ch + 2) (by omega) (by omega)]
          refine Sx.gyes rfl (by simp; omega) ?_
          refine go ?_
          refine Sx.gyes rfl (by simp) ?_
          refine go ?_
          refine Sx.gno rfl (decide_eq_false (by omega)) ?_
          refine go ?_
          rw [w64 (n := (i : Int) + 1) (by omega) (by omega)]
          refine Klp.nm ⟨(i + 1, M2, ch, off, used, l), by dsimp only; omega, hG2⟩ (sub.cons rfl (sub.cons rfl (sub.cons rfl (sub.cons rfl (sub.cons rfl (sub.cons rfl (sub.cons rfl (sub.cons rfl (sub.cons rfl (sub.cons rfl (sub.cons rfl sub.nil))))))))))) ?_ (by dsimp only; omega)
          dsimp only [agF]
          exact ent
      · obtain ⟨M2, A, y, l', ae, arun, a1, a2, a3, a4, a5, a6, hG2⟩ := hG.more (n := sz) (S := SupS.nil x.ca) hx hcl hw8 (by omega) (by omega) (by show 0 + 0 ≤ 1000; omega) (by rw [exa]; decide) (by rw [exa]; decide) exb rfl rfl need e7 hf hu
        have ga := grAlone (x := x) (n := nn) (r := r) (r2 := some ⟨r2, 0, none⟩) (k := 3) (c := c) (c2 := c2) (Q := Q) (i := 0) (S := SupS.nil x.ca) (m := m) (slot := 0) (gen := 1) (sz := sz) (G := pt (some ⟨gb, 0, none⟩) (Blk 24 [.int .i64 x.w, .int .i64 x.c, .int .i64 x.wd, .int .i64 x.sl, .int .i64 64, .int .i64 1]) :: pt (some ⟨nn.ro, 0, none⟩) (RoO nn.mp nn.sp x) :: pt (some ⟨nn.pb, 0, none⟩) (SkO nn.mp x.pool) :: [Old w]) (x.wd + 6) (by omega) (by omega) (by omega) hx (by omega) (by omega) (by omega) hw8 arun
        rw [ae] at ga
        refine Sx.ca rfl ga ?_
        rintro v L' ⟨b, rfl, rfl⟩
        dsimp only [agF]
        refine go ?_
        refine Sx.ca rfl (alDone (b := b) (g := nn.g) (u := (Q 0).u) (pb := (Q 0).pb) (x := x) (slot := 0) (gen := 1) (n := sz) (s := A) a1) ?_
        rintro v L' ⟨rfl, rfl⟩
        refine go ?_
        have hch2 := hG.ch2
        have hch1 := hG.ch1
        have hcnt := hG.cnt
        have hff : ch < 0 ∨ (0 ≤ ch ∧ x.wd < 2 * need) ∨ (0 ≤ ch ∧ 2 * need ≤ x.wd ∧ x.wd < off + need) := by
          unfold fitsS at hf; omega
        have ho1 := hG.off1
        rcases hff with h1 | ⟨h0, h1⟩ | ⟨h0, h1, h2⟩
        · refine Sx.gno rfl (decide_eq_false (by omega)) ?_
          refine go ?_
          refine Cx.cno rfl (decide_eq_false (by omega)) ?_
          refine go ?_
          refine Sx.ca rfl (alObject (b := b) (g := nn.g) (u := (Q 0).u) (pb := (Q 0).pb) (x := x) (slot := 0) (gen := 1) (n := sz) (s := A) a1) ?_
          rintro v L' ⟨rfl, rfl⟩
          rw [a3]
          refine go ?_
          refine Sx.al fun q1 => ?_
          refine Sx.st (b := q1) rfl rfl rfl rfl rfl rfl ?_
          refine Sx.re [.int .i64 ((0 : Nat) : Int), .int .i64 1, .int .i64 y, .int .i64 0, .int .i64 (sz : Nat)] rfl ?_
          refine go ?_
          rw [w64 (n := (x.wd : Int) + 6) (by omega) (by omega)]
          refine Sx.gyes rfl (by simp) ?_
          refine go ?_
          refine Sx.ca rfl (alCode (b := b) (g := nn.g) (u := (Q 0).u) (pb := (Q 0).pb) (x := x) (slot := 0) (gen := 1) (n := sz) (s := A) a1) ?_
          rintro v L' ⟨rfl, rfl⟩
          rw [a2]
          refine go ?_
          refine Sx.gyes rfl (by simp) ?_
          refine go ?_
          refine Sx.gyes rfl (decide_eq_false a5) ?_
          refine go ?_
          refine Sx.ca rfl (alPoint (b := b) (g := nn.g) (u := (Q 0).u) (pb := (Q 0).pb) (x := x) (slot := 0) (gen := 1) (n := sz) (s := A) a1) ?_
          rintro v L' ⟨rfl, rfl⟩
          rw [a4]
          refine go ?_
          refine Cx.cno rfl (by simp) ?_
          refine go ?_
          rw [w64 (n := 2 * (need : Int)) (by omega) (by omega)]
          refine go ?_
          refine Cx.ifp rfl (fun h2n => ?_) (fun h2n => ?_)
          · have haf : afterS x.wd need = x.wd := if_pos (by omega)
            rw [haf] at hG2
            refine go ?_
            rw [w64 (n := (used : Int) + 1) (by omega) (by omega)]
            have hG3 := hG2.ch2
            refine Sx.ca rfl (rootsRoot (g := nn.ro) (mp := nn.mp) (sb := nn.sp) (x := x) (m := M2) 0 (by omega) hx hG2.ok (by have := hG2.len; omega)) ?_
            rintro v L' ⟨rfl, rfl⟩
            rw [hG2.root, if_neg (by omega)]
            refine go ?_
            refine Sx.al fun q => ?_
            refine Sx.st (b := q) rfl rfl rfl rfl rfl rfl ?_
            refine Sx.re (rtL ⟨1, (y + 2).toNat, cl, x.wd⟩) rfl ?_
            refine go ?_
            refine Sx.gyes rfl (by simp) ?_
            refine go ?_
            refine Sx.gyes rfl (decide_eq_true (by omega)) ?_
            refine go ?_
            rw [w64 (n := y + 2) (by omega) (by omega)]
            refine Sx.gyes rfl (by simp; omega) ?_
            refine go ?_
            refine Sx.gyes rfl (by simp) ?_
            refine go ?_
            refine Sx.gno rfl (decide_eq_false (by omega)) ?_
            refine go ?_
            rw [w64 (n := (i : Int) + 1) (by omega) (by omega)]
            refine Klp.nm ⟨(i + 1, M2, y, x.wd, used + 1, l'), by dsimp only; omega, hG2⟩ (sub.cons rfl (sub.cons rfl (sub.cons rfl (sub.cons rfl (sub.cons rfl (sub.cons rfl (sub.cons rfl (sub.cons rfl (sub.cons rfl (sub.cons rfl (sub.cons rfl sub.nil))))))))))) ?_ (by dsimp only; omega)
            dsimp only [agF]
            exact ent
          · have haf : afterS x.wd need = need := if_neg (by omega)
            rw [haf] at hG2
            refine go ?_
            rw [w64 (n := (used : Int) + 1) (by omega) (by omega)]
            have hG3 := hG2.ch2
            refine Sx.ca rfl (rootsRoot (g := nn.ro) (mp := nn.mp) (sb := nn.sp) (x := x) (m := M2) 0 (by omega) hx hG2.ok (by have := hG2.len; omega)) ?_
            rintro v L' ⟨rfl, rfl⟩
            rw [hG2.root, if_neg (by omega)]
            refine go ?_
            refine Sx.al fun q => ?_
            refine Sx.st (b := q) rfl rfl rfl rfl rfl rfl ?_
            refine Sx.re (rtL ⟨1, (y + 2).toNat, cl, need⟩) rfl ?_
            refine go ?_
            refine Sx.gyes rfl (by simp) ?_
            refine go ?_
            refine Sx.gyes rfl (decide_eq_true (by omega)) ?_
            refine go ?_
            rw [w64 (n := y + 2) (by omega) (by omega)]
            refine Sx.gyes rfl (by simp; omega) ?_
            refine go ?_
            refine Sx.gyes rfl (by simp) ?_
            refine go ?_
            refine Sx.gno rfl (decide_eq_false (by omega)) ?_
            refine go ?_
            rw [w64 (n := (i : Int) + 1) (by omega) (by omega)]
            refine Klp.nm ⟨(i + 1, M2, y, need, used + 1, l'), by dsimp only; omega, hG2⟩ (sub.cons rfl (sub.cons rfl (sub.cons rfl (sub.cons rfl (sub.cons rfl (sub.cons rfl (sub.cons rfl (sub.cons rfl (sub.cons rfl (sub.cons rfl (sub.cons rfl sub.nil))))))))))) ?_ (by dsimp only; omega)
            dsimp only [agF]
            exact ent
        · refine Sx.gyes rfl (decide_eq_true h0) ?_
          refine go ?_
          rw [w64 (n := 2 * (need : Int)) (by omega) (by omega)]
          refine Sx.gno rfl (decide_eq_false (by omega)) ?_
          refine go ?_
          refine Cx.cno rfl (decide_eq_false (by omega)) ?_
          refine go ?_
          refine Sx.ca rfl (alObject (b := b) (g := nn.g) (u := (Q 0).u) (pb := (Q 0).pb) (x := x) (slot := 0) (gen := 1) (n := sz) (s := A) a1) ?_
          rintro v L' ⟨rfl, rfl⟩
          rw [a3]
          refine go ?_
          refine Sx.al fun q1 => ?_
          refine Sx.st (b := q1) rfl rfl rfl rfl rfl rfl ?_
          refine Sx.re [.int .i64 ((0 : Nat) : Int), .int .i64 1, .int .i64 y, .int .i64 0, .int .i64 (sz : Nat)] rfl ?_
          refine go ?_
          rw [w64 (n := (x.wd : Int) + 6) (by omega) (by omega)]
          refine Sx.gyes rfl (by simp) ?_
          refine go ?_
          refine Sx.ca rfl (alCode (b := b) (g := nn.g) (u := (Q 0).u) (pb := (Q 0).pb) (x := x) (slot := 0) (gen := 1) (n := sz) (s := A) a1) ?_
          rintro v L' ⟨rfl, rfl⟩
          rw [a2]
          refine go ?_
          refine Sx.gyes rfl (by simp) ?_
          refine go ?_
          refine Sx.gyes rfl (decide_eq_false a5) ?_
          refine go ?_
          refine Sx.ca rfl (alPoint (b := b) (g := nn.g) (u := (Q 0).u) (pb := (Q 0).pb) (x := x) (slot := 0) (gen := 1) (n := sz) (s := A) a1) ?_
          rintro v L' ⟨rfl, rfl⟩
          rw [a4]
          refine go ?_
          refine Cx.cno rfl (by simp) ?_
          refine go ?_
          rw [w64 (n := 2 * (need : Int)) (by omega) (by omega)]
          refine go ?_
          refine Cx.ifp rfl (fun h2n => ?_) (fun h2n => ?_)
          · have haf : afterS x.wd need = x.wd := if_pos (by omega)
            rw [haf] at hG2
            refine go ?_
            rw [w64 (n := (used : Int) + 1) (by omega) (by omega)]
            have hG3 := hG2.ch2
            refine Sx.ca rfl (rootsRoot (g := nn.ro) (mp := nn.mp) (sb := nn.sp) (x := x) (m := M2) 0 (by omega) hx hG2.ok (by have := hG2.len; omega)) ?_
            rintro v L' ⟨rfl, rfl⟩
            rw [hG2.root, if_neg (by omega)]
            refine go ?_
            refine Sx.al fun q => ?_
            refine Sx.st (b := q) rfl rfl rfl rfl rfl rfl ?_
            refine Sx.re (rtL ⟨1, (y + 2).toNat, cl, x.wd⟩) rfl ?_
            refine go ?_
            refine Sx.gyes rfl (by simp) ?_
            refine go ?_
            refine Sx.gyes rfl (decide_eq_true (by omega)) ?_
            refine go ?_
            rw [w64 (n := y + 2) (by omega) (by omega)]
            refine Sx.gyes rfl (by simp; omega) ?_
            refine go ?_
            refine Sx.gyes rfl (by simp) ?_
            refine go ?_
            refine Sx.gno rfl (decide_eq_false (by omega)) ?_
            refine go ?_
            rw [w64 (n := (i : Int) + 1) (by omega) (by omega)]
            refine Klp.nm ⟨(i + 1, M2, y, x.wd, used + 1, l'), by dsimp only; omega, hG2⟩ (sub.cons rfl (sub.cons rfl (sub.cons rfl (sub.cons rfl (sub.cons rfl (sub.cons rfl (sub.cons rfl (sub.cons rfl (sub.cons rfl (sub.cons rfl (sub.cons rfl sub.nil))))))))))) ?_ (by dsimp only; omega)
            dsimp only [agF]
            exact ent
          · have haf : afterS x.wd need = need := if_neg (by omega)
            rw [haf] at hG2
            refine go ?_
            rw [w64 (n := (used : Int) + 1) (by omega) (by omega)]
            have hG3 := hG2.ch2
            refine Sx.ca rfl (rootsRoot (g := nn.ro) (mp := nn.mp) (sb := nn.sp) (x := x) (m := M2) 0 (by omega) hx hG2.ok (by have := hG2.len; omega)) ?_
            rintro v L' ⟨rfl, rfl⟩
            rw [hG2.root, if_neg (by omega)]
            refine go ?_
            refine Sx.al fun q => ?_
            refine Sx.st (b := q) rfl rfl rfl rfl rfl rfl ?_
            refine Sx.re (rtL ⟨1, (y + 2).toNat, cl, need⟩) rfl ?_
            refine go ?_
            refine Sx.gyes rfl (by simp) ?_
            refine go ?_
            refine Sx.gyes rfl (decide_eq_true (by omega)) ?_
            refine go ?_
            rw [w64 (n := y + 2) (by omega) (by omega)]
            refine Sx.gyes rfl (by simp; omega) ?_
            refine go ?_
            refine Sx.gyes rfl (by simp) ?_
            refine go ?_
            refine Sx.gno rfl (decide_eq_false (by omega)) ?_
            refine go ?_
            rw [w64 (n := (i : Int) + 1) (by omega) (by omega)]
            refine Klp.nm ⟨(i + 1, M2, y, need, used + 1, l'), by dsimp only; omega, hG2⟩ (sub.cons rfl (sub.cons rfl (sub.cons rfl (sub.cons rfl (sub.cons rfl (sub.cons rfl (sub.cons rfl (sub.cons rfl (sub.cons rfl (sub.cons rfl (sub.cons rfl sub.nil))))))))))) ?_ (by dsimp only; omega)
            dsimp only [agF]
            exact ent
        · refine Sx.gyes rfl (decide_eq_true h0) ?_
          refine go ?_
          rw [w64 (n := 2 * (need : Int)) (by omega) (by omega)]
          refine Sx.gyes rfl (decide_eq_true (by omega)) ?_
          refine go ?_
          rw [w64 (n := (off : Int) + need) (by omega) (by omega)]
          refine Cx.cno rfl (decide_eq_false (by omega)) ?_
          refine go ?_
          refine Cx.cno rfl (decide_eq_false (by omega)) ?_
          refine go ?_
          refine Sx.ca rfl (alObject (b := b) (g := nn.g) (u := (Q 0).u) (pb := (Q 0).pb) (x := x) (slot := 0) (gen := 1) (n := sz) (s := A) a1) ?_
          rintro v L' ⟨rfl, rfl⟩
          rw [a3]
          refine go ?_
          refine Sx.al fun q1 => ?_
          refine Sx.st (b := q1) rfl rfl rfl rfl rfl rfl ?_
          refine Sx.re [.int .i64 ((0 : Nat) : Int), .int .i64 1, .int .i64 y, .int .i64 0, .int .i64 (sz : Nat)] rfl ?_
          refine go ?_
          rw [w64 (n := (x.wd : Int) + 6) (by omega) (by omega)]
          refine Sx.gyes rfl (by simp) ?_
          refine go ?_
          refine Sx.ca rfl (alCode (b := b) (g := nn.g) (u := (Q 0).u) (pb := (Q 0).pb) (x := x) (slot := 0) (gen := 1) (n := sz) (s := A) a1) ?_
          rintro v L' ⟨rfl, rfl⟩
          rw [a2]
          refine go ?_
          refine Sx.gyes rfl (by simp) ?_
          refine go ?_
          refine Sx.gyes rfl (decide_eq_false a5) ?_
          refine go ?_
          refine Sx.ca rfl (alPoint (b := b) (g := nn.g) (u := (Q 0).u) (pb := (Q 0).pb) (x := x) (slot := 0) (gen := 1) (n := sz) (s := A) a1) ?_
          rintro v L' ⟨rfl, rfl⟩
          rw [a4]
          refine go ?_
          refine Cx.cno rfl (by simp) ?_
          refine go ?_
          rw [w64 (n := 2 * (need : Int)) (by omega) (by omega)]
          refine go ?_
          refine Cx.ifp rfl (fun h2n => ?_) (fun h2n => ?_)
          · have haf : afterS x.wd need = x.wd := if_pos (by omega)
            rw [haf] at hG2
            refine go ?_
            rw [w64 (n := (used : Int) + 1) (by omega) (by omega)]
            have hG3 := hG2.ch2
            refine Sx.ca rfl (rootsRoot (g := nn.ro) (mp := nn.mp) (sb := nn.sp) (x := x) (m := M2) 0 (by omega) hx hG2.ok (by have := hG2.len; omega)) ?_
            rintro v L' ⟨rfl, rfl⟩
            rw [hG2.root, if_neg (by omega)]
            refine go ?_
            refine Sx.al fun q => ?_
            refine Sx.st (b := q) rfl rfl rfl rfl rfl rfl ?_
            refine Sx.re (rtL ⟨1, (y + 2).toNat, cl, x.wd⟩) rfl ?_
            refine go ?_
            refine Sx.gyes rfl (by simp) ?_
            refine go ?_
            refine Sx.gyes rfl (decide_eq_true (by omega)) ?_
            refine go ?_
            rw [w64 (n := y + 2) (by omega) (by omega)]
            refine Sx.gyes rfl (by simp; omega) ?_
            refine go ?_
            refine Sx.gyes rfl (by simp) ?_
            refine go ?_
            refine Sx.gno rfl (decide_eq_false (by omega)) ?_
            refine go ?_
            rw [w64 (n := (i : Int) + 1) (by omega) (by omega)]
            refine Klp.nm ⟨(i + 1, M2, y, x.wd, used + 1, l'), by dsimp only; omega, hG2⟩ (sub.cons rfl (sub.cons rfl (sub.cons rfl (sub.cons rfl (sub.cons rfl (sub.cons rfl (sub.cons rfl (sub.cons rfl (sub.cons rfl (sub.cons rfl (sub.cons rfl sub.nil))))))))))) ?_ (by dsimp only; omega)
            dsimp only [agF]
            exact ent
          · have haf : afterS x.wd need = need := if_neg (by omega)
            rw [haf] at hG2
            refine go ?_
            rw [w64 (n := (used : Int) + 1) (by omega) (by omega)]
            have hG3 := hG2.ch2
            refine Sx.ca rfl (rootsRoot (g := nn.ro) (mp := nn.mp) (sb := nn.sp) (x := x) (m := M2) 0 (by omega) hx hG2.ok (by have := hG2.len; omega)) ?_
            rintro v L' ⟨rfl, rfl⟩
            rw [hG2.root, if_neg (by omega)]
            refine go ?_
            refine Sx.al fun q => ?_
            refine Sx.st (b := q) rfl rfl rfl rfl rfl rfl ?_
            refine Sx.re (rtL ⟨1, (y + 2).toNat, cl, need⟩) rfl ?_
            refine go ?_
            refine Sx.gyes rfl (by simp) ?_
            refine go ?_
            refine Sx.gyes rfl (decide_eq_true (by omega)) ?_
            refine go ?_
            rw [w64 (n := y + 2) (by omega) (by omega)]
            refine Sx.gyes rfl (by simp; omega) ?_
            refine go ?_
            refine Sx.gyes rfl (by simp) ?_
            refine go ?_
            refine Sx.gno rfl (decide_eq_false (by omega)) ?_
            refine go ?_
            rw [w64 (n := (i : Int) + 1) (by omega) (by omega)]
            refine Klp.nm ⟨(i + 1, M2, y, need, used + 1, l'), by dsimp only; omega, hG2⟩ (sub.cons rfl (sub.cons rfl (sub.cons rfl (sub.cons rfl (sub.cons rfl (sub.cons rfl (sub.cons rfl (sub.cons rfl (sub.cons rfl (sub.cons rfl (sub.cons rfl sub.nil))))))))))) ?_ (by dsimp only; omega)
            dsimp only [agF]
            exact ent
  · obtain rfl : i = xs.length := by omega
    have hml' := hG.len
    have hcnt := hG.cnt
    refine go ?_
    refine Cx.ordc rfl (by kernel_rfl) ?_
    refine ge ?_
    refine Ev.yes 243 rfl rfl ?_
    refine ge ?_
    iterate 4 (refine Ev.bring 2 rfl ?_; refine ge ?_)
    refine Ev.caH (by kernel_rfl) rfl rfl (stackList (sb := nn.pb) (mp := nn.mp) (k := x.pool) (m := m) (hx.pool (by omega) (by omega))) (.keep (fun v L' ⟨_, _, _, e⟩ => by subst e; exact Has.cell rfl) (Pres.deps (by kernel_rfl))) ?_
    rw [list_pool hG.pool]
    rintro v L' ⟨ro, co, rfl, rfl⟩
    refine ge ?_
    rw [w64 (n := (x.c : Int) - used) (by omega) (by omega)]
    refine go ?_
    refine Kr.one (.inr rfl) rfl (Ent.refl _) ⟨by rw [decide_eq_true (show (l.length : Int) = (x.c : Int) - used by omega)], ?_⟩
    exact ent
end
end Go.Proofs.YtflalhdofhobmaaGreat
