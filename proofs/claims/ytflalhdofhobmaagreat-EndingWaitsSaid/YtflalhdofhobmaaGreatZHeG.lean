/-
  Parts of the proof, merged: what the statement leans on.
-/
import Derived.Deep.Slices
import Derived.Deep.Fields
import Derived.Test.YtflalhdofhobmaaGreatZHeF
set_option linter.unusedVariables false
set_option linter.unusedSimpArgs false

namespace Go.Proofs.YtflalhdofhobmaaGreat
theorem frIt_add {p : FrP} {r : Mm × SupS × FrS} {j : Nat} : ∀ i, frIt p i (frIt p j r) = frIt p (j + i) r
 | 0 => rfl
 | i + 1 => by
   show frStep p (frIt p i (frIt p j r)).1 (frIt p i (frIt p j r)).2.1 (frIt p i (frIt p j r)).2.2 = _
   rw [frIt_add i]
   rfl
theorem frIt_idle {p : FrP} {r : Mm × SupS × FrS} {j : Nat} (h : (frIt p j r).2.2.done = true) : ∀ i, frIt p (j + i) r = frIt p j r
 | 0 => rfl
 | i + 1 => by
   show frStep p (frIt p (j + i) r).1 (frIt p (j + i) r).2.1 (frIt p (j + i) r).2.2 = _
   rw [frIt_idle h i]
   unfold frStep
   rw [if_pos h]
section
variable {x : Cn} {slot : Nat} {gen : Int} {m : Mm} {S : SupS}
theorem FrRun.append {p : FrP} {r r1 : Mm × SupS × FrS} {a N : Nat} (he : frIt p a r = r1) (h1 : ∀ j, j < a → FrGood x p.slot (frIt p j r) ∧ (frIt p j r).2.2.done = false) (h2 : FrRun x p r1 N) : FrRun x p r (a + N) := by
 subst he
 refine ⟨fun j hj => ?_, fun j hj => ?_, ?_⟩
 ·by_cases h : j < a
  ·exact (h1 j h).1
  ·obtain ⟨i, rfl⟩ : ∃ i, j = a + i := ⟨j - a, by omega⟩
   rw [← frIt_add]
   exact h2.good i (by omega)
 ·by_cases h : j < a
  ·exact (h1 j h).2
  ·obtain ⟨i, rfl⟩ : ∃ i, j = a + i := ⟨j - a, by omega⟩
   rw [← frIt_add]
   exact h2.nd i (by omega)
 ·rw [← frIt_add]
  exact h2.d
theorem FrRun.all {p : FrP} {r : Mm × SupS × FrS} {N : Nat} (h : FrRun x p r N) (j : Nat) : FrGood x p.slot (frIt p j r) := by
 by_cases hj : j ≤ N
 ·exact h.good j hj
 ·obtain ⟨i, rfl⟩ : ∃ i, j = N + i := ⟨j - N, by omega⟩
  rw [frIt_idle h.d]
  exact h.good N (Nat.le_refl _)
theorem frOk_init : FrOk x FrS.init := ⟨by show 0 ≤ 4; omega, by show 0 ≤ 1000000; omega, fun _ => EndS.ok_init, (fun _ h => by cases h), (fun h => by cases h)⟩
theorem fr_end2 (hl : m.ws.length = x.len) (hm : m.ok) (hs : S.xs.length + S.lm.size ≤ 1000) (hm0 : 0 ≤ S.most) (hm2 : S.most ≤ 64) (hlv : (rtOf (m.at_ (x.root + slot))).live gen) (hmk : (rtOf (m.at_ (x.root + slot))).mrk ≤ x.c + 1) (hc : x.c ≤ 4096) :
  frIt (x.fr slot gen) 2 (m, S, FrS.init) = (m.tick.put (x.root + slot) (Rt.w ⟨(rtOf (m.at_ (x.root + slot))).gen, 0, 0, 0⟩), S, frEnded (x.fr slot gen) ⟨2, 0, -1, -1, 0, 0, 0⟩ ⟨1, 2, m.at_ (x.root + slot), 0, (rtOf (m.at_ (x.root + slot))).chunk, 2, true⟩) ∧
   (∀ j, j < 2 → FrGood x slot (frIt (x.fr slot gen) j (m, S, FrS.init)) ∧ (frIt (x.fr slot gen) j (m, S, FrS.init)).2.2.done = false) := by
 have hwl := Mm.at_lt hm (x.root + slot)
 obtain ⟨W, hW⟩ : ∃ W, m.at_ (x.root + slot) = W := ⟨_, rfl⟩
 rw [hW] at hlv hmk hwl ⊢
 have e : endStep (x.root + slot) gen m EndS.init = (⟨1, 1, W, 0, -1, 0, false⟩, m.tick) := by
  unfold endStep
  simp only [EndS.init, Bool.false_eq_true, if_false]
  rw [hW, if_pos hlv]
 have hW2 : m.tick.at_ (x.root + slot) = W := hW
 have e' : endStep (x.root + slot) gen m.tick ⟨1, 1, W, 0, -1, 0, false⟩ = (⟨1, 2, W, 0, (rtOf W).chunk, 2, true⟩, m.tick.put (x.root + slot) (Rt.w ⟨(rtOf W).gen, 0, 0, 0⟩)) := by
  unfold endStep
  simp only [Bool.false_eq_true, if_false]
  unfold Mm.cas
  rw [if_pos hW2, if_pos hW2]
 have e1 : frIt (x.fr slot gen) 1 (m, S, FrS.init) = (m.tick, S, ⟨0, ⟨1, 0, -1, -1, 0, 0, 0⟩, ⟨1, 1, W, 0, -1, 0, false⟩, WalkS.zero, gNone, gNone, false⟩) := by
  show frStep (x.fr slot gen) m S FrS.init = _
  unfold frStep FrS.init
  simp only [Bool.false_eq_true, if_false]
  rw [e]
  simp only [Bool.false_eq_true, if_false]
 refine ⟨?_, fun j hj => ?_⟩
 ·show frStep (x.fr slot gen) (frIt (x.fr slot gen) 1 (m, S, FrS.init)).1 (frIt (x.fr slot gen) 1 (m, S, FrS.init)).2.1 (frIt (x.fr slot gen) 1 (m, S, FrS.init)).2.2 = _
  rw [e1]
  unfold frStep
  simp only [Bool.false_eq_true, if_false]
  rw [e']
  simp only [if_true]
 ·rcases (show j = 0 ∨ j = 1 by omega) with rfl | rfl
  ·exact ⟨⟨hl, hm, hs, hm0, hm2, fun _ => frOk_init⟩, rfl⟩
  ·rw [e1]
   exact ⟨⟨hl, hm, hs, hm0, hm2, fun _ => ⟨by show 0 ≤ 4; omega, by show 1 ≤ 1000000; omega, fun _ => ⟨by show 1 ≤ 1; omega, hwl, fun _ => by show (rtOf W).mrk ≤ 4097; omega, by show 1 ≤ 1000000; omega⟩, fun _ _ => hmk, (fun h => by cases h)⟩⟩, rfl⟩
theorem fr_push {v : FrV} {e : EndS} {w : WalkS} {l : List Int} (hx : x.ok) (hl : m.ws.length = x.len) (hm : m.ok) (hsl : slot < x.sl) (hp : Pool x.spare m l) (hn : (slot : Int) ∉ l) (hv : v.cnt ≤ 1000) (hs : S.xs.length + S.lm.size ≤ 1000) (hm0 : 0 ≤ S.most) (hm2 : S.most ≤ 64) (hx0 : (S.xs.length : Int) ≤ S.most) :
  ∃ M pp, frIt (x.fr slot gen) 3 (m, S, frLeave (x.fr slot gen) v e w) = (M, S, ⟨4, { v with chunk := -1, cnt := v.cnt + 3, back := v.cnt + 3, slot := -1 }, e, w, pp, PushS.init [], true⟩) ∧ FrRun x (x.fr slot gen) (m, S, frLeave (x.fr slot gen) v e w) 3 ∧
   M.ws.length = x.len ∧ M.ok ∧ Pool x.spare M ((slot : Int) :: l) ∧ (∀ a, a ≠ 1 → a ≠ x.slot + slot → M.at_ a = m.at_ a) := by
 have hlen := hx.len_le
 have hk := hx.spare (n := m.ws.length) (by omega) (by omega)
 have hrg : ∀ i ∈ [(slot : Int)], 0 ≤ i ∧ i < x.spare.n := fun i hi => by rw [List.mem_singleton.1 hi]; exact ⟨by omega, by show (slot : Int) < x.sl; omega⟩
 obtain ⟨M, e3, _, hMl, hMp, hMa, hnd⟩ := push_alone (k := x.spare) (m := m) (l := l) (x := [(slot : Int)]) hk rfl hp (by simp) (by simp) hrg (fun i hi => by rw [List.mem_singleton.1 hi]; exact hn)
 have e3' : pushIt x.spare 3 (PushS.init [(slot : Int)], m) = (⟨[(slot : Int)], 0, m.at_ 1, true⟩, M) := e3
 have hnd' : ∀ j, j < 3 → (pushIt x.spare j (PushS.init [(slot : Int)], m)).1.done = false := hnd
 have hin : ∀ j, (pushIt x.spare j (PushS.init [(slot : Int)], m)).2.ok ∧ (pushIt x.spare j (PushS.init [(slot : Int)], m)).1.ok x.spare ∧ (pushIt x.spare j (PushS.init [(slot : Int)], m)).2.ws.length = m.ws.length := by
  intro j
  induction j with
  | zero => exact ⟨hm, PushS.ok_init hrg, rfl⟩
  | succ j ih =>
    rw [pushIt_succ]
    exact ⟨(pushStep_mem hk ih.1 ih.2.1).1, pushStep_ok ih.1 ih.2.1, (pushStep_mem hk ih.1 ih.2.1).2.trans ih.2.2⟩
 have key : ∀ j, j < 3 → frIt (x.fr slot gen) j (m, S, frLeave (x.fr slot gen) v e w) = ((pushIt x.spare j (PushS.init [(slot : Int)], m)).2, S, ⟨3, { v with chunk := -1, cnt := v.cnt + j }, e, w, (pushIt x.spare j (PushS.init [(slot : Int)], m)).1, gNone, false⟩) := by
  intro j
  induction j with
  | zero => exact fun _ => rfl
  | succ j ih =>
    intro hj
    have hd := hnd' (j + 1) hj
    rw [pushIt_succ] at hd ⊢
    show frStep (x.fr slot gen) (frIt (x.fr slot gen) j (m, S, frLeave (x.fr slot gen) v e w)).1 (frIt (x.fr slot gen) j (m, S, frLeave (x.fr slot gen) v e w)).2.1 (frIt (x.fr slot gen) j (m, S, frLeave (x.fr slot gen) v e w)).2.2 = _
    rw [ih (by omega)]
    unfold frStep
    simp only [Bool.false_eq_true, if_false, hd]
    rfl
 have hov : overK S.most S.xs = 0 := by unfold overK; omega
 have e4 : frIt (x.fr slot gen) 3 (m, S, frLeave (x.fr slot gen) v e w) = (M, S, ⟨4, { v with chunk := -1, cnt := v.cnt + 3, back := v.cnt + 3, slot := -1 }, e, w, ⟨[(slot : Int)], 0, m.at_ 1, true⟩, PushS.init [], true⟩) := by
  show frStep (x.fr slot gen) (frIt (x.fr slot gen) 2 (m, S, frLeave (x.fr slot gen) v e w)).1 (frIt (x.fr slot gen) 2 (m, S, frLeave (x.fr slot gen) v e w)).2.1 (frIt (x.fr slot gen) 2 (m, S, frLeave (x.fr slot gen) v e w)).2.2 = _
  rw [key 2 (by omega)]
  have hp3 : pushStep x.spare (pushIt x.spare 2 (PushS.init [(slot : Int)], m)).2 (pushIt x.spare 2 (PushS.init [(slot : Int)], m)).1 = (⟨[(slot : Int)], 0, m.at_ 1, true⟩, M) := by rw [← pushIt_succ]; exact e3'
  unfold frStep
  simp only [Bool.false_eq_true, if_false, hp3, if_true, hov, List.take_zero, List.drop_zero, giveInit_nil]
  rfl
 have hMo : M.ok := by have := (hin 3).1; rw [e3'] at this; exact this
 refine ⟨M, _, e4, ⟨fun j hj => ?_, fun j hj => ?_, by rw [e4]⟩, hMl.trans hl, hMo, hMp, fun a h1 h2 => hMa a h1 (fun i hi => by rw [List.mem_singleton.1 hi, Int.toNat_natCast]; exact h2)⟩
 ·by_cases h3 : j < 3
  ·rw [key j h3]
   exact ⟨(hin j).2.2.trans hl, (hin j).1, hs, hm0, hm2, fun _ => ⟨by show 3 ≤ 4; omega, by show v.cnt + j ≤ 1000000; omega, (fun h => by cases h), (fun h => by cases h), (fun h => by cases h)⟩⟩
  ·obtain rfl : j = 3 := by omega
   rw [e4]
   exact ⟨hMl.trans hl, hMo, hs, hm0, hm2, (fun h => by cases h)⟩
 ·rw [key j hj]
theorem fr_bare {l : List Int} (hx : x.ok) (hl : m.ws.length = x.len) (hm : m.ok) (hsl : slot < x.sl) (hp : Pool x.spare m l) (hn : (slot : Int) ∉ l) (hs : S.xs.length + S.lm.size ≤ 1000) (hm0 : 0 ≤ S.most) (hm2 : S.most ≤ 64) (hx0 : (S.xs.length : Int) ≤ S.most)
  (hlv : (rtOf (m.at_ (x.root + slot))).live gen) (hmk : (rtOf (m.at_ (x.root + slot))).mrk = 1) :
  ∃ M A, frIt (x.fr slot gen) 5 (m, S, FrS.init) = (M, S, A) ∧ FrRun x (x.fr slot gen) (m, S, FrS.init) 5 ∧ A.done = true ∧ A.at_ = 4 ∧ A.g.done = true ∧ A.v.code = 0 ∧ A.v.point = 2 ∧ A.v.back = 5 ∧ A.v.slot = -1 ∧ M.ws.length = x.len ∧ M.ok ∧ Pool x.spare M ((slot : Int) :: l) ∧
   rtOf (M.at_ (x.root + slot)) = ⟨(rtOf (m.at_ (x.root + slot))).gen, 0, 0, 0⟩ ∧ (∀ a, a ≠ 1 → a ≠ x.slot + slot → a ≠ x.root + slot → M.at_ a = m.at_ a) := by
 obtain ⟨b1, b2, b3, b4, b5, b6, b7⟩ := hx.b
 have g1 : x.root + x.sl = x.slot := by unfold Cn.root Cn.slot; omega
 have g2 : x.slot + x.sl ≤ x.len := by unfold Cn.slot Cn.len; omega
 have g3 : 3 ≤ x.root := by unfold Cn.root; omega
 obtain ⟨e2, hg2⟩ := fr_end2 (x := x) (slot := slot) (gen := gen) (m := m) (S := S) hl hm hs hm0 hm2 hlv (by omega) b2
 have hgl := rtOf_gen (Mm.at_lt hm (x.root + slot))
 have hR : Rt.ok ⟨(rtOf (m.at_ (x.root + slot))).gen, 0, 0, 0⟩ := ⟨hgl, by show 0 ≤ 4097; omega, by show 0 ≤ 3; omega, by show 0 ≤ 1024; omega⟩
 have hput : ∀ a, (m.tick.put (x.root + slot) (Rt.w ⟨(rtOf (m.at_ (x.root + slot))).gen, 0, 0, 0⟩)).at_ a = if x.root + slot = a then Rt.w ⟨(rtOf (m.at_ (x.root + slot))).gen, 0, 0, 0⟩ else m.at_ a := fun a => Mm.at_put a (by show _ < m.ws.length; omega)
 obtain ⟨m2, hm2e⟩ : ∃ m2, m.tick.put (x.root + slot) (Rt.w ⟨(rtOf (m.at_ (x.root + slot))).gen, 0, 0, 0⟩) = m2 := ⟨_, rfl⟩
 have hml2 : m2.ws.length = x.len := by rw [← hm2e, Mm.len_put]; exact hl
 have hmo2 : m2.ok := by rw [← hm2e]; exact Mm.ok_put (Mm.ok_tick hm) (Rt.w_lt hR)
 rw [hm2e] at hput e2
 have hp2 : Pool x.spare m2 l := by
  refine ⟨?_, hp.nd⟩
  rw [hput, if_neg (by show ¬ x.root + slot = 1; omega)]
  refine hp.c.congr fun z hz => ?_
  have := hp.c.mem z hz
  rw [hput, if_neg (by show ¬ x.root + slot = x.slot + z.toNat; omega)]
 have he : frEnded (x.fr slot gen) ⟨2, 0, -1, -1, 0, 0, 0⟩ ⟨1, 2, m.at_ (x.root + slot), 0, (rtOf (m.at_ (x.root + slot))).chunk, 2, true⟩ = frLeave (x.fr slot gen) ⟨2, 0, -1, slot, 2, 0, 0⟩ ⟨1, 2, m.at_ (x.root + slot), 0, (rtOf (m.at_ (x.root + slot))).chunk, 2, true⟩ WalkS.zero := by
  unfold frEnded
  have hch : (rtOf (m.at_ (x.root + slot))).chunk = -1 := by unfold Rt.chunk; rw [if_pos (by omega)]
  dsimp only
  rw [if_neg (by omega), if_neg (by omega)]
 rw [he] at e2
 obtain ⟨M, pp, e3, hr3, c1, c2, c3, c4⟩ := fr_push (x := x) (slot := slot) (gen := gen) (m := m2) (S := S) (v := ⟨2, 0, -1, slot, 2, 0, 0⟩) (e := ⟨1, 2, m.at_ (x.root + slot), 0, (rtOf (m.at_ (x.root + slot))).chunk, 2, true⟩) (w := WalkS.zero) hx hml2 hmo2 hsl hp2 hn (by show 2 ≤ 1000; omega) hs hm0 hm2 hx0
 have hrun := FrRun.append e2 hg2 hr3
 rw [← e2, frIt_add] at e3
 refine ⟨M, _, e3, hrun, rfl, rfl, rfl, rfl, rfl, rfl, rfl, c1, c2, c3, ?_, fun a h1 h2 h3 => ?_⟩
 ·rw [c4 _ (by omega) (by omega), hput, if_pos rfl, rtOf_w hR]
 ·rw [c4 a h1 h2, hput, if_neg (fun h => h3 h.symm)]
theorem region0s {x : Cn} (hx : x.ok) (cl : Nat) (hcl : cl ≤ 3) : Pool x.spare (crIt x.spare x.root cl 10 (CreS.init, allM x)).2 (iotaI x.sl).tail ∧ iotaI x.sl = ((0 : Nat) : Int) :: (iotaI x.sl).tail := by
 obtain ⟨b1, b2, b3, b4, b5, b6, b7⟩ := hx.b
 have hlen := hx.len_le
 have hl := allM_len x
 have hk := hx.spare (n := (allM x).ws.length) (by omega) (by omega)
 have hroot : x.root + x.sl = x.slot := by unfold Cn.root Cn.slot; omega
 have g3 : 3 ≤ x.root := by unfold Cn.root; omega
 have hsp := allM_spare hx
 have hio : iotaI x.sl = ((0 : Nat) : Int) :: (iotaI x.sl).tail := by
  have h0 := iota_get (n := x.sl) (i := 0) (by omega)
  have hl0 : (iotaI x.sl).length = x.sl := by simp [iotaI]
  cases he : iotaI x.sl with
  | nil => rw [he] at hl0; simp at hl0; omega
  | cons z l => rw [he] at h0; simp only [itI, List.getD_cons_zero] at h0; rw [h0]; rfl
 refine ⟨?_, hio⟩
 rw [hio] at hsp
 obtain ⟨C, M, e10, _, _, _, _, _, hn, hml, hmo, hp, _⟩ := cr_alone (k := x.spare) (ro := x.root) (cl := cl) (m := allM x) hk rfl (allM_ok hx) hsp (by show x.root + x.sl ≤ x.slot; omega) (by show 1 < x.root; omega) hcl
 rw [e10]
 exact hp
end
end Go.Proofs.YtflalhdofhobmaaGreat


namespace Go.Proofs.YtflalhdofhobmaaGreat
open Go
attribute [local irreducible] Sx Cx Rx Fx Krg Ksq Kbl Klp Kr
section
variable {L F G : St}
theorem SupS.kept_nil {s : SupS} (h : s.xs = []) : s.kept = s := by
 cases s; simp only [SupS.kept]; simp only at h; subst h; rfl
theorem refTakeNew {s w rm rp rs re : Nat} {x : Cn} {S : SupS} {F1 F2 : St} (hx : x.ok) (hb : S.xs.length + S.lm.size ≤ 1000000) [t2 : Take L (some ⟨s, 0, none⟩) (RSupO w S) F1] [t3 : Take F1 (some ⟨w, 0, none⟩) (RWO x rm rp rs re) F2] [t4 : Take F2 (some ⟨rp, 0, none⟩) (RSkO rm x.pool) G] :
  Fx Tryz.prog 180 [.pointer (some ⟨s, 0, none⟩)] L
   (fun v L' => ∃ b, v = .pointer (some ⟨b, 0, none⟩) ∧ L' = pt (some ⟨b, 0, none⟩) (RTakeO s rp (takeInit x.ba S).2) :: pt (some ⟨s, 0, none⟩) (RSupO w (takeInit x.ba S).1) :: F1) := by
 obtain ⟨b1, b2, b3, b4, b5, b6, b7⟩ := hx.b
 refine Fx.mk Tryz.func180 k180 (Nat.le_of_ble_eq_true rfl) ?_
 dsimp only [c180, envOf, Nat.reduceAdd]
 refine go ?_
 refine Sx.bx rfl rfl fun b => ?_
 refine go ?_
 refine Sx.ca rfl (refKept (b := b) (s := s) (w := w) (S := S) (n := 0) (seen := -1) (pp := .pointer none) (by omega)) ?_
 rintro v L' ⟨rfl, rfl⟩
 by_cases hxs : S.xs = []
 ·rw [decide_eq_false (fun h => h hxs), if_pos hxs, SupS.kept_nil hxs]
  refine Sx.nil ?_
  refine Krg.i ?_
  refine Ksq.nm ?_
  refine Cx.sq ?_
  refine Cx.sq ?_
  refine Cx.ent (Ent.cons (Ent.cons (Ent.trans (Ent.of t3.out) (Ent.cons (Ent.of t4.out))))) ?_
  refine Cx.openp (a := some ⟨s, 0, none⟩) rfl ?_
  rintro ⟨st, lm⟩
  simp only [rsupL, List.cons_append, List.nil_append]
  refine go ?_
  refine Sx.ca rfl (refLimboLen (b := lm) (m := S.lm) (by omega)) ?_
  rintro v L' ⟨rfl, rfl⟩
  refine go ?_
  by_cases hz : 0 < S.lm.size
  ·have e0 : takeInit x.ba S = (S, TakeS.none_) := by unfold takeInit keepT; rw [if_pos hxs]; simp only; rw [if_pos hz]
   rw [e0]
   refine Cx.cno rfl (decide_eq_false (by omega)) ?_
   refine go ?_
   refine Kr.one (.inr rfl) rfl ?_ ⟨b, rfl, rfl⟩
   refine Ent.trans (Ent.trans (Ent.take (a := some ⟨b, 0, none⟩)) (RTakeO.closeL (rp := rp) TakeS.none_ rfl rfl rfl)) (Ent.cons ?_)
   refine Ent.trans (RSupO.close (a := some ⟨s, 0, none⟩) (st := st) (lm := lm) (w := w) S rfl rfl rfl) (Ent.cons ?_)
   exact Ent.trans (Ent.cons (Ent.of t4.back)) (Ent.of t3.back)
  ·have e0 : takeInit x.ba S = (S, { TakeS.none_ with at_ := 1, q := PopS.init x.ba }) := by unfold takeInit keepT; rw [if_pos hxs]; simp only; rw [if_neg hz]
   rw [e0]
   refine Cx.cyes rfl (decide_eq_true (by omega)) ?_
   refine Cx.ent (RSupO.close (a := some ⟨s, 0, none⟩) (st := st) (lm := lm) (w := w) S rfl rfl rfl) ?_
   refine go ?_
   refine Sx.ca rfl (refTakePop (b := b) (s := s) (w := w) (rm := rm) (rp := rp) (rs := rs) (re := re) (x := x) (S := S) (n := 0) (ch := -1) (seen := -1) (pp := .pointer none) b6) ?_
   rintro v L' ⟨p, rfl, rfl⟩
   refine go ?_
   refine Kr.one (.inr rfl) rfl ?_ ⟨b, rfl, rfl⟩
   refine Ent.trans (RTakeO.closeP (rp := rp) { TakeS.none_ with at_ := 1, q := PopS.init x.ba } rfl (by simp) rfl rfl) (Ent.cons (Ent.cons ?_))
   exact Ent.trans (Ent.cons (Ent.of t4.back)) (Ent.of t3.back)
 ·have e0 : takeInit x.ba S = (S.kept, { TakeS.none_ with chunk := lastI S.xs, is_ := true, done := true }) := by unfold takeInit keepT; rw [if_neg hxs]
  rw [e0, decide_eq_true hxs, if_neg hxs]
  refine go ?_
  refine Kr.one (.inr rfl) rfl ?_ ⟨b, rfl, rfl⟩
  refine Ent.trans (RTakeO.closeD (rp := rp) { TakeS.none_ with chunk := lastI S.xs, is_ := true, done := true } rfl rfl rfl) ?_
  exact Ent.refl _
set_option maxHeartbeats 1000000 in
theorem refTakeStep {b s w rm rp rs re : Nat} {x : Cn} {S : SupS} {m : Mm} {t : TakeS} {F1 F2 F3 F4 : St} (hx : x.ok) (hl : x.len ≤ m.ws.length) (ht : t.ok) (hq : t.done = false → t.at_ = 1 → t.q.ok x.pool) (hb : S.xs.length + S.lm.size ≤ 1000000)
  [t1 : Take L (some ⟨b, 0, none⟩) (RTakeO s rp t) F1] [t2 : Take F1 (some ⟨s, 0, none⟩) (RSupO w S) F2] [t3 : Take F2 (some ⟨rm, 0, none⟩) (RMemO m) F3] [t4 : Take F3 (some ⟨w, 0, none⟩) (RWO x rm rp rs re) F4] [t5 : Take F4 (some ⟨rp, 0, none⟩) (RSkO rm x.pool) G] :
  Fx Tryz.prog 108 [.pointer (some ⟨b, 0, none⟩)] L
   (fun v L' => v = .bool (!t.done) ∧ L' = pt (some ⟨b, 0, none⟩) (RTakeO s rp (takeStep x.pool x.ba m S t).2.2) :: pt (some ⟨s, 0, none⟩) (RSupO w (takeStep x.pool x.ba m S t).2.1) :: pt (some ⟨rm, 0, none⟩) (RMemO (takeStep x.pool x.ba m S t).1) :: F3) := by
 obtain ⟨b1, b2, b3, b4, b5, b6, b7⟩ := hx.b
 have hl3 : 3 ≤ x.len := by unfold Cn.len; omega
 have hback : Ent (pt (some ⟨w, 0, none⟩) (RWO x rm rp rs re) :: pt (some ⟨rp, 0, none⟩) (RSkO rm x.pool) :: G) F3 := Ent.trans (Ent.cons (Ent.of t5.back)) (Ent.of t4.back)
 refine Fx.mk Tryz.func108 k108 (Nat.le_of_ble_eq_true rfl) ?_
 dsimp only [c108, envOf, Nat.reduceAdd]
 refine Cx.ent (Ent.trans (Ent.of t1.out) (Ent.cons (Ent.trans (Ent.of t2.out) (Ent.cons (Ent.trans (Ent.of t3.out) (Ent.cons (Ent.trans (Ent.of t4.out) (Ent.cons (Ent.of t5.out))))))))) ?_
 refine Cx.pure (rmemKey (rm := rm) (m := m)) fun hm => ?_
 cases hd : t.done with
 | true =>
   have e1 : takeStep x.pool x.ba m S t = (m, S, t) := by unfold takeStep; rw [hd]; rfl
   rw [e1]
   refine Cx.openp (a := some ⟨b, 0, none⟩) (RTakeO.d hd) ?_
   rintro ⟨n, pp⟩
   simp only [rtakeDL, List.cons_append, List.nil_append]
   refine go ?_
   exact Kr.one (.inr rfl) rfl (Ent.trans (RTakeO.closeD t hd rfl rfl) (Ent.cons (Ent.cons (Ent.cons hback)))) ⟨rfl, rfl⟩
 | false =>
   have ha := ht.a
   rcases (show t.at_ = 0 ∨ t.at_ = 1 by omega) with h0 | h0
   ·have hlt := Mm.at_lt hm.1 2
    have hsz := size_ready (cutE (m.at_ 2)) S.lm
    have hsx : (S.ready (cutE (m.at_ 2))).xs.length ≤ 100000000 := by
     show (S.xs ++ (readyAll (cutE (m.at_ 2)) S.lm).1).length ≤ _
     rw [List.length_append]; omega
    refine Cx.openp (a := some ⟨b, 0, none⟩) (RTakeO.l hd h0) ?_
    rintro pp
    simp only [rtakeLL, List.cons_append, List.nil_append]
    refine Cx.openp (a := some ⟨s, 0, none⟩) rfl ?_
    rintro ⟨st, lm⟩
    simp only [rsupL, List.cons_append, List.nil_append]
    refine go ?_
    refine Sx.ca rfl (refLoad (rm := rm) (m := m) 2 (by omega)) ?_
    rintro v L' ⟨rfl, rfl⟩
    refine go ?_
    refine Sx.ca rfl (refCut (m.at_ 2) hlt) ?_
    rintro v L' ⟨rfl, rfl⟩
    refine go ?_
    refine Cx.ent (RSupO.close (a := some ⟨s, 0, none⟩) (st := st) (lm := lm) (w := w) S rfl rfl rfl) ?_
    refine Cx.ordc rfl (by kernel_rfl) ?_
    refine ge ?_
    refine Ev.caH (by kernel_rfl) rfl rfl (refSupReady (s := s) (w := w) (S := S) (now := cutE (m.at_ 2)) (by omega) (by omega) (by unfold cutE; omega)) (Pres.deps (by kernel_rfl)) ?_
    rintro v L' ⟨rfl, rfl⟩
    refine ge ?_
    refine go ?_
    refine Sx.ca rfl (refKept (b := b) (s := s) (w := w) (S := S.ready (cutE (m.at_ 2))) (n := 0) (seen := cutE (m.at_ 2)) (pp := pp) hsx) ?_
    rintro v L' ⟨rfl, rfl⟩
    by_cases hxs : (S.ready (cutE (m.at_ 2))).xs = []
    ·have e1 : takeStep x.pool x.ba m S t = (m.tick, S.ready (cutE (m.at_ 2)), { t with seen := cutE (m.at_ 2), at_ := 1, q := PopS.init x.ba }) := by
      unfold takeStep keepT; rw [hd, h0]; simp only [Bool.false_eq_true, if_false]; rw [if_pos hxs]
     rw [e1, decide_eq_false (show ¬ ((S.ready (cutE (m.at_ 2))).xs ≠ []) from fun h => h hxs), if_pos hxs, SupS.kept_nil hxs]
     refine go ?_
     refine Sx.ca rfl (refTakePop (b := b) (s := s) (w := w) (rm := rm) (rp := rp) (rs := rs) (re := re) (x := x) (S := S.ready (cutE (m.at_ 2))) (n := 0) (ch := -1) (seen := cutE (m.at_ 2)) (pp := pp) b6) ?_
     rintro v L' ⟨p, rfl, rfl⟩
     refine go ?_
     refine Kr.one (.inr rfl) rfl ?_ ⟨rfl, rfl⟩
     refine Ent.trans (RTakeO.closeP (rp := rp) { t with seen := cutE (m.at_ 2), at_ := 1, q := PopS.init x.ba } hd (by simp) rfl rfl) (Ent.cons (Ent.cons ?_))
     refine Ent.trans ?_ (Ent.cons hback)
     exact ent
    ·have e1 : takeStep x.pool x.ba m S t = (m.tick, (S.ready (cutE (m.at_ 2))).kept, { t with seen := cutE (m.at_ 2), chunk := lastI (S.ready (cutE (m.at_ 2))).xs, is_ := true, done := true }) := by
      unfold takeStep keepT; rw [hd, h0]; simp only [Bool.false_eq_true, if_false]; rw [if_neg hxs]
     rw [e1, decide_eq_true hxs, if_neg hxs]
     refine go ?_
     refine Kr.one (.inr rfl) rfl ?_ ⟨rfl, rfl⟩
     refine Ent.trans (RTakeO.closeD (rp := rp) { t with seen := cutE (m.at_ 2), chunk := lastI (S.ready (cutE (m.at_ 2))).xs, is_ := true, done := true } rfl rfl rfl) (Ent.cons (Ent.cons ?_))
     refine Ent.trans ?_ (Ent.cons hback)
     exact ent
   ·have hk := hx.pool (n := m.ws.length) hl hm.2
    have hqo := hq hd h0
    refine Cx.openp (a := some ⟨b, 0, none⟩) (RTakeO.p hd (by omega)) ?_
    rintro p
    simp only [rtakePL, List.cons_append, List.nil_append]
    refine go ?_
    refine Sx.ca rfl (refPopStep (b := p) (sb := rp) (rm := rm) (k := x.pool) (m := m) (q := t.q) hk hqo) ?_
    rintro v L' ⟨rfl, rfl⟩
    have hq' := popStep_ok hk hm.1 hqo
    obtain ⟨q1, hq1⟩ : ∃ q1, (popStep x.pool m t.q).1 = q1 := ⟨_, rfl⟩
    obtain ⟨m1, hm1⟩ : ∃ m1, (popStep x.pool m t.q).2 = m1 := ⟨_, rfl⟩
    have hp1 : popStep x.pool m t.q = (q1, m1) := by rw [← hq1, ← hm1]
    rw [hq1] at hq'
    rw [hp1]
    dsimp only
    cases hqd : q1.done with
    | false =>
      have e1 : takeStep x.pool x.ba m S t = (m1, S, { t with q := q1 }) := by unfold takeStep; rw [hd, h0]; simp only [Bool.false_eq_true, if_false]; rw [hp1]; simp only [hqd, Bool.false_eq_true, if_false]
      rw [e1]
      refine Sx.nil ?_
      refine Krg.i ?_
      refine Ksq.nm ?_
      refine Cx.sq ?_
      refine Cx.openp (a := some ⟨p, 0, none⟩) rfl ?_
      rintro ⟨r, c⟩
      simp only [rpopL, List.cons_append, List.nil_append]
      rw [hqd]
      refine go ?_
      refine Kr.one (.inr rfl) rfl ?_ ⟨rfl, rfl⟩
      refine Ent.trans (RPopO.close (sb := rp) (a := some ⟨p, 0, none⟩) (r := r) q1 rfl rfl rfl rfl rfl rfl (by rw [hqd]) rfl) ?_
      refine Ent.trans (Ent.trans (Ent.take (a := some ⟨b, 0, none⟩)) (RTakeO.closeP (rp := rp) { t with q := q1 } hd (by dsimp only; omega) rfl rfl)) (Ent.cons ?_)
      refine Ent.trans ?_ (Ent.cons (Ent.cons hback))
      exact ent
    | true =>
      have e1 : takeStep x.pool x.ba m S t = (m1, popped S { t with q := q1 }) := by unfold takeStep; rw [hd, h0]; simp only [Bool.false_eq_true, if_false]; rw [hp1]; simp only [hqd, if_true]
      rw [e1]
      refine Sx.nil ?_
      refine Krg.i ?_
      refine Ksq.nm ?_
      refine Cx.sq ?_
      refine Cx.openp (a := some ⟨p, 0, none⟩) rfl ?_
      rintro ⟨r, c⟩
      simp only [rpopL, List.cons_append, List.nil_append]
      rw [hqd]
      refine go ?_
      refine Sx.ent (RPopO.close (sb := rp) (a := some ⟨p, 0, none⟩) (r := r) q1 rfl rfl rfl rfl rfl rfl (by rw [hqd]) rfl) ?_
      refine Sx.ca rfl (refPopGot (b := p) (sb := rp) (rm := rm) (k := x.pool) (q := q1) hqd hq'.len) ?_
      rintro v L' ⟨ro, co, rfl, rfl⟩
      refine go ?_
      cases hg : q1.got with
      | nil =>
        have e2 : popped S { t with q := q1 } = (S, { t with q := q1, done := true }) := by unfold popped; simp only [hg]
        rw [e2]
        refine go ?_
        refine Kr.one (.inr rfl) rfl ?_ ⟨rfl, rfl⟩
        refine Ent.trans (Ent.trans (Ent.take (a := some ⟨b, 0, none⟩)) (RTakeO.closeD (rp := rp) { t with q := q1, done := true } rfl (by unfold TakeS.ch; simp only; rw [(ht.i hd).2]; rfl) rfl)) (Ent.cons ?_)
        refine Ent.trans ?_ (Ent.cons (Ent.cons hback))
        exact ent
      | cons y l =>
        have e2 : popped S { t with q := q1 } = (S.give l, { t with q := q1, chunk := y, is_ := true, done := true }) := by unfold popped; simp only [hg]
        have h8 := hq'.len
        rw [hg] at h8
        simp only [List.length_cons] at h8 ⊢
        rw [e2]
        refine Cx.cyes rfl (decide_eq_true (by omega)) ?_
        refine Cx.rowkey (a := ro) fun hx0 hn0 hc0 hk0 => ?_
        obtain ⟨rg, rfl⟩ := row_some (i := 0) (by omega) (hk0.imp (fun h => ⟨h.1, h.2.1, h.2.2⟩) id)
        refine gg ?_
        refine Sx.ldr (b := rg) rfl (v := .int .i64 y) rfl ?_
        refine go ?_
        refine Cx.ent (Ent.take (a := some ⟨s, 0, none⟩)) ?_
        refine Cx.openp (a := some ⟨s, 0, none⟩) rfl ?_
        rintro ⟨st, lm⟩
        simp only [rsupL, List.cons_append, List.nil_append]
        refine Cx.ordc rfl (by kernel_rfl) ?_
        refine ge ?_
        refine Ev.caH (by kernel_rfl) rfl rfl (refGive (b := st) (ys := l) (Rd.suffix_ (g := rg) (i := 1) hx0 hn0 (by omega)) (by omega)) (Pres.deps (by kernel_rfl)) ?_
        rintro v L' ⟨rfl, rfl⟩
        refine ge ?_
        refine go ?_
        refine Kr.one (.inr rfl) rfl ?_ ⟨rfl, rfl⟩
        refine Ent.trans (Ent.trans (Ent.take (a := some ⟨b, 0, none⟩)) (RTakeO.closeD (rp := rp) { t with q := q1, chunk := y, is_ := true, done := true } rfl rfl rfl)) (Ent.cons ?_)
        refine Ent.trans (RSupO.close (a := some ⟨s, 0, none⟩) (st := st) (lm := lm) (w := w) (S.give l) rfl rfl rfl) (Ent.cons ?_)
        refine Ent.trans ?_ (Ent.cons hback)
        exact ent
end
end Go.Proofs.YtflalhdofhobmaaGreat


namespace Go.Proofs.YtflalhdofhobmaaGreat
open Go
attribute [local irreducible] Sx Cx Rx Fx Krg Ksq Kbl Klp Kr
section
variable {L F G : St}
theorem refWord {x : Cn} (hx : x.ok) (k j : Nat) (hk : k < x.c) (hj : j < x.wd) : Fx Tryz.prog 111 [x.v, .int .i64 k, .int .i64 j] L (fun v L' => v = .int .i64 ((x.word + k * x.wd + j : Nat) : Int) ∧ L = L') := by
 obtain ⟨b1, b2, b3, b4, b5, b6, b7⟩ := hx.b
 have hlt := word_lt (x := x) hk hj
 have hlen := hx.len_le
 obtain ⟨K, hK⟩ : ∃ K, k * x.wd = K := ⟨_, rfl⟩
 have hK2 : (k : Int) * (x.wd : Int) = (K : Int) := by rw [← hK]; push_cast; rfl
 rw [hK] at hlt ⊢
 have hw : x.word = 3 + x.w + x.sl + x.sl + x.c := rfl
 refine Fx.mk Tryz.func111 k111 (Nat.le_of_ble_eq_true rfl) ?_
 dsimp only [c111, envOf, Nat.reduceAdd]
 refine Cx.sq ?_
 refine Cx.rg ?_
 refine Sx.bx rfl rfl fun g => ?_
 refine go ?_
 refine Sx.ca rfl (refMay_ (x.w : Int) x.c x.wd x.sl x.ca x.ba) ?_
 rintro v L' ⟨rfl, rfl⟩
 rw [decide_eq_true (show MayC (x.w : Int) x.c x.wd x.sl x.ca x.ba from hx)]
 refine go ?_
 refine Sx.gyes rfl (decide_eq_false (by omega)) ?_
 refine go ?_
 refine Cx.cno rfl (decide_eq_false (by omega)) ?_
 refine go ?_
 rw [hK2, w64 (n := (3 : Int) + x.w) (by omega) (by omega), w64 (n := (2 : Int) * x.sl) (by omega) (by omega), w64 (n := (3 : Int) + x.w + 2 * x.sl) (by omega) (by omega), w64 (n := (3 : Int) + x.w + 2 * x.sl + x.c) (by omega) (by omega), w64 (n := (K : Int)) (by omega) (by omega), w64 (n := (3 : Int) + x.w + 2 * x.sl + x.c + K) (by omega) (by omega), w64 (n := (3 : Int) + x.w + 2 * x.sl + x.c + K + j) (by omega) (by omega)]
 refine Kr.one (.inr rfl) rfl Ent.drop ⟨congrArg (Value.int .i64) ?_, rfl⟩
 omega
theorem refChunk (r : Rt) (h : r.mrk < 65536) : Fx Tryz.prog 103 [rtV r] L (fun v L' => v = .int .i64 r.chunk ∧ L = L') := by
 refine Fx.mk Tryz.func103 k103 (Nat.le_of_ble_eq_true rfl) ?_
 dsimp only [c103, envOf, Nat.reduceAdd]
 refine Cx.sq ?_
 refine Cx.rg ?_
 refine Sx.bx rfl rfl fun g => ?_
 refine go ?_
 refine Cx.ifp rfl (fun h2 => ?_) (fun h2 => ?_)
 ·refine go ?_
  exact Kr.one (.inr rfl) rfl Ent.drop ⟨by unfold Rt.chunk; rw [if_pos (by omega)], rfl⟩
 ·refine go ?_
  rw [w64 (n := (r.mrk : Int) - 2) (by omega) (by omega)]
  exact Kr.one (.inr rfl) rfl Ent.drop ⟨by unfold Rt.chunk; rw [if_neg (by omega)], rfl⟩
theorem refLive (r : Rt) (gen : Int) : Fx Tryz.prog 99 [rtV r, .int .i64 gen] L (fun v L' => v = .bool (decide (r.live gen)) ∧ L = L') := by
 refine Fx.mk Tryz.func99 k99 (Nat.le_of_ble_eq_true rfl) ?_
 dsimp only [c99, envOf, Nat.reduceAdd]
 refine Cx.sq ?_
 refine Cx.rg ?_
 refine Sx.bx rfl rfl fun g => ?_
 refine go ?_
 by_cases h1 : 1 ≤ r.mrk
 ·refine Sx.gyes rfl (decide_eq_true (by omega)) ?_
  refine go ?_
  refine Kr.one (.inr rfl) rfl Ent.drop ⟨congrArg Value.bool (decide_eq_decide.2 ⟨fun h => ⟨h1, h⟩, fun h => h.2⟩), rfl⟩
 ·refine Sx.gno rfl (decide_eq_false (by omega)) ?_
  refine go ?_
  refine Kr.one (.inr rfl) rfl Ent.drop ⟨?_, rfl⟩
  rw [decide_eq_false (fun h => h1 h.1)]
theorem refIn (n lo hi : Int) : Fx Tryz.prog 173 [.int .i64 n, .int .i64 lo, .int .i64 hi] L (fun v L' => v = .bool (decide (lo ≤ n ∧ n ≤ hi)) ∧ L = L') := in_ n lo hi
set_option maxHeartbeats 1000000 in
theorem refRound (cl n : Nat) (hc : cl ≤ 3) (hn : 1 ≤ n) (hn2 : n ≤ 1024) : Fx Tryz.prog 178 [.int .i64 cl, .int .i64 n] L (fun v L' => v = .int .i64 (roundS cl n : Nat) ∧ L = L') := by
 have hrl := roundS_lt (n := n) hc
 have hrg := roundS_ge (n := n) hc
 refine Fx.mk Tryz.func178 k178 (Nat.le_of_ble_eq_true rfl) ?_
 dsimp only [c178, envOf, Nat.reduceAdd]
 refine go ?_
 refine Sx.ca rfl (refIn (n : Int) 1 1024) ?_
 rintro v L' ⟨rfl, rfl⟩
 rw [decide_eq_true (show (1 : Int) ≤ n ∧ (n : Int) ≤ 1024 by omega)]
 refine go ?_
 refine Cx.lp (α := {i : Nat // i ≤ cl}) (fun i => [(0, .int .i64 (cl : Nat)), (1, .int .i64 (n : Nat)), (5, .int .i64 ((2 ^ i.1 : Nat) : Int)), (6, .int .i64 (i.1 : Nat))]) (fun _ => L) (fun i => cl - i.1) ⟨0, Nat.zero_le _⟩ (sub.cons rfl (sub.cons rfl (sub.cons rfl (sub.cons rfl sub.nil)))) (Ent.refl _) ?_
 rintro ⟨i, hi⟩
 dsimp only
 have hpi : 2 ^ i ≤ 8 := by rcases (show i = 0 ∨ i = 1 ∨ i = 2 ∨ i = 3 by omega) with rfl | rfl | rfl | rfl <;> decide
 have hps : 2 ^ (i + 1) = 2 ^ i * 2 := Nat.pow_succ 2 i
 refine go ?_
 by_cases h : i < cl
 ·refine Sx.gyes rfl (decide_eq_true (by omega)) ?_
  refine go ?_
  refine Cx.cyes rfl (decide_eq_true (by omega)) ?_
  refine go ?_
  rw [w64 (n := (i : Int) + 1) (by omega) (by omega), w64 (n := 2 * ((2 ^ i : Nat) : Int)) (by omega) (by omega)]
  refine Klp.nm ⟨i + 1, by omega⟩ (sub.cons rfl (sub.cons rfl (sub.cons (by rw [show (((2 ^ (i + 1) : Nat)) : Int) = 2 * ((2 ^ i : Nat) : Int) by omega]; rfl) (sub.cons rfl sub.nil)))) (Ent.refl _) (by dsimp only; omega)
 ·obtain rfl : i = cl := by omega
  refine Sx.gno rfl (decide_eq_false (by omega)) ?_
  refine go ?_
  obtain ⟨P, hP⟩ : ∃ P, P = 2 ^ i := ⟨_, rfl⟩
  rw [← hP] at hpi ⊢
  have hp1 : 1 ≤ P := by rw [hP]; exact Nat.one_le_two_pow
  obtain ⟨R, hR⟩ : ∃ R, roundS i n = R := ⟨_, rfl⟩
  rw [hR] at hrl hrg ⊢
  have hfin : ∀ k : Nat, n ≤ k → k ≤ R → k % P = 0 → k = R := by
   intro k h1 h2 h3
   rcases roundS_cases (n := n) hc with ⟨rfl, e⟩ | ⟨rfl, e⟩ | ⟨rfl, e⟩ | ⟨rfl, e⟩
   all_goals (rw [hR] at e; simp at hP; subst hP; omega)
  have hmore : ∀ k : Nat, n ≤ k → k ≤ R → k % P ≠ 0 → k + 1 ≤ R := by
   intro k h1 h2 h3
   rcases Nat.lt_or_ge k R with h | h
   ·omega
   ·exfalso
    obtain rfl : k = R := by omega
    rcases roundS_cases (n := n) hc with ⟨rfl, e⟩ | ⟨rfl, e⟩ | ⟨rfl, e⟩ | ⟨rfl, e⟩
    all_goals (rw [hR] at e; simp at hP; subst hP; omega)
  refine Cx.lp (α := {k : Nat // n ≤ k ∧ k ≤ R}) (fun k => [(1, .int .i64 (k.1 : Nat)), (5, .int .i64 (P : Nat))]) (fun _ => L) (fun k => R - k.1) ⟨n, Nat.le_refl _, hrg⟩ (sub.cons rfl (sub.cons rfl sub.nil)) (Ent.refl _) ?_
  rintro ⟨k, hk1, hk2⟩
  dsimp only
  refine go ?_
  refine Sx.pv rfl (by omega) ?_
  have em : Int.tmod (k : Int) (P : Int) = ((k % P : Nat) : Int) := rfl
  have hkm : k % P < P := Nat.mod_lt _ hp1
  rw [em]
  refine go ?_
  refine Cx.ifn rfl (fun hz => ?_) (fun hz => ?_)
  ·refine go ?_
   rw [w64 (n := (k : Int) + 1) (by omega) (by omega)]
   have := hmore k hk1 hk2 (by omega)
   refine Klp.nm ⟨k + 1, by omega, by omega⟩ (sub.cons rfl (sub.cons rfl sub.nil)) (Ent.refl _) (by dsimp only; omega)
  ·refine go ?_
   have := hfin k hk1 hk2 (by omega)
   exact Kr.one (.inr rfl) rfl (Ent.refl _) ⟨by rw [this], rfl⟩
theorem refRight (wd need : Nat) (hw : 1 ≤ wd) (hw2 : wd ≤ 1024) (hn : 1 ≤ need) (hn2 : need ≤ wd) : Fx Tryz.prog 186 [.int .i64 wd, .int .i64 need] L (fun v L' => v = .bool true ∧ L = L') := by
 refine Fx.mk Tryz.func186 k186 (Nat.le_of_ble_eq_true rfl) ?_
 dsimp only [c186, envOf, Nat.reduceAdd]
 refine go ?_
 refine Sx.ca rfl (refIn (wd : Int) 1 1024) ?_
 rintro v L' ⟨rfl, rfl⟩
 rw [decide_eq_true (show (1 : Int) ≤ wd ∧ (wd : Int) ≤ 1024 by omega)]
 refine go ?_
 refine Sx.ca rfl (refIn (need : Int) 1 (wd : Int)) ?_
 rintro v L' ⟨rfl, rfl⟩
 rw [decide_eq_true (show (1 : Int) ≤ need ∧ (need : Int) ≤ wd by omega)]
 refine go ?_
 exact Kr.one (.inr rfl) rfl (Ent.refl _) ⟨rfl, rfl⟩
theorem refAlone1 (wd need : Nat) (hw : 1 ≤ wd) (hw2 : wd ≤ 1024) (hn : 1 ≤ need) (hn2 : need ≤ wd) : Fx Tryz.prog 187 [.int .i64 wd, .int .i64 need] L (fun v L' => v = .bool (decide (wd < 2 * need)) ∧ L = L') := by
 refine Fx.mk Tryz.func187 k187 (Nat.le_of_ble_eq_true rfl) ?_
 dsimp only [c187, envOf, Nat.reduceAdd]
 refine go ?_
 refine Sx.ca rfl (refRight wd need hw hw2 hn hn2) ?_
 rintro v L' ⟨rfl, rfl⟩
 refine go ?_
 rw [w64 (n := (wd : Int) - need) (by omega) (by omega)]
 refine Kr.one (.inr rfl) rfl (Ent.refl _) ⟨congrArg Value.bool (decide_eq_decide.2 (by omega)), rfl⟩
theorem refFits2 (wd off need : Nat) (hw : 1 ≤ wd) (hw2 : wd ≤ 1024) (hn : 1 ≤ need) (hn2 : need ≤ wd) (ho : off ≤ 4096) : Fx Tryz.prog 179 [.int .i64 wd, .int .i64 off, .int .i64 need] L (fun v L' => v = .bool (decide (fitsS wd off need)) ∧ L = L') := by
 refine Fx.mk Tryz.func179 k179 (Nat.le_of_ble_eq_true rfl) ?_
 dsimp only [c179, envOf, Nat.reduceAdd]
 refine go ?_
 refine Sx.ca rfl (refRight wd need hw hw2 hn hn2) ?_
 rintro v L' ⟨rfl, rfl⟩
 refine go ?_
 refine Sx.ca rfl (refAlone1 wd need hw hw2 hn hn2) ?_
 rintro v L' ⟨rfl, rfl⟩
 by_cases h : wd < 2 * need
 ·rw [decide_eq_true h]
  refine go ?_
  refine Kr.one (.inr rfl) rfl (Ent.refl _) ⟨congrArg Value.bool (decide_eq_false (fun hh => ?_)).symm, rfl⟩
  have := hh.1; omega
 ·rw [decide_eq_false h]
  refine go ?_
  rw [w64 (n := (wd : Int) - need) (by omega) (by omega)]
  refine Kr.one (.inr rfl) rfl (Ent.refl _) ⟨congrArg Value.bool (decide_eq_decide.2 ?_), rfl⟩
  unfold fitsS; omega
theorem refAfter (wd need : Nat) (hw : 1 ≤ wd) (hw2 : wd ≤ 1024) (hn : 1 ≤ need) (hn2 : need ≤ wd) : Fx Tryz.prog 113 [.int .i64 wd, .int .i64 need] L (fun v L' => v = .int .i64 (afterS wd need : Nat) ∧ L = L') := by
 refine Fx.mk Tryz.func113 k113 (Nat.le_of_ble_eq_true rfl) ?_
 dsimp only [c113, envOf, Nat.reduceAdd]
 refine go ?_
 refine Sx.ca rfl (refRight wd need hw hw2 hn hn2) ?_
 rintro v L' ⟨rfl, rfl⟩
 refine go ?_
 refine Sx.ca rfl (refAlone1 wd need hw hw2 hn hn2) ?_
 rintro v L' ⟨rfl, rfl⟩
 refine Sx.nil ?_
 refine Krg.i ?_
 refine Ksq.nm ?_
 refine Cx.ifp rfl (fun h => ?_) (fun h => ?_)
 ·refine go ?_
  exact Kr.one (.inr rfl) rfl (Ent.refl _) ⟨by unfold afterS; rw [if_pos h], rfl⟩
 ·refine go ?_
  exact Kr.one (.inr rfl) rfl (Ent.refl _) ⟨by unfold afterS; rw [if_neg h], rfl⟩
end
end Go.Proofs.YtflalhdofhobmaaGreat


namespace Go.Proofs.YtflalhdofhobmaaGreat
open Go
attribute [local irreducible] Sx Cx Rx Fx Krg Ksq Kbl Klp Kr
section
variable {L F G : St}
abbrev rgiB (q p : Nat) (sl : Value) (d : Bool) : As := pt (some ⟨q, 0, none⟩) (Blk 189 [.pointer (some ⟨p, 0, none⟩), sl, .bool d])
theorem refPush0 {sb rm : Nat} {k : Sk} {a : Option Addr} {c : Nat} [t : Take L (some ⟨sb, 0, none⟩) (RSkO rm k) F] :
  Fx Tryz.prog 193 [.pointer (some ⟨sb, 0, none⟩), .slice a 0 c] L (fun v L' => ∃ p, v = .pointer (some ⟨p, 0, none⟩) ∧ L = L') := by
 refine Fx.mk Tryz.func193 k193 (Nat.le_of_ble_eq_true rfl) ?_
 dsimp only [c193, envOf, Nat.reduceAdd]
 refine go ?_
 refine Sx.apn rfl rfl (Rd.nil _ _ _) rfl (by simp) (by simp) fun r2 c2 h4 => ?_
 refine go ?_
 refine Sx.bx rfl rfl fun p => ?_
 refine go ?_
 exact Kr.one (.inr rfl) rfl (Ent.trans Ent.drop Ent.drop) ⟨p, rfl, rfl⟩
theorem refSpill0 {s w rm rp rs re : Nat} {x : Cn} {S : SupS} {F1 F2 : St} (hb : S.xs.length ≤ 100000000) (hm0 : 0 ≤ S.most) (hm2 : S.most ≤ 64) (hx0 : (S.xs.length : Int) ≤ S.most) [t2 : Take L (some ⟨s, 0, none⟩) (RSupO w S) F1] [t3 : Take F1 (some ⟨w, 0, none⟩) (RWO x rm rp rs re) F2] [t4 : Take F2 (some ⟨rp, 0, none⟩) (RSkO rm x.pool) G] :
  Fx Tryz.prog 128 [.pointer (some ⟨s, 0, none⟩)] L (fun v L' => ∃ q p r c, v = .pointer (some ⟨q, 0, none⟩) ∧ L' = rgiB q p (.slice r 0 c) true :: L) := by
 have hov : overK S.most S.xs = 0 := by unfold overK; omega
 have hback : Ent (pt (some ⟨s, 0, none⟩) (RSupO w S) :: pt (some ⟨w, 0, none⟩) (RWO x rm rp rs re) :: pt (some ⟨rp, 0, none⟩) (RSkO rm x.pool) :: G) L := Ent.trans (Ent.cons (Ent.trans (Ent.cons (Ent.of t4.back)) (Ent.of t3.back))) (Ent.of t2.back)
 refine Fx.mk Tryz.func128 k128 (Nat.le_of_ble_eq_true rfl) ?_
 dsimp only [c128, envOf, Nat.reduceAdd]
 refine Cx.ent (Ent.trans (Ent.of t2.out) (Ent.cons (Ent.trans (Ent.of t3.out) (Ent.cons (Ent.of t4.out))))) ?_
 refine Cx.openp (a := some ⟨s, 0, none⟩) rfl ?_
 rintro ⟨st, lm⟩
 simp only [rsupL, List.cons_append, List.nil_append]
 refine go ?_
 refine Sx.ca rfl (refOver (b := st) (most := S.most) (xs := S.xs) (by omega) hm0 hm2) ?_
 rw [hov, List.drop_zero]
 rintro v L' ⟨a, c, rfl, rfl⟩
 refine go ?_
 refine Sx.ca (vs := [.pointer (some ⟨s, 0, none⟩), .slice a 0 c]) rfl (R := fun v L' => ∃ q p r c, v = .pointer (some ⟨q, 0, none⟩) ∧ L' = rgiB q p (.slice r 0 c) true :: pt (some ⟨s, 0, none⟩) (Blk 183 [.pointer (some ⟨w, 0, none⟩), .pointer (some ⟨st, 0, none⟩), .pointer (some ⟨lm, 0, none⟩)]) :: pt (some ⟨st, 0, none⟩) (RefO S.most S.xs) :: pt (some ⟨lm, 0, none⟩) (RLimboO S.lm) :: pt (some ⟨w, 0, none⟩) (RWO x rm rp rs re) :: pt (some ⟨rp, 0, none⟩) (RSkO rm x.pool) :: G) ?_ ?_
 ·refine Fx.mk Tryz.func196 k196 (Nat.le_of_ble_eq_true rfl) ?_
  dsimp only [c196, envOf, Nat.reduceAdd]
  refine go ?_
  refine Sx.ca rfl (refPush0 (sb := rp) (rm := rm) (k := x.pool)) ?_
  rintro v L' ⟨p, rfl, rfl⟩
  refine go ?_
  refine Sx.apn rfl rfl (Rd.nil _ _ _) rfl (by simp) (by simp) fun r2 c2 h4 => ?_
  refine go ?_
  refine Sx.bx rfl rfl fun q => ?_
  refine Sx.re [.pointer (some ⟨p, 0, none⟩), .slice r2 0 c2, .bool true] rfl ?_
  refine go ?_
  refine Kr.one (.inr rfl) rfl ?_ ⟨q, p, r2, c2, rfl, rfl⟩
  exact entm
 ·rintro v L' ⟨q, p, r, c', rfl, rfl⟩
  refine go ?_
  refine Kr.one (.inr rfl) rfl ?_ ⟨q, p, r, c', rfl, rfl⟩
  refine Ent.cons ?_
  refine Ent.trans (RSupO.close (a := some ⟨s, 0, none⟩) (st := st) (lm := lm) (w := w) S rfl rfl rfl) ?_
  exact hback
abbrev ralV (sa slot : Nat) (gen : Int) (n at_ : Nat) (cnt : Int) (v : AlV) (tp gp : Value) (dry d : Bool) : List Value :=
 [.pointer (some ⟨sa, 0, none⟩), .int .i64 (slot : Nat), .int .i64 gen, .int .i64 (n : Nat), .int .i64 (at_ : Nat), .int .i64 cnt, .int .i64 (v.point : Nat), .int .i64 (v.need : Nat), .int .i64 v.hand, .int .i64 (v.zat : Nat), wd v.was, tp, gp, .int .i64 (v.code : Nat),
  .int .i64 v.obj.slot, .int .i64 v.obj.gen, .int .i64 v.obj.chunk, .int .i64 v.obj.off, .int .i64 v.obj.len, .bool dry, .bool d]
abbrev ralB (b sa slot : Nat) (gen : Int) (n at_ : Nat) (cnt : Int) (v : AlV) (tp gp : Value) (dry d : Bool) : As := pt (some ⟨b, 0, none⟩) (Blk 87 (ralV sa slot gen n at_ cnt v tp gp dry d))
def dryOk (s : AlS) (dry : Bool) : Prop := s.at_ ≤ 1 → s.v.hand < 0 → dry = s.v.asked
def ralSL (T : TypeId) (sa slot : Nat) (gen : Int) (n : Nat) (s : AlS) (a : Option Addr) (y : Value × Value × Bool) : St :=
 [lift (dryOk s y.2.2), pt a (Blk T (ralV sa slot gen n s.at_ (s.v.cnt : Nat) s.v y.1 y.2.1 y.2.2 s.done))]
def ralTL (T : TypeId) (sa rp slot : Nat) (gen : Int) (n : Nat) (s : AlS) (a : Option Addr) (y : Nat × Value) : St :=
 [pt a (Blk T (ralV sa slot gen n 2 (s.v.cnt : Nat) s.v (.pointer (some ⟨y.1, 0, none⟩)) y.2 false false)), pt (some ⟨y.1, 0, none⟩) (RTakeO sa rp s.t)]
def RAlT (T : TypeId) (sa rp slot : Nat) (gen : Int) (n : Nat) (s : AlS) (a : Option Addr) : As := bif !s.done && Nat.beq s.at_ 2 then exs (ralTL T sa rp slot gen n s a) else exs (ralSL T sa slot gen n s a)
abbrev RAlO := RAlT 87
theorem RAlO.t_ {T : TypeId} {sa rp slot : Nat} {gen : Int} {n : Nat} {s : AlS} {a : Option Addr} (h : s.done = false) (h2 : s.at_ = 2) : RAlT T sa rp slot gen n s a = exs (ralTL T sa rp slot gen n s a) := by unfold RAlT; rw [h, h2]; rfl
theorem RAlO.s_ {T : TypeId} {sa rp slot : Nat} {gen : Int} {n : Nat} {s : AlS} {a : Option Addr} (h : s.done = true ∨ s.at_ ≠ 2) : RAlT T sa rp slot gen n s a = exs (ralSL T sa slot gen n s a) := by
 unfold RAlT
 rcases h with h | h
 ·rw [h]; rfl
 ·cases hb : Nat.beq s.at_ 2 with
  | true => exact absurd (Nat.eq_of_beq_eq_true hb) h
  | false => rw [Bool.and_false]; rfl
theorem RAlO.closeS {b sa rp slot at_ : Nat} {gen : Int} {n : Nat} {cnt : Int} {v : AlV} {tp gp : Value} {dry d : Bool} (s : AlS) (h : s.done = true ∨ s.at_ ≠ 2) (hd : d = s.done) (ha : at_ = s.at_) (hc : cnt = (s.v.cnt : Nat)) (hv : { v with cnt := s.v.cnt, ends := s.v.ends, asked := s.v.asked } = s.v) (hdr : dryOk s dry) :
  Ent (ralB b sa slot gen n at_ cnt v tp gp dry d :: G) (pt (some ⟨b, 0, none⟩) (RAlO sa rp slot gen n s) :: G) := by
 subst hd ha hc
 obtain ⟨a1, v0, t0, g0, d0⟩ := s
 obtain ⟨c1, c2, c3, c4, c5, c6, c7, c8, c9, c10⟩ := v0
 obtain ⟨e1, e2, e3, e4, e5, e6, e7, e8, e9, e10⟩ := v
 dsimp only at hv
 cases hv
 refine Ent.trans (Ent.lift hdr (Ent.refl _)) ?_
 exact Ent.close (f := ralSL 87 sa slot gen n _ (some ⟨b, 0, none⟩)) (RAlO.s_ h) (tp, gp, dry)
theorem RAlO.closeT {b sa rp slot q : Nat} {gen : Int} {n : Nat} {cnt : Int} {v : AlV} {gp : Value} {t : TakeS} (s : AlS) (h : s.done = false) (ha : s.at_ = 2) (hc : cnt = (s.v.cnt : Nat)) (hv : { v with cnt := s.v.cnt, ends := s.v.ends, asked := s.v.asked } = s.v) (ht : t = s.t) :
  Ent (ralB b sa slot gen n 2 cnt v (.pointer (some ⟨q, 0, none⟩)) gp false false :: pt (some ⟨q, 0, none⟩) (RTakeO sa rp t) :: G) (pt (some ⟨b, 0, none⟩) (RAlO sa rp slot gen n s) :: G) := by
 subst hc ht
 obtain ⟨a1, v0, t0, g0, d0⟩ := s
 obtain ⟨c1, c2, c3, c4, c5, c6, c7, c8, c9, c10⟩ := v0
 obtain ⟨e1, e2, e3, e4, e5, e6, e7, e8, e9, e10⟩ := v
 dsimp only at hv
 cases hv
 exact Ent.close (f := ralTL 87 sa rp slot gen n _ (some ⟨b, 0, none⟩)) (RAlO.t_ h ha) (q, gp)
theorem refSupAlloc {sa rp : Nat} (slot : Nat) (gen : Int) (n : Nat) :
  Fx Tryz.prog 37 [.pointer (some ⟨sa, 0, none⟩), .int .i64 slot, .int .i64 gen, .int .i64 n] L (fun v L' => ∃ b, v = .pointer (some ⟨b, 0, none⟩) ∧ L' = pt (some ⟨b, 0, none⟩) (RAlO sa rp slot gen n AlS.init) :: L) := by
 refine Fx.mk Tryz.func37 k37 (Nat.le_of_ble_eq_true rfl) ?_
 dsimp only [c37, envOf, Nat.reduceAdd]
 refine go ?_
 refine Sx.bx rfl rfl fun b => ?_
 refine Sx.re (ralV sa slot gen n 0 0 AlV.init (.pointer none) (.pointer none) false false) rfl ?_
 refine go ?_
 refine Kr.one (.inr rfl) rfl ?_ ⟨b, rfl, rfl⟩
 exact RAlO.closeS (v := AlV.init) AlS.init (.inr (by decide)) rfl rfl rfl rfl (fun _ _ => rfl)
theorem refAlCloses {b sa w rm rp rs re slot at_ : Nat} {gen : Int} {n : Nat} {x : Cn} {S : SupS} {v : AlV} {tp gp : Value} {dry : Bool} {cnt : Int} (t : TakeS) (hcnt : cnt = (v.cnt : Nat)) (hh : v.hand = -1) (hb : S.xs.length ≤ 100000000) (hm0 : 0 ≤ S.most) (hm2 : S.most ≤ 64) (hx0 : (S.xs.length : Int) ≤ S.most) :
  Fx Tryz.prog 177 [.pointer (some ⟨b, 0, none⟩)] (ralB b sa slot gen n at_ cnt v tp gp dry false :: pt (some ⟨sa, 0, none⟩) (RSupO w S) :: pt (some ⟨w, 0, none⟩) (RWO x rm rp rs re) :: pt (some ⟨rp, 0, none⟩) (RSkO rm x.pool) :: G)
   (fun _ L' => L' = pt (some ⟨b, 0, none⟩) (RAlO sa rp slot gen n ⟨6, { v with ends := true, hand := -1 }, t, PushS.init [], true⟩) :: pt (some ⟨sa, 0, none⟩) (RSupO w S) :: pt (some ⟨w, 0, none⟩) (RWO x rm rp rs re) :: pt (some ⟨rp, 0, none⟩) (RSkO rm x.pool) :: G) := by
 subst hcnt
 refine Fx.mk Tryz.func177 k177 (Nat.le_of_ble_eq_true rfl) ?_
 dsimp only [c177, envOf, Nat.reduceAdd]
 refine go ?_
 refine Cx.cno rfl (decide_eq_false (by omega)) ?_
 refine go ?_
 refine Sx.ca rfl (refSpill0 (s := sa) (w := w) (rm := rm) (rp := rp) (rs := rs) (re := re) (x := x) (S := S) hb hm0 hm2 hx0) ?_
 rintro v' L' ⟨q, p, r, c, rfl, rfl⟩
 refine go ?_
 refine Kr.none (.inl rfl) ?_ rfl
 refine Ent.trans (Ent.take (a := some ⟨b, 0, none⟩)) ?_
 refine Ent.trans (RAlO.closeS (rp := rp) (v := v) ⟨6, { v with ends := true, hand := -1 }, t, PushS.init [], true⟩ (.inl rfl) rfl rfl rfl (by cases v; dsimp only at hh; subst hh; rfl) (fun h => by exact absurd h (by show ¬ 6 ≤ 1; omega))) (Ent.cons ?_)
 exact ent
theorem refAlTaken {b sa rp slot at_ q : Nat} {gen : Int} {n : Nat} {v : AlV} {gp : Value} {t : TakeS} {cnt : Int} (hcnt : cnt = (v.cnt : Nat)) (hd : t.done = true) (hask : v.asked = true) (hz : v.zat = 0) (hh : v.hand = -1) (hch : t.is_ = true → 0 ≤ t.chunk) :
  Fx Tryz.prog 109 [.pointer (some ⟨b, 0, none⟩)] (ralB b sa slot gen n at_ cnt v (.pointer (some ⟨q, 0, none⟩)) gp false false :: pt (some ⟨q, 0, none⟩) (RTakeO sa rp t) :: G)
   (fun _ L' => L' = pt (some ⟨b, 0, none⟩) (RAlO sa rp slot gen n (alTaken v t)) :: G) := by
 subst hcnt
 obtain ⟨c1, c2, c3, c4, c5, c6, c7, c8, c9, c10⟩ := v
 dsimp only at hz hask hh
 subst hz hask hh
 refine Fx.mk Tryz.func109 k109 (Nat.le_of_ble_eq_true rfl) ?_
 dsimp only [c109, envOf, Nat.reduceAdd]
 refine Cx.ent (Ent.cons (Ent.refl _)) ?_
 refine Cx.ent (Ent.swap) ?_
 refine Cx.openp (a := some ⟨q, 0, none⟩) (RTakeO.d hd) ?_
 rintro ⟨m, pp⟩
 simp only [rtakeDL, List.cons_append, List.nil_append]
 refine go ?_
 cases hi : t.is_ with
 | true =>
   have e : alTaken ⟨c1, -1, 0, true, c5, c6, c7, c8, c9, c10⟩ t = ⟨3, ⟨c1, t.chunk, 0, true, c5, c6, c7, c8, c9, c10⟩, t, gNone, false⟩ := by unfold alTaken; rw [hi]; rfl
   have ec : t.ch = t.chunk := by unfold TakeS.ch; rw [hi]; rfl
   have := hch hi
   rw [e, ec]
   refine Cx.cno rfl (decide_eq_false (by omega)) ?_
   refine go ?_
   refine Kr.none (.inl rfl) ?_ rfl
   refine Ent.trans (Ent.take (a := some ⟨b, 0, none⟩)) ?_
   refine Ent.trans (RAlO.closeS (rp := rp) (v := ⟨c1, t.chunk, 0, true, c5, c6, c7, c8, c9, c10⟩) ⟨3, ⟨c1, t.chunk, 0, true, c5, c6, c7, c8, c9, c10⟩, t, gNone, false⟩ (.inr (by show 3 ≠ 2; omega)) rfl rfl rfl rfl (fun h => by exact absurd h (by show ¬ 3 ≤ 1; omega))) (Ent.cons ?_)
   exact ent
 | false =>
   have e : alTaken ⟨c1, -1, 0, true, c5, c6, c7, c8, c9, c10⟩ t = ⟨0, ⟨c1, -1, 0, true, c5, c6, c7, c8, c9, c10⟩, t, gNone, false⟩ := by unfold alTaken; rw [hi]; rfl
   have ec : t.ch = -1 := by unfold TakeS.ch; rw [hi]; rfl
   rw [e, ec]
   refine go ?_
   refine Kr.none (.inr rfl) ?_ rfl
   refine Ent.trans (Ent.take (a := some ⟨b, 0, none⟩)) ?_
   refine Ent.trans (RAlO.closeS (rp := rp) (v := ⟨c1, -1, 0, true, c5, c6, c7, c8, c9, c10⟩) ⟨0, ⟨c1, -1, 0, true, c5, c6, c7, c8, c9, c10⟩, t, gNone, false⟩ (.inr (by show 0 ≠ 2; omega)) rfl rfl rfl rfl (fun _ _ => rfl)) (Ent.cons ?_)
   exact ent
end
end Go.Proofs.YtflalhdofhobmaaGreat


namespace Go.Proofs.YtflalhdofhobmaaGreat
open Go
attribute [local irreducible] Sx Cx Rx Fx Krg Ksq Kbl Klp Kr
section
variable {L F G : St}
theorem rt_was_lt {w : Nat} (h : (rtOf w).ok) : w < 18446744073709551616 := by
 have : w / 4294967296 < 4294967296 := h.g
 omega
theorem refAlFine {b sa w rm rp rs re slot at_ : Nat} {gen : Int} {n : Nat} {x : Cn} {S : SupS} {v : AlV} {tp gp : Value} {dry : Bool} {cnt : Int} (t : TakeS) (ch off : Int) (hcnt : cnt = (v.cnt : Nat)) (hh : v.hand = -1) (hco : v.code = 0) (hb : S.xs.length ≤ 100000000) (hm0 : 0 ≤ S.most) (hm2 : S.most ≤ 64) (hx0 : (S.xs.length : Int) ≤ S.most) :
  Fx Tryz.prog 107 [.pointer (some ⟨b, 0, none⟩), .int .i64 ch, .int .i64 off] (ralB b sa slot gen n at_ cnt v tp gp dry false :: pt (some ⟨sa, 0, none⟩) (RSupO w S) :: pt (some ⟨w, 0, none⟩) (RWO x rm rp rs re) :: pt (some ⟨rp, 0, none⟩) (RSkO rm x.pool) :: G)
   (fun _ L' => L' = pt (some ⟨b, 0, none⟩) (RAlO sa rp slot gen n (alClose x.pool S v t 0 ⟨slot, gen, ch, off, n⟩).2) :: pt (some ⟨sa, 0, none⟩) (RSupO w (alClose x.pool S v t 0 ⟨slot, gen, ch, off, n⟩).1) :: pt (some ⟨w, 0, none⟩) (RWO x rm rp rs re) :: pt (some ⟨rp, 0, none⟩) (RSkO rm x.pool) :: G) := by
 rw [alClose_none hh hx0]
 subst hcnt
 obtain ⟨c1, c2, c3, c4, c5, c6, c7, c8, c9, c10⟩ := v
 dsimp only at hh hco
 subst hh hco
 refine Fx.mk Tryz.func107 k107 (Nat.le_of_ble_eq_true rfl) ?_
 dsimp only [c107, envOf, Nat.reduceAdd]
 refine Cx.sq ?_
 refine Cx.ordc rfl (by kernel_rfl) ?_
 refine ge ?_
 refine Ev.stnH (b := b) (ralV sa slot gen n at_ (c1 : Nat) ⟨c1, -1, c3, c4, c5, c6, c7, c8, 0, ⟨slot, gen, ch, off, n⟩⟩ tp gp dry false) (by kernel_rfl) rfl rfl rfl rfl rfl rfl rfl rfl (Pres.deps (by kernel_rfl)) ?_
 refine ge ?_
 refine Ev.stbH (b := b) (by kernel_rfl) rfl rfl rfl rfl rfl (by rfl) rfl (Pres.deps (by kernel_rfl)) ?_
 refine ge ?_
 refine go ?_
 refine Sx.ca rfl (refAlCloses (b := b) (sa := sa) (w := w) (rm := rm) (rp := rp) (rs := rs) (re := re) (slot := slot) (at_ := at_) (gen := gen) (n := n) (x := x) (S := S) (v := ⟨c1, -1, c3, c4, c5, c6, c1, c8, 0, ⟨slot, gen, ch, off, n⟩⟩) (tp := tp) (gp := gp) (dry := dry) t (by rfl) rfl hb hm0 hm2 hx0) ?_
 rintro v' L' rfl
 refine go ?_
 exact Kr.none (.inl rfl) (Ent.refl _) rfl
set_option maxHeartbeats 2000000 in
theorem refAlSeen {b sa w rm rp rs re slot : Nat} {gen : Int} {n : Nat} {x : Cn} {S : SupS} {v : AlV} {tp gp : Value} {cnt : Int} (t : TakeS) (hcnt : cnt = (v.cnt : Nat)) (hx : x.ok) (hn : 1 ≤ n) (hn2 : n ≤ x.wd) (hw8 : x.wd % 8 = 0) (hok : (rtOf v.was).ok) (hh : v.hand = -1) (hz : v.zat = 0) (hco : v.code = 0) (hob : v.obj = Hd.zero) (hb : S.xs.length + S.lm.size ≤ 1000000) (hm0 : 0 ≤ S.most) (hm2 : S.most ≤ 64) (hxs : S.xs = []) (hlm : S.lm.size = 0) :
  Fx Tryz.prog 106 [.pointer (some ⟨b, 0, none⟩)] (ralB b sa slot gen n 0 cnt v tp gp v.asked false :: pt (some ⟨sa, 0, none⟩) (RSupO w S) :: pt (some ⟨w, 0, none⟩) (RWO x rm rp rs re) :: pt (some ⟨rp, 0, none⟩) (RSkO rm x.pool) :: G)
   (fun _ L' => L' = pt (some ⟨b, 0, none⟩) (RAlO sa rp slot gen n (alSeen (x.al slot gen n) S v t).2) :: pt (some ⟨sa, 0, none⟩) (RSupO w (alSeen (x.al slot gen n) S v t).1) :: pt (some ⟨w, 0, none⟩) (RWO x rm rp rs re) :: pt (some ⟨rp, 0, none⟩) (RSkO rm x.pool) :: G) := by
 subst hcnt
 have hx0 : (S.xs.length : Int) ≤ S.most := by rw [hxs]; exact hm0
 obtain ⟨b1, b2, b3, b4, b5, b6, b7⟩ := hx.b
 have hwl := rt_was_lt hok
 refine Fx.mk Tryz.func106 k106 (Nat.le_of_ble_eq_true rfl) ?_
 dsimp only [c106, envOf, Nat.reduceAdd]
 refine go ?_
 refine Sx.ca rfl (refGetRoot v.was hwl) ?_
 rintro v' L' ⟨rfl, rfl⟩
 refine Sx.al fun o => ?_
 refine Sx.st (b := o) rfl rfl rfl rfl rfl rfl ?_
 refine Sx.re (rtL (rtOf v.was)) rfl ?_
 refine go ?_
 refine Cx.ordc rfl (by kernel_rfl) ?_
 refine ge ?_
 refine Ev.cakH (by kernel_rfl) rfl rfl (refLive (rtOf v.was) gen) ?_
 refine ge ?_
 by_cases hlive : (rtOf v.was).live gen
 case neg =>
  have e : alSeen (x.al slot gen n) S v t = alClose x.pool S v t 3 Hd.zero := by unfold alSeen; rw [if_neg hlive]
  rw [e, alClose_none hh hx0, decide_eq_false hlive]
  refine go ?_
  refine Sx.ent (Ent.take (a := some ⟨b, 0, none⟩)) ?_
  refine Sx.ent (M := ralB b sa slot gen n 0 (v.cnt : Nat) { v with code := 3, point := v.cnt } tp gp v.asked false :: pt (some ⟨sa, 0, none⟩) (RSupO w S) :: pt (some ⟨w, 0, none⟩) (RWO x rm rp rs re) :: pt (some ⟨rp, 0, none⟩) (RSkO rm x.pool) :: G) (Ent.cons (by exact ent)) ?_
  refine Sx.ca rfl (refAlCloses (b := b) (sa := sa) (w := w) (rm := rm) (rp := rp) (rs := rs) (re := re) (slot := slot) (at_ := 0) (gen := gen) (n := n) (x := x) (S := S) (v := { v with code := 3, point := v.cnt }) (tp := tp) (gp := gp) (dry := v.asked) t rfl hh (by omega) hm0 hm2 hx0) ?_
  rintro v' L' rfl
  refine go ?_
  refine Kr.none (.inr rfl) ?_ rfl
  rw [← hob]
  exact Ent.refl _
 case pos =>
  rw [decide_eq_true hlive]
  refine go ?_
  refine Cx.ordc rfl (by kernel_rfl) ?_
  refine ge ?_
  have hrl := roundS_le hok.c hn2 hw8
  have hrg := roundS_ge (n := n) hok.c
  refine Ev.cakH (by kernel_rfl) rfl rfl (refRound (rtOf v.was).cl n hok.c hn (by omega)) ?_
  obtain ⟨need, hneed⟩ : ∃ need, roundS (rtOf v.was).cl n = need := ⟨_, rfl⟩
  rw [hneed] at hrl hrg ⊢
  refine ge ?_
  refine Ev.stbH (b := b) (by kernel_rfl) rfl rfl rfl rfl rfl (by rfl) rfl (Pres.deps (by kernel_rfl)) ?_
  refine ge ?_
  refine go ?_
  have hmk := rtOf_mrk v.was
  have hofs := rtOf_off v.was
  have e0 : alSeen (x.al slot gen n) S v t = (if 2 ≤ (rtOf v.was).mrk ∧ fitsS x.wd (rtOf v.was).off need then (S, ⟨1, { v with need := need }, t, gNone, false⟩)
    else if v.asked then alClose x.pool S { v with need := need } t 6 Hd.zero
    else if (takeInit x.ba S).2.done then ((takeInit x.ba S).1, alTaken { v with need := need, asked := true } (takeInit x.ba S).2)
    else ((takeInit x.ba S).1, ⟨2, { v with need := need, asked := true }, (takeInit x.ba S).2, gNone, false⟩)) := by
   unfold alSeen; rw [if_pos hlive]; dsimp only; rw [hneed, if_neg (show ¬ 0 ≤ v.hand by omega)]
  have htk : takeInit x.ba S = (S, ⟨1, 0, false, -1, PopS.init x.ba, false⟩) := by
   unfold takeInit keepT; rw [if_pos hxs]; simp only; rw [if_neg (by omega)]; rfl
  refine Cx.ent (Ent.take (a := some ⟨sa, 0, none⟩)) ?_
  refine Cx.openp (a := some ⟨sa, 0, none⟩) rfl ?_
  rintro ⟨st, lm⟩
  simp only [rsupL, List.cons_append, List.nil_append]
  refine Cx.ordc rfl (by kernel_rfl) ?_
  refine ge ?_
  by_cases hm2' : 2 ≤ (rtOf v.was).mrk
  ·refine Ev.yes 61 rfl (decide_eq_true (by omega)) ?_
   refine ge ?_
   refine Ev.cakH (by kernel_rfl) rfl rfl (refFits2 x.wd (rtOf v.was).off need (by omega) (by omega) (by omega) hrl (by omega)) ?_
   refine ge ?_
   by_cases hf : fitsS x.wd (rtOf v.was).off need
   ·rw [e0, if_pos ⟨hm2', hf⟩, decide_eq_true hf]
    refine go ?_
    refine Kr.none (.inl rfl) ?_ rfl
    refine Ent.trans (RSupO.close (a := some ⟨sa, 0, none⟩) (st := st) (lm := lm) (w := w) S rfl rfl rfl) ?_
    refine Ent.trans (Ent.take (a := some ⟨b, 0, none⟩)) ?_
    refine Ent.trans (RAlO.closeS (rp := rp) (v := { v with need := need }) ⟨1, { v with need := need }, t, gNone, false⟩ (.inr (by show 1 ≠ 2; omega)) rfl rfl rfl rfl (fun _ _ => rfl)) (Ent.cons ?_)
    exact ent
   rw [if_neg (fun h => hf h.2)] at e0
   rw [decide_eq_false hf]
   refine go ?_
   refine Cx.cno rfl (decide_eq_false (by omega)) ?_
   refine go ?_
   cases hask : v.asked with
   | true =>
     rw [hask] at e0
     simp only [if_true] at e0
     rw [alClose_none (v := { v with need := need, asked := true }) hh hx0] at e0
     rw [e0]
     refine go ?_
     refine Sx.ent (RSupO.close (a := some ⟨sa, 0, none⟩) (st := st) (lm := lm) (w := w) S rfl rfl rfl) ?_
     refine Sx.ent (Ent.take (a := some ⟨b, 0, none⟩)) ?_
     refine Sx.ent (M := ralB b sa slot gen n 0 (v.cnt : Nat) { v with need := need, asked := true, code := 6, point := v.cnt } tp gp true false :: pt (some ⟨sa, 0, none⟩) (RSupO w S) :: pt (some ⟨w, 0, none⟩) (RWO x rm rp rs re) :: pt (some ⟨rp, 0, none⟩) (RSkO rm x.pool) :: G) (Ent.cons (by exact ent)) ?_
     refine Sx.ca rfl (refAlCloses (b := b) (sa := sa) (w := w) (rm := rm) (rp := rp) (rs := rs) (re := re) (slot := slot) (at_ := 0) (gen := gen) (n := n) (x := x) (S := S) (v := { v with need := need, asked := true, code := 6, point := v.cnt }) (tp := tp) (gp := gp) (dry := true) t rfl hh (by omega) hm0 hm2 hx0) ?_
     rintro v' L' rfl
     refine go ?_
     refine Kr.none (.inl rfl) ?_ rfl
     rw [← hob]
     exact Ent.refl _
   | false =>
     rw [hask] at e0
     rw [htk] at e0
     simp only [Bool.false_eq_true, if_false] at e0
     rw [e0]
     refine go ?_
     refine Sx.ent (RSupO.close (a := some ⟨sa, 0, none⟩) (st := st) (lm := lm) (w := w) S rfl rfl rfl) ?_
     refine Sx.ca rfl (refTakeNew (s := sa) (w := w) (rm := rm) (rp := rp) (rs := rs) (re := re) (x := x) (S := S) hx (by omega)) ?_
     rw [htk]
     rintro v' L' ⟨q, rfl, rfl⟩
     refine go ?_
     refine Sx.ent (Ent.take (a := some ⟨q, 0, none⟩)) ?_
     refine Sx.openp (a := some ⟨q, 0, none⟩) (RTakeO.p rfl (by show 1 ≠ 0; omega)) ?_
     intro p
     simp only [rtakePL, List.cons_append, List.nil_append]
     refine go ?_
     refine Kr.none (.inl rfl) ?_ rfl
     refine Ent.trans (Ent.take (a := some ⟨q, 0, none⟩)) ?_
     refine Ent.trans (Ent.cons (Ent.take (a := some ⟨p, 0, none⟩))) ?_
     refine Ent.trans (RTakeO.closeP (b := q) (s := sa) (rp := rp) (p := p) ⟨1, 0, false, -1, PopS.init x.ba, false⟩ rfl (by show 1 ≠ 0; omega) rfl rfl) ?_
     refine Ent.trans (Ent.cons (Ent.take (a := some ⟨b, 0, none⟩))) ?_
     refine Ent.trans Ent.swap ?_
     refine Ent.trans (RAlO.closeT (rp := rp) (q := q) (v := { v with need := need }) ⟨2, { v with need := need, asked := true }, ⟨1, 0, false, -1, PopS.init x.ba, false⟩, gNone, false⟩ rfl rfl rfl rfl rfl) (Ent.cons ?_)
     exact ent
  ·refine Ev.no 61 rfl (decide_eq_false (by omega)) ?_
   refine ge ?_
   rw [if_neg (fun h => hm2' h.1)] at e0
   refine go ?_
   refine Cx.cno rfl (decide_eq_false (by omega)) ?_
   refine go ?_
   cases hask : v.asked with
   | true =>
     rw [hask] at e0
     simp only [if_true] at e0
     rw [alClose_none (v := { v with need := need, asked := true }) hh hx0] at e0
     rw [e0]
     refine go ?_
     refine Sx.ent (RSupO.close (a := some ⟨sa, 0, none⟩) (st := st) (lm := lm) (w := w) S rfl rfl rfl) ?_
     refine Sx.ent (Ent.take (a := some ⟨b, 0, none⟩)) ?_
     refine Sx.ent (M := ralB b sa slot gen n 0 (v.cnt : Nat) { v with need := need, asked := true, code := 6, point := v.cnt } tp gp true false :: pt (some ⟨sa, 0, none⟩) (RSupO w S) :: pt (some ⟨w, 0, none⟩) (RWO x rm rp rs re) :: pt (some ⟨rp, 0, none⟩) (RSkO rm x.pool) :: G) (Ent.cons (by exact ent)) ?_
     refine Sx.ca rfl (refAlCloses (b := b) (sa := sa) (w := w) (rm := rm) (rp := rp) (rs := rs) (re := re) (slot := slot) (at_ := 0) (gen := gen) (n := n) (x := x) (S := S) (v := { v with need := need, asked := true, code := 6, point := v.cnt }) (tp := tp) (gp := gp) (dry := true) t rfl hh (by omega) hm0 hm2 hx0) ?_
     rintro v' L' rfl
     refine go ?_
     refine Kr.none (.inl rfl) ?_ rfl
     rw [← hob]
     exact Ent.refl _
   | false =>
     rw [hask] at e0
     rw [htk] at e0
     simp only [Bool.false_eq_true, if_false] at e0
     rw [e0]
     refine go ?_
     refine Sx.ent (RSupO.close (a := some ⟨sa, 0, none⟩) (st := st) (lm := lm) (w := w) S rfl rfl rfl) ?_
     refine Sx.ca rfl (refTakeNew (s := sa) (w := w) (rm := rm) (rp := rp) (rs := rs) (re := re) (x := x) (S := S) hx (by omega)) ?_
     rw [htk]
     rintro v' L' ⟨q, rfl, rfl⟩
     refine go ?_
     refine Sx.ent (Ent.take (a := some ⟨q, 0, none⟩)) ?_
     refine Sx.openp (a := some ⟨q, 0, none⟩) (RTakeO.p rfl (by show 1 ≠ 0; omega)) ?_
     intro p
     simp only [rtakePL, List.cons_append, List.nil_append]
     refine go ?_
     refine Kr.none (.inl rfl) ?_ rfl
     refine Ent.trans (Ent.take (a := some ⟨q, 0, none⟩)) ?_
     refine Ent.trans (Ent.cons (Ent.take (a := some ⟨p, 0, none⟩))) ?_
     refine Ent.trans (RTakeO.closeP (b := q) (s := sa) (rp := rp) (p := p) ⟨1, 0, false, -1, PopS.init x.ba, false⟩ rfl (by show 1 ≠ 0; omega) rfl rfl) ?_
     refine Ent.trans (Ent.cons (Ent.take (a := some ⟨b, 0, none⟩))) ?_
     refine Ent.trans Ent.swap ?_
     refine Ent.trans (RAlO.closeT (rp := rp) (q := q) (v := { v with need := need }) ⟨2, { v with need := need, asked := true }, ⟨1, 0, false, -1, PopS.init x.ba, false⟩, gNone, false⟩ rfl rfl rfl rfl rfl) (Ent.cons ?_)
     exact ent
end
end Go.Proofs.YtflalhdofhobmaaGreat


namespace Go.Proofs.YtflalhdofhobmaaGreat
open Go
attribute [local irreducible] Sx Cx Rx Fx Krg Ksq Kbl Klp Kr
section
variable {L F G : St}
theorem takeStep_pop {k : Sk} {ba : Int} {m : Mm} {s : SupS} {t : TakeS} {len : Nat} (hk : k.ok len) (hm : m.ok) (hq : t.q.ok k) (h1 : t.at_ = 1) (hd : t.done = false) :
  ((takeStep k ba m s t).2.2.done = false → (takeStep k ba m s t).2.2.at_ = 1) ∧ ((takeStep k ba m s t).2.2.is_ = true → (takeStep k ba m s t).2.2.done = true → t.is_ = false → 0 ≤ (takeStep k ba m s t).2.2.chunk) := by
 have hp := popStep_ok hk hm hq
 unfold takeStep
 rw [hd, h1]
 simp only [Bool.false_eq_true, if_false]
 split
 ·unfold popped
  dsimp only
  split
  ·exact ⟨fun h => (by cases h), fun h1 _ h2 => by dsimp only at h1; rw [h2] at h1; cases h1⟩
  ·rename_i y l hg
   refine ⟨fun h => (by cases h), fun _ _ _ => ?_⟩
   exact (hp.g y (by rw [hg]; simp)).1
 ·exact ⟨fun _ => rfl, fun _ h _ => by cases h⟩
set_option maxRecDepth 100000 in
set_option maxHeartbeats 8000000 in
theorem refAlStep {b sa w rm rp rs re slot : Nat} {gen : Int} {n : Nat} {x : Cn} {S : SupS} {m : Mm} {a : AlS} {F1 F2 F3 F4 : St} (hx : x.ok) (hl : x.len ≤ m.ws.length) (hs : slot < x.sl) (hn : 1 ≤ n) (hn2 : n ≤ x.wd) (hw8 : x.wd % 8 = 0) (hok : (rtOf (m.at_ (x.root + slot))).ok) (hb : S.xs.length + S.lm.size ≤ 1000000) (hm0 : 0 ≤ S.most) (hm2 : S.most ≤ 64)
  (ha : a.done = false → AlOk x a) (hr : a.done = false → RefOk x.pool a) (hxs : S.xs = []) (hlm : S.lm.size = 0) (hti : a.done = false → a.at_ = 2 → a.t.is_ = false)
  [t1 : Take L (some ⟨b, 0, none⟩) (RAlO sa rp slot gen n a) F1] [t2 : Take F1 (some ⟨sa, 0, none⟩) (RSupO w S) F2] [t3 : Take F2 (some ⟨rm, 0, none⟩) (RMemO m) F3] [t4 : Take F3 (some ⟨w, 0, none⟩) (RWO x rm rp rs re) F4] [t5 : Take F4 (some ⟨rp, 0, none⟩) (RSkO rm x.pool) G] :
  Fx Tryz.prog 38 [.pointer (some ⟨b, 0, none⟩)] L
   (fun v L' => v = .bool (!a.done) ∧ L' = pt (some ⟨b, 0, none⟩) (RAlO sa rp slot gen n (alStep (x.al slot gen n) m S a).2.2) :: pt (some ⟨sa, 0, none⟩) (RSupO w (alStep (x.al slot gen n) m S a).2.1) :: pt (some ⟨rm, 0, none⟩) (RMemO (alStep (x.al slot gen n) m S a).1) :: F3) := by
 obtain ⟨b1, b2, b3, b4, b5, b6, b7⟩ := hx.b
 have hsz : x.root + x.sl ≤ x.len := by unfold Cn.root Cn.len; omega
 have hlz : x.link + x.c ≤ x.len := by unfold Cn.link Cn.len; omega
 have hx0 : (S.xs.length : Int) ≤ S.most := by rw [hxs]; exact hm0
 have hback : Ent (pt (some ⟨w, 0, none⟩) (RWO x rm rp rs re) :: pt (some ⟨rp, 0, none⟩) (RSkO rm x.pool) :: G) F3 := Ent.trans (Ent.cons (Ent.of t5.back)) (Ent.of t4.back)
 refine Fx.mk Tryz.func38 k38 (Nat.le_of_ble_eq_true rfl) ?_
 dsimp only [c38, envOf, Nat.reduceAdd]
 refine Cx.ent (Ent.trans (Ent.of t1.out) (Ent.cons (Ent.trans (Ent.of t2.out) (Ent.cons (Ent.trans (Ent.of t3.out) (Ent.cons (Ent.trans (Ent.of t4.out) (Ent.cons (Ent.of t5.out))))))))) ?_
 refine Cx.pure (rmemKey (rm := rm) (m := m)) fun hm => ?_
 cases hd : a.done with
 | true =>
   have e1 : alStep (x.al slot gen n) m S a = (m, S, a) := by unfold alStep; rw [hd]; rfl
   rw [e1]
   refine Cx.openp (a := some ⟨b, 0, none⟩) (RAlO.s_ (.inl hd)) ?_
   rintro ⟨tp, gp, dry⟩
   simp only [ralSL, List.cons_append, List.nil_append]
   refine Cx.liftp fun hdr => ?_
   rw [hd]
   refine go ?_
   exact Kr.one (.inr rfl) rfl (Ent.trans (RAlO.closeS (rp := rp) (v := a.v) a (.inl hd) hd.symm rfl rfl rfl hdr) (Ent.cons (Ent.cons (Ent.cons hback)))) ⟨rfl, rfl⟩
 | false =>
   obtain ⟨k0, k1, k2, k3, k4, k5, k6, k7, k8, k9⟩ := ha hd
   obtain ⟨r1, r2, r3, r4, r5, r6, r7, r8, r9⟩ := hr hd
   have hwl := rt_was_lt k4
   by_cases h2 : a.at_ = 2
   ·have hk := hx.pool (n := m.ws.length) hl hm.2
    refine Cx.openp (a := some ⟨b, 0, none⟩) (RAlO.t_ hd h2) ?_
    rintro ⟨q, gp⟩
    simp only [ralTL, List.cons_append, List.nil_append]
    refine Cx.ent (Ent.take (a := some ⟨sa, 0, none⟩)) ?_
    refine Cx.openp (a := some ⟨sa, 0, none⟩) rfl ?_
    rintro ⟨st, lm⟩
    simp only [rsupL, List.cons_append, List.nil_append]
    refine go ?_
    rw [cntW k1]
    refine Cx.ent (RSupO.close (a := some ⟨sa, 0, none⟩) (st := st) (lm := lm) (w := w) S rfl rfl rfl) ?_
    refine Cx.ordc rfl (by kernel_rfl) ?_
    refine ge ?_
    refine Ev.cakH (by kernel_rfl) rfl rfl (refRootAt hx slot hs) ?_
    refine ge ?_
    refine go ?_
    refine Sx.ca rfl (refGetRoot a.v.was hwl) ?_
    rintro v' L' ⟨rfl, rfl⟩
    refine Sx.al fun o => ?_
    refine Sx.st (b := o) rfl rfl rfl rfl rfl rfl ?_
    refine Sx.re (rtL (rtOf a.v.was)) rfl ?_
    refine go ?_
    obtain ⟨T, hT⟩ : ∃ T, takeStep x.pool x.ba m S a.t = T := ⟨_, rfl⟩
    have htp := takeStep_pop (ba := x.ba) (m := m) (s := S) hk hm.1 (r7 h2) (r8 h2).1 (r8 h2).2
    refine Sx.ca rfl (refTakeStep (b := q) (s := sa) (w := w) (rm := rm) (rp := rp) (rs := rs) (re := re) (x := x) (S := S) (m := m) (t := a.t) hx hl (k9 h2) (fun _ _ => r7 h2) hb) ?_
    rw [hT] at htp ⊢
    rintro v' L' ⟨rfl, rfl⟩
    cases hq : T.2.2.done with
    | true =>
      have e1 : alStep (x.al slot gen n) m S a = (T.1, T.2.1, alTaken { a.v with cnt := a.v.cnt + 1 } T.2.2) := by unfold alStep; rw [hd, h2]; simp only [Bool.false_eq_true, if_false, hT, hq, if_true]
      rw [e1]
      refine Sx.nil ?_
      refine Krg.i ?_
      refine Ksq.nm ?_
      refine Cx.sq ?_
      refine Cx.openp (a := some ⟨q, 0, none⟩) (RTakeO.d hq) ?_
      rintro ⟨nn, pp⟩
      simp only [rtakeDL, List.cons_append, List.nil_append]
      refine go ?_
      refine Sx.ent (Ent.trans (Ent.take (a := some ⟨q, 0, none⟩)) (RTakeO.closeD (b := q) (s := sa) (rp := rp) T.2.2 hq rfl rfl)) ?_
      refine Sx.ent (Ent.take (a := some ⟨b, 0, none⟩)) ?_
      refine Sx.ca rfl (refAlTaken (b := b) (sa := sa) (rp := rp) (slot := slot) (at_ := 2) (q := q) (gen := gen) (n := n) (v := { a.v with cnt := a.v.cnt + 1 }) (gp := gp) (t := T.2.2) rfl hq (r6 h2) (r4 (by omega)) (r3 (by omega)) (fun h => htp.2 h hq (hti hd h2))) ?_
      rintro v' L' rfl
      refine go ?_
      refine Kr.one (.inr rfl) rfl (Ent.cons ?_) ⟨rfl, rfl⟩
      refine Ent.trans (M := pt (some ⟨sa, 0, none⟩) (RSupO w T.2.1) :: pt (some ⟨rm, 0, none⟩) (RMemO T.1) :: _) (by exact ent) (Ent.cons (Ent.cons hback))
    | false =>
      have e1 : alStep (x.al slot gen n) m S a = (T.1, T.2.1, ⟨2, { a.v with cnt := a.v.cnt + 1 }, T.2.2, gNone, false⟩) := by unfold alStep; rw [hd, h2]; simp only [Bool.false_eq_true, if_false, hT, hq]
      rw [e1]
      refine Sx.nil ?_
      refine Krg.i ?_
      refine Ksq.nm ?_
      refine Cx.sq ?_
      refine Cx.openp (a := some ⟨q, 0, none⟩) (RTakeO.p hq (by rw [htp.1 hq]; decide)) ?_
      intro p
      simp only [rtakePL, List.cons_append, List.nil_append]
      refine go ?_
      refine Kr.one (.inr rfl) rfl ?_ ⟨rfl, rfl⟩
      refine Ent.trans (Ent.trans (Ent.take (a := some ⟨q, 0, none⟩)) (Ent.cons (Ent.take (a := some ⟨p, 0, none⟩)))) ?_
      refine Ent.trans (RTakeO.closeP (b := q) (s := sa) (rp := rp) (p := p) T.2.2 hq (by rw [htp.1 hq]; decide) rfl rfl) ?_
      refine Ent.trans (Ent.cons (Ent.take (a := some ⟨b, 0, none⟩))) ?_
      refine Ent.trans Ent.swap ?_
      refine Ent.trans (RAlO.closeT (rp := rp) (q := q) (v := a.v) ⟨2, { a.v with cnt := a.v.cnt + 1 }, T.2.2, gNone, false⟩ rfl rfl rfl rfl rfl) (Ent.cons ?_)
      refine Ent.trans (M := pt (some ⟨sa, 0, none⟩) (RSupO w T.2.1) :: pt (some ⟨rm, 0, none⟩) (RMemO T.1) :: _) (by exact ent) (Ent.cons (Ent.cons hback))
   ·refine Cx.openp (a := some ⟨b, 0, none⟩) (RAlO.s_ (.inr h2)) ?_
    rintro ⟨tp, gp, dry⟩
    simp only [ralSL, List.cons_append, List.nil_append]
    refine Cx.liftp fun hdr => ?_
    rw [hd]
    refine Cx.ent (Ent.take (a := some ⟨sa, 0, none⟩)) ?_
    refine Cx.openp (a := some ⟨sa, 0, none⟩) rfl ?_
    rintro ⟨st, lm⟩
    simp only [rsupL, List.cons_append, List.nil_append]
    refine go ?_
    rw [cntW k1]
    refine Cx.ent (RSupO.close (a := some ⟨sa, 0, none⟩) (st := st) (lm := lm) (w := w) S rfl rfl rfl) ?_
    refine Cx.ordc rfl (by kernel_rfl) ?_
    refine ge ?_
    refine Ev.cakH (by kernel_rfl) rfl rfl (refRootAt hx slot hs) ?_
    refine ge ?_
    refine go ?_
    refine Sx.ca rfl (refGetRoot a.v.was hwl) ?_
    rintro v' L' ⟨rfl, rfl⟩
    refine Sx.al fun o => ?_
    refine Sx.st (b := o) rfl rfl rfl rfl rfl rfl ?_
    refine Sx.re (rtL (rtOf a.v.was)) rfl ?_
    refine go ?_
    rcases (show a.at_ = 0 ∨ a.at_ = 3 ∨ a.at_ = 4 ∨ a.at_ = 5 by omega) with h0 | h0 | h0 | h0
    ·have hdry : dry = a.v.asked := hdr (by omega) (by have := r3 (by omega); omega)
     subst hdry
     rw [h0]
     refine go ?_
     have e1 : alStep (x.al slot gen n) m S a = (m.tick, alSeen (x.al slot gen n) S { a.v with cnt := a.v.cnt + 1, was := m.at_ (x.root + slot) } a.t) := by unfold alStep; rw [hd, h0]; rfl
     rw [e1]
     refine Sx.ca rfl (refLoad (rm := rm) (m := m) (x.root + slot) (by omega)) ?_
     rintro v' L' ⟨rfl, rfl⟩
     refine go ?_
     refine Sx.ent (Ent.take (a := some ⟨b, 0, none⟩)) ?_
     refine Sx.ent (M := ralB b sa slot gen n 0 ((a.v.cnt + 1 : Nat) : Int) { a.v with cnt := a.v.cnt + 1, was := m.at_ (x.root + slot) } tp gp a.v.asked false :: pt (some ⟨sa, 0, none⟩) (RSupO w S) :: pt (some ⟨w, 0, none⟩) (RWO x rm rp rs re) :: pt (some ⟨rp, 0, none⟩) (RSkO rm x.pool) :: pt (some ⟨rm, 0, none⟩) (RMemO m.tick) :: G) (Ent.cons (by exact entm)) ?_
     refine Sx.ca rfl (refAlSeen (b := b) (sa := sa) (w := w) (rm := rm) (rp := rp) (rs := rs) (re := re) (slot := slot) (gen := gen) (n := n) (x := x) (S := S) (v := { a.v with cnt := a.v.cnt + 1, was := m.at_ (x.root + slot) }) (tp := tp) (gp := gp) a.t rfl hx hn hn2 hw8 hok (r3 (by omega)) (r4 (by omega)) r1 r2 hb hm0 hm2 hxs hlm) ?_
     rintro v' L' rfl
     refine go ?_
     refine Kr.one (.inr rfl) rfl (Ent.cons (Ent.cons ?_)) ⟨rfl, rfl⟩
     refine Ent.trans (M := pt (some ⟨rm, 0, none⟩) (RMemO m.tick) :: pt (some ⟨w, 0, none⟩) (RWO x rm rp rs re) :: pt (some ⟨rp, 0, none⟩) (RSkO rm x.pool) :: G) (by exact entm) (Ent.cons hback)
    ·obtain ⟨k, hkk⟩ : ∃ k : Nat, a.v.hand = k := ⟨a.v.hand.toNat, by have := k7 (.inl h0); omega⟩
     have k8' := k8 h0
     rw [h0]
     refine go ?_
     have hwd := word_lt (x := x) (k := k) (j := a.v.zat) (by omega) k8'
     have e1 : alStep (x.al slot gen n) m S a = (m.put (x.word + k * x.wd + a.v.zat) 0, S, ⟨if a.v.zat + 1 < x.wd then 3 else 4, { a.v with cnt := a.v.cnt + 1, zat := a.v.zat + 1 }, a.t, gNone, false⟩) := by unfold alStep; rw [hd, h0]; simp only [Bool.false_eq_true, if_false, hkk, Int.toNat_natCast]
     rw [e1]
     refine Cx.ordc rfl (by kernel_rfl) ?_
     refine ge ?_
     rw [hkk]
     refine Ev.cakH (by kernel_rfl) rfl rfl (refWord hx k a.v.zat (by omega) k8') ?_
     refine ge ?_
     refine Ev.caH (by kernel_rfl) rfl rfl (refStore (rm := rm) (m := m) (x.word + k * x.wd + a.v.zat) 0 (by omega) (by omega)) (Pres.deps (by kernel_rfl)) ?_
     rintro v' L' ⟨rfl, rfl⟩
     refine ge ?_
     refine go ?_
     rw [w64 (n := (a.v.zat : Int) + 1) (by omega) (by omega)]
     refine Cx.ordc rfl (by kernel_rfl) ?_
     refine ge ?_
     refine Cx.ifp rfl (fun hz => ?_) (fun hz => ?_)
     ·rw [if_neg (by omega)]
      refine go ?_
      refine Kr.one (.inr rfl) rfl ?_ ⟨rfl, rfl⟩
      refine Ent.trans (Ent.take (a := some ⟨b, 0, none⟩)) ?_
      refine Ent.trans (RAlO.closeS (rp := rp) (v := { a.v with zat := a.v.zat + 1 }) ⟨4, { a.v with cnt := a.v.cnt + 1, zat := a.v.zat + 1 }, a.t, gNone, false⟩ (.inr (by show 4 ≠ 2; omega)) rfl rfl rfl rfl (fun h => absurd (show 4 ≤ 1 from h) (by omega))) (Ent.cons ?_)
      refine Ent.trans (M := pt (some ⟨sa, 0, none⟩) (RSupO w S) :: pt (some ⟨rm, 0, none⟩) (RMemO _) :: _) (by exact ent) (Ent.cons (Ent.cons hback))
     ·rw [if_pos (by omega)]
      refine go ?_
      refine Kr.one (.inr rfl) rfl ?_ ⟨rfl, rfl⟩
      refine Ent.trans (Ent.take (a := some ⟨b, 0, none⟩)) ?_
      refine Ent.trans (RAlO.closeS (rp := rp) (v := { a.v with zat := a.v.zat + 1 }) ⟨3, { a.v with cnt := a.v.cnt + 1, zat := a.v.zat + 1 }, a.t, gNone, false⟩ (.inr (by show 3 ≠ 2; omega)) rfl rfl rfl rfl (fun h => absurd (show 3 ≤ 1 from h) (by omega))) (Ent.cons ?_)
      refine Ent.trans (M := pt (some ⟨sa, 0, none⟩) (RSupO w S) :: pt (some ⟨rm, 0, none⟩) (RMemO _) :: _) (by exact ent) (Ent.cons (Ent.cons hback))
    ·obtain ⟨k, hkk⟩ : ∃ k : Nat, a.v.hand = k := ⟨a.v.hand.toNat, by have := k7 (.inr (.inl h0)); omega⟩
     have hc1 := (rtOf a.v.was).chunk_ge
     have hc2 := Rt.chunk_lt (rtOf_mrk a.v.was)
     rw [h0]
     refine go ?_
     have e1 : alStep (x.al slot gen n) m S a = (m.put (x.link + k) ((rtOf a.v.was).chunk + 1).toNat, S, ⟨5, { a.v with cnt := a.v.cnt + 1 }, a.t, gNone, false⟩) := by unfold alStep; rw [hd, h0]; simp only [Bool.false_eq_true, if_false, hkk, Int.toNat_natCast]; rfl
     rw [e1]
     refine Cx.ordc rfl (by kernel_rfl) ?_
     refine ge ?_
     rw [hkk]
     refine Ev.cakH (by kernel_rfl) rfl rfl (refLink hx k (by omega)) ?_
     refine ge ?_
     refine Ev.cakH (by kernel_rfl) rfl rfl (refChunk (rtOf a.v.was) (rtOf_mrk _)) ?_
     refine ge ?_
     rw [wrapS (x := (rtOf a.v.was).chunk + 1) (by omega) (by omega)]
     refine Ev.caH (by kernel_rfl) rfl rfl (refStore (rm := rm) (m := m) (x.link + k) ((rtOf a.v.was).chunk + 1).toNat (by omega) (by omega)) (Pres.deps (by kernel_rfl)) ?_
     rintro v' L' ⟨rfl, rfl⟩
     refine ge ?_
     refine go ?_
     refine Kr.one (.inr rfl) rfl ?_ ⟨rfl, rfl⟩
     refine Ent.trans (Ent.take (a := some ⟨b, 0, none⟩)) ?_
     refine Ent.trans (RAlO.closeS (rp := rp) (v := a.v) ⟨5, { a.v with cnt := a.v.cnt + 1 }, a.t, gNone, false⟩ (.inr (by show 5 ≠ 2; omega)) rfl rfl rfl rfl (fun h => absurd (show 5 ≤ 1 from h) (by omega))) (Ent.cons ?_)
     refine Ent.trans (M := pt (some ⟨sa, 0, none⟩) (RSupO w S) :: pt (some ⟨rm, 0, none⟩) (RMemO _) :: _) (by exact ent) (Ent.cons (Ent.cons hback))
    ·obtain ⟨k, hkk⟩ : ∃ k : Nat, a.v.hand = k := ⟨a.v.hand.toNat, by have := k7 (.inr (.inr h0)); omega⟩
     obtain ⟨n1, n2⟩ := k6 h0
     have haf := afterS_le n2
     have hR : Rt.ok ⟨(rtOf a.v.was).gen, k + 2, (rtOf a.v.was).cl, afterS x.wd a.v.need⟩ := ⟨k4.g, by show k + 2 ≤ 4097; omega, k4.c, by show afterS x.wd a.v.need ≤ 1024; omega⟩
     rw [h0]
     refine go ?_
     refine Sx.al fun o2 => ?_
     refine Sx.st (b := o2) rfl rfl rfl rfl rfl rfl ?_
     refine Sx.re (rtL (rtOf a.v.was)) rfl ?_
     refine go ?_
     refine Cx.ordc rfl (by kernel_rfl) ?_
     refine ge ?_
     rw [hkk, w64 (n := (k : Int) + 2) (by omega) (by omega)]
     refine Ev.cakH (by kernel_rfl) rfl rfl (refAfter x.wd a.v.need (by omega) (by omega) n1 n2) ?_
     refine ge ?_
     refine Ev.stbH (b := o2) (by kernel_rfl) rfl rfl rfl rfl rfl (by rfl) rfl (Pres.deps (by kernel_rfl)) ?_
     refine ge ?_
     refine Ev.stbH (b := o2) (by kernel_rfl) rfl rfl rfl rfl rfl (by rfl) rfl (Pres.deps (by kernel_rfl)) ?_
     refine ge ?_
     refine go ?_
     refine Sx.ca (vs := [rtV ⟨(rtOf a.v.was).gen, k + 2, (rtOf a.v.was).cl, afterS x.wd a.v.need⟩]) rfl (refPutRoot ⟨(rtOf a.v.was).gen, k + 2, (rtOf a.v.was).cl, afterS x.wd a.v.need⟩ hR) ?_
     rintro v' L' ⟨rfl, rfl⟩
     refine go ?_
     obtain ⟨wN, hwN⟩ : ∃ wN, Rt.w ⟨(rtOf a.v.was).gen, k + 2, (rtOf a.v.was).cl, afterS x.wd a.v.need⟩ = wN := ⟨_, rfl⟩
     have hwl2 := Rt.w_lt hR
     rw [hwN] at hwl2 ⊢
     refine Cx.ordc rfl (by kernel_rfl) ?_
     refine ge ?_
     refine Ev.caH (by kernel_rfl) rfl rfl (refCas (rm := rm) (m := m) (x.root + slot) a.v.was wN (by omega) hwl hwl2) (Pres.deps (by kernel_rfl)) ?_
     rintro v' L' ⟨rfl, rfl⟩
     refine ge ?_
     by_cases hc : m.at_ (x.root + slot) = a.v.was
     ·have ecas : m.cas (x.root + slot) a.v.was wN = m.put (x.root + slot) wN := by unfold Mm.cas; rw [if_pos hc]
      have e1 : alStep (x.al slot gen n) m S a = (m.put (x.root + slot) wN, alClose x.pool S { a.v with cnt := a.v.cnt + 1, hand := -1 } a.t 0 ⟨slot, gen, a.v.hand, 0, n⟩) := by
       unfold alStep; rw [hd, h0]; simp only [Bool.false_eq_true, if_false]; rw [if_pos hc, hkk, Int.toNat_natCast, Nat.add_comm 2 k, hwN]
      rw [e1, ecas, decide_eq_true hc]
      refine go ?_
      refine Sx.ent (Ent.take (a := some ⟨b, 0, none⟩)) ?_
      refine Sx.ent (M := ralB b sa slot gen n 0 ((a.v.cnt + 1 : Nat) : Int) { a.v with cnt := a.v.cnt + 1, hand := -1 } tp gp dry false :: pt (some ⟨sa, 0, none⟩) (RSupO w S) :: pt (some ⟨w, 0, none⟩) (RWO x rm rp rs re) :: pt (some ⟨rp, 0, none⟩) (RSkO rm x.pool) :: pt (some ⟨rm, 0, none⟩) (RMemO (m.put (x.root + slot) wN)) :: G) (Ent.cons (by exact entm)) ?_
      refine Sx.ca rfl (refAlFine (b := b) (sa := sa) (w := w) (rm := rm) (rp := rp) (rs := rs) (re := re) (slot := slot) (at_ := 0) (gen := gen) (n := n) (x := x) (S := S) (v := { a.v with cnt := a.v.cnt + 1, hand := -1 }) (tp := tp) (gp := gp) (dry := dry) a.t a.v.hand 0 rfl rfl r1 (by omega) hm0 hm2 hx0) ?_
      rintro v' L' rfl
      refine go ?_
      refine Kr.one (.inr rfl) rfl (Ent.cons (Ent.cons ?_)) ⟨rfl, rfl⟩
      refine Ent.trans (M := pt (some ⟨rm, 0, none⟩) (RMemO (m.put (x.root + slot) wN)) :: pt (some ⟨w, 0, none⟩) (RWO x rm rp rs re) :: pt (some ⟨rp, 0, none⟩) (RSkO rm x.pool) :: G) (by exact entm) (Ent.cons hback)
     ·have ecas : m.cas (x.root + slot) a.v.was wN = m.tick := by unfold Mm.cas; rw [if_neg hc]
      have e1 : alStep (x.al slot gen n) m S a = (m.tick, S, ⟨0, { a.v with cnt := a.v.cnt + 1 }, a.t, gNone, false⟩) := by
       unfold alStep; rw [hd, h0]; simp only [Bool.false_eq_true, if_false]; rw [if_neg hc]
      rw [e1, ecas, decide_eq_false hc]
      refine go ?_
      refine Kr.one (.inr rfl) rfl ?_ ⟨rfl, rfl⟩
      refine Ent.trans (Ent.take (a := some ⟨b, 0, none⟩)) ?_
      refine Ent.trans (RAlO.closeS (rp := rp) (v := a.v) ⟨0, { a.v with cnt := a.v.cnt + 1 }, a.t, gNone, false⟩ (.inr (by show 0 ≠ 2; omega)) rfl rfl rfl rfl (fun _ h => absurd (show a.v.hand < 0 from h) (by omega))) (Ent.cons ?_)
      refine Ent.trans (M := pt (some ⟨sa, 0, none⟩) (RSupO w S) :: pt (some ⟨rm, 0, none⟩) (RMemO _) :: _) (by exact ent) (Ent.cons (Ent.cons hback))
end
end Go.Proofs.YtflalhdofhobmaaGreat


namespace Go.Proofs.YtflalhdofhobmaaGreat
open Go
attribute [local irreducible] Sx Cx Rx Fx Krg Ksq Kbl Klp Kr
section
variable {L F G : St}
theorem refAlDoneStep {b sa rp slot : Nat} {gen : Int} {n : Nat} {a : AlS} {F1 : St} (hd : a.done = true) [t1 : Take L (some ⟨b, 0, none⟩) (RAlO sa rp slot gen n a) F1] :
  Fx Tryz.prog 38 [.pointer (some ⟨b, 0, none⟩)] L (fun v L' => v = .bool false ∧ L = L') := by
 refine Fx.kept (t := t1) ?_
 refine Fx.mk Tryz.func38 k38 (Nat.le_of_ble_eq_true rfl) ?_
 dsimp only [c38, envOf, Nat.reduceAdd]
 refine Cx.ent (Ent.of t1.out) ?_
 refine Cx.openp (a := some ⟨b, 0, none⟩) (RAlO.s_ (.inl hd)) ?_
 rintro ⟨tp, gp, dry⟩
 simp only [ralSL, List.cons_append, List.nil_append]
 refine Cx.liftp fun hdr => ?_
 rw [hd]
 refine go ?_
 exact Kr.one (.inr rfl) rfl (RAlO.closeS (rp := rp) (v := a.v) a (.inl hd) hd.symm rfl rfl rfl hdr) ⟨rfl, rfl⟩
structure AlStp (x : Cn) (s : Nat) (g : Int) (words : Nat) (r : Mm × SupS) (N : Nat) (r' : Mm × SupS) : Prop where
 run : AlRun x (x.al s g words) (alR r.1 r.2) N
 lt : N < 200
 em : (alIt (x.al s g words) N (alR r.1 r.2)).1 = r'.1
 es : (alIt (x.al s g words) N (alR r.1 r.2)).2.1 = r'.2
 ref : ∀ t, t < N → RefOk x.pool (alIt (x.al s g words) t (alR r.1 r.2)).2.2 ∧ (alIt (x.al s g words) t (alR r.1 r.2)).2.1.xs = [] ∧ (alIt (x.al s g words) t (alR r.1 r.2)).2.1.lm.size = 0 ∧ ((alIt (x.al s g words) t (alR r.1 r.2)).2.2.at_ = 2 → (alIt (x.al s g words) t (alR r.1 r.2)).2.2.t.is_ = false)
abbrev rhG (x : Cn) (n : Hn) (r r2 k c c2 : Nat) (Q : Nat → Who) (i : Nat) (S : SupS) (G : St) : St :=
 pt (some ⟨r, 0, none⟩) (Row 47 1 k c (ptrs k fun i => (Q i).u)) :: pt (some ⟨(Q i).u, 0, none⟩) (SupO n.mp (Q i).pb x S) :: pt (some ⟨(Q i).pb, 0, none⟩) (SkO n.mp x.pool) :: pt (some ⟨n.g, 0, none⟩) (GrO n.mp x) ::
 pt (some ⟨r2, 0, none⟩) (Row 81 1 k c2 (ptrs k fun i => (Q i).s)) :: pt (some ⟨(Q i).s, 0, none⟩) (RSupO n.w S) :: pt (some ⟨n.rp, 0, none⟩) (RSkO n.rm x.pool) :: G
set_option maxRecDepth 100000 in
set_option maxHeartbeats 8000000 in
theorem enRegion {x : Cn} {n : Hn} {e : He} {r r2 : Nat} {k c c2 : Nat} {Q : Nat → Who} {m : Mm} (i many words : Nat) (R : Nat → Mm × SupS) (N : Nat → Nat) (hi : i < k) (hk64 : k ≤ 64) (hmy : many ≤ 1000) (hw1 : 1 ≤ words) (hw2 : words ≤ x.wd) (hw8 : x.wd % 8 = 0) (hx : x.ok) (hl : m.ws.length = x.len) (hm : m.ok) {s : Nat} {l : List Int} (hp : Pool x.spare m ((s : Int) :: l))
  (hsl : s < x.sl) (hR0 : (R 0).1 = (crIt x.spare x.root 0 10 (CreS.init, m)).2) (hR : ∀ j, j < many → AlStp x s (laterT (rtOf (m.at_ (x.root + s))).gen : Nat) words (R j) (N j) (R (j + 1))) :
  Fx Tryz.prog 54 [.pointer (some ⟨n.a, 0, none⟩), .int .i64 i, .int .i64 many, .int .i64 words] (rhF x n e (some ⟨r, 0, none⟩) (some ⟨r2, 0, none⟩) k c c2 m (rhG x n r r2 k c c2 Q i (R 0).2 G))
   (fun v L' => v = .tuple #[.int .i64 s, .int .i64 (laterT (rtOf (m.at_ (x.root + s))).gen : Nat), .bool true] ∧ L' = rhF x n e (some ⟨r, 0, none⟩) (some ⟨r2, 0, none⟩) k c c2 (R many).1 (rhG x n r r2 k c c2 Q i (R many).2 G)) := by
 have hlen := hx.len_le
 have hk := hx.spare (n := m.ws.length) (by omega) (by omega)
 have hroot : x.root + x.sl = x.slot := by unfold Cn.root Cn.slot; omega
 obtain ⟨C, M, e10, hd, hcode, hslot, hat, hwas, _⟩ := cr_alone (k := x.spare) (ro := x.root) (cl := 0) (m := m) hk rfl hm hp (by show x.root + x.sl ≤ x.slot; omega) (by show 1 < x.root; unfold Cn.root; omega) (by omega)
 rw [Int.toNat_natCast] at hwas
 refine Fx.mk Tryz.func54 k54 (Nat.le_of_ble_eq_true rfl) ?_
 dsimp only [c54, envOf, Nat.reduceAdd]
 refine go ?_
 refine Cx.ordc rfl (by kernel_rfl) ?_
 refine ge ?_
 iterate 4 (refine Ev.bring 1 rfl ?_; refine ge ?_)
 refine Ev.caH (by kernel_rfl) rfl rfl (rootsCreate (g := n.ro) (mp := n.mp) (sb := n.sp) (x := x) 0 (by omega) hx) (.keep (fun v L' ⟨_, _, e⟩ => by subst e; exact Has.cell rfl) (.dep rfl .nil)) ?_
 rintro v L' ⟨b, rfl, rfl⟩
 refine ge ?_
 refine Ev.caH (by kernel_rfl) rfl rfl (refCreate (w := n.w) (rm := n.rm) (rp := n.rp) (rs := n.rs) (re := n.re) (x := x) 0 (by omega)) (Pres.deps (by kernel_rfl)) ?_
 rintro v L' ⟨bb, rfl, rfl⟩
 refine ge ?_
 refine go ?_
 refine Cx.lp (α := {j : Nat // j ≤ 10}) (fun j => [(0, .pointer (some ⟨n.a, 0, none⟩)), (1, .int .i64 (i : Nat)), (2, .int .i64 (many : Nat)), (3, .int .i64 (words : Nat)), (11, .pointer (some ⟨b, 0, none⟩)), (12, .pointer (some ⟨bb, 0, none⟩)), (13, .int .i64 j.1)])
  (fun j => pt (some ⟨b, 0, none⟩) (CreO n.ro n.sp x.spare 0 (crIt x.spare x.root 0 j.1 (CreS.init, m)).1) :: pt (some ⟨bb, 0, none⟩) (RCreO n.w n.rs 0 (crIt x.spare x.root 0 j.1 (CreS.init, m)).1) :: rhF x n e (some ⟨r, 0, none⟩) (some ⟨r2, 0, none⟩) k c c2 (crIt x.spare x.root 0 j.1 (CreS.init, m)).2 (rhG x n r r2 k c c2 Q i (R 0).2 G))
  (fun j => 10 - j.1) ⟨0, by omega⟩ (sub.cons rfl (sub.cons rfl (sub.cons rfl (sub.cons rfl (sub.cons rfl (sub.cons rfl (sub.cons rfl sub.nil))))))) ?_ ?_
 ·dsimp only [rhF, crIt]
  exact ent
 rintro ⟨j, hj⟩
 dsimp only [rhF]
 obtain ⟨k1, k2, k3, k4⟩ := crIt_ok (ro := x.root) (cl := 0) (m := m) hk hm (by omega) j (by omega)
 refine go ?_
 refine Cx.ifp rfl (fun h => ?_) (fun h => ?_)
 ·refine go ?_
  refine Sx.ca rfl (crStepC (b := b) (r := n.ro) (mp := n.mp) (sp := n.sp) (x := x) (m := (crIt x.spare x.root 0 j (CreS.init, m)).2) (cl := 0) (c := (crIt x.spare x.root 0 j (CreS.init, m)).1) hx (by omega) (by omega) k1) ?_
  rintro v L' ⟨rfl, rfl⟩
  refine go ?_
  refine Sx.ca rfl (refCrStep (b := bb) (w := n.w) (rm := n.rm) (rp := n.rp) (rs := n.rs) (re := n.re) (x := x) (m := (crIt x.spare x.root 0 j (CreS.init, m)).2) (cl := 0) (c := (crIt x.spare x.root 0 j (CreS.init, m)).1) hx (by omega) (by omega) k1) ?_
  rintro v L' ⟨rfl, rfl⟩
  refine go ?_
  rw [w64 (n := (j : Int) + 1) (by omega) (by omega)]
  refine Klp.nm ⟨j + 1, by omega⟩ (sub.cons rfl (sub.cons rfl (sub.cons rfl (sub.cons rfl (sub.cons rfl (sub.cons rfl (sub.cons rfl sub.nil))))))) ?_ (by dsimp only; omega)
  dsimp only [rhF, crIt]
  refine Ent.trans (Ent.take (a := some ⟨b, 0, none⟩)) (Ent.cons ?_)
  exact ent
 ·obtain rfl : j = 10 := by omega
  rw [e10]
  dsimp only
  refine go ?_
  refine Sx.ca rfl (crRegion (b := b) (r := n.ro) (sp := n.sp) (k := x.spare) (cl := 0) (c := C) hd hat hcode) ?_
  rintro v L' ⟨rfl, rfl⟩
  rw [hslot, hwas]
  refine go ?_
  refine Sx.ca rfl (crDone (b := b) (r := n.ro) (sp := n.sp) (k := x.spare) (cl := 0) (c := C) hd) ?_
  rintro v L' ⟨rfl, rfl⟩
  refine go ?_
  refine Sx.ca rfl (crCode (b := b) (r := n.ro) (sp := n.sp) (k := x.spare) (cl := 0) (c := C) hd) ?_
  rintro v L' ⟨rfl, rfl⟩
  rw [hcode]
  refine go ?_
  refine Sx.ent (Ent.take (a := some ⟨bb, 0, none⟩)) ?_
  refine Sx.openp (a := some ⟨bb, 0, none⟩) rfl ?_
  intro p
  have er : C.rslot = s := by unfold CreS.rslot; rw [if_neg (by omega), hslot]
  have eg : C.rgen = laterT (rtOf (m.at_ (x.root + s))).gen := by unfold CreS.rgen; rw [if_pos ⟨hd, hat⟩, hwas]
  simp only [rcrL, List.cons_append, List.nil_append, er, eg, hd, hcode]
  refine go ?_
  refine Sx.gyes rfl (by simp) ?_
  refine go ?_
  refine Cx.cno rfl (by simp) ?_
  refine go ?_
  obtain ⟨g, hg⟩ : ∃ g : Nat, laterT (rtOf (m.at_ (x.root + s))).gen = g := ⟨_, rfl⟩
  have hM : M = (R 0).1 := by rw [hR0, e10]
  rw [hg] at hR ⊢
  rw [hM]
  refine Cx.lp (α := {j : Nat // j ≤ many}) (fun j => [(0, .pointer (some ⟨n.a, 0, none⟩)), (1, .int .i64 (i : Nat)), (2, .int .i64 (many : Nat)), (3, .int .i64 (words : Nat)), (14, .int .i64 (s : Nat)), (15, .int .i64 (g : Nat)), (16, .int .i64 (j.1 : Nat))])
   (fun j => rhF x n e (some ⟨r, 0, none⟩) (some ⟨r2, 0, none⟩) k c c2 (R j.1).1 (rhG x n r r2 k c c2 Q i (R j.1).2 G)) (fun j => many - j.1) ⟨0, Nat.zero_le _⟩ (sub.cons rfl (sub.cons rfl (sub.cons rfl (sub.cons rfl (sub.cons rfl (sub.cons rfl (sub.cons rfl sub.nil))))))) ?_ ?_
  ·dsimp only [rhF, rhG]
   exact entm
  rintro ⟨j, hj⟩
  dsimp only [rhF, rhG]
  refine go ?_
  refine Cx.ifp rfl (fun h => ?_) (fun h => ?_)
  ·obtain ⟨hrun, hN2, hn1, hn2, href⟩ := hR j (by omega)
   obtain ⟨hgood, hnd, hdn⟩ := hrun
   refine go ?_
   refine Cx.ordc rfl (by kernel_rfl) ?_
   refine ge ?_
   refine Ev.ldrH (b := r) (v := .pointer (some ⟨(Q i).u, 0, none⟩)) (by kernel_rfl) rfl rfl (by rw [show 0 + (i : Int).toNat * 1 = i by omega]; exact ptrs_get (U := fun i => (Q i).u) hi) ?_
   refine ge ?_
   refine Ev.caH (by kernel_rfl) rfl rfl (grantAlloc (g := n.g) (u := (Q i).u) (mp := n.mp) (pb := (Q i).pb) (x := x) s g words hsl hw1 hw2) (Pres.deps (by kernel_rfl)) ?_
   rintro v L' ⟨b, rfl, rfl⟩
   refine ge ?_
   refine gg ?_
   refine Sx.ldr (b := r2) rfl (v := .pointer (some ⟨(Q i).s, 0, none⟩)) (by rw [show 0 + (i : Int).toNat * 1 = i by omega]; exact ptrs_get (U := fun i => (Q i).s) hi) ?_
   refine go ?_
   refine Sx.ca rfl (refSupAlloc (sa := (Q i).s) (rp := n.rp) s g words) ?_
   rintro v L' ⟨bb, rfl, rfl⟩
   refine go ?_
   refine Cx.lp (α := {t : Nat // t ≤ N j}) (fun t => [(0, .pointer (some ⟨n.a, 0, none⟩)), (1, .int .i64 (i : Nat)), (2, .int .i64 (many : Nat)), (3, .int .i64 (words : Nat)), (14, .int .i64 (s : Nat)), (15, .int .i64 (g : Nat)), (16, .int .i64 (j : Nat)), (17, .pointer (some ⟨b, 0, none⟩)), (19, .pointer (some ⟨bb, 0, none⟩)), (20, .int .i64 (t.1 : Nat))])
    (fun t => pt (some ⟨b, 0, none⟩) (AlO n.g (Q i).u (Q i).pb x s g words (alIt (x.al s g words) t.1 (alR (R j).1 (R j).2)).2.2) :: pt (some ⟨bb, 0, none⟩) (RAlO (Q i).s n.rp s g words (alIt (x.al s g words) t.1 (alR (R j).1 (R j).2)).2.2) :: rhF x n e (some ⟨r, 0, none⟩) (some ⟨r2, 0, none⟩) k c c2 (alIt (x.al s g words) t.1 (alR (R j).1 (R j).2)).1 (rhG x n r r2 k c c2 Q i (alIt (x.al s g words) t.1 (alR (R j).1 (R j).2)).2.1 G))
    (fun t => N j - t.1) ⟨0, Nat.zero_le _⟩ (sub.cons rfl (sub.cons rfl (sub.cons rfl (sub.cons rfl (sub.cons rfl (sub.cons rfl (sub.cons rfl (sub.cons rfl (sub.cons rfl (sub.cons rfl sub.nil)))))))))) ?_ ?_
   ·dsimp only [rhF, rhG, alIt, alR]
    refine Ent.trans (Ent.take (a := some ⟨b, 0, none⟩)) (Ent.cons ?_)
    refine Ent.trans (Ent.take (a := some ⟨bb, 0, none⟩)) (Ent.cons ?_)
    exact entm
   rintro ⟨t, ht⟩
   dsimp only [rhF, rhG]
   obtain ⟨g1, g2, g3, g4, g5, g6, g7⟩ := hgood t ht
   repeat' (first|refine Zo0 rfl ?_|refine Zo1 ?_|refine Zo2 ?_|refine Zo3 ?_|refine Zo4 ?_|refine Zo5 ?_|refine Zo6 ?_|refine Zo7 ?_|refine Zo8 rfl ?_|refine Zo9 rfl ?_|refine Zoa ?_|refine Zob ?_|refine Zoc ?_|refine Zod ?_|refine Zoe ?_|refine Zof ?_|refine Zog ?_|refine Zoh ?_|refine Zom rfl (by rfl) ?_|refine Zon rfl rfl ?_|refine Zoo rfl rfl rfl rfl (by rfl) (by rfl) ?_|refine Zop rfl trivial ?_|refine Zoq rfl rfl rfl ?_)
   rw [decide_eq_true (show (t : Int) < 200 by omega)]
   refine go ?_
   by_cases htn : t = N j
   ·subst htn
    have ee : alStep (x.al s g words) (alIt (x.al s g words) (N j) (alR (R j).1 (R j).2)).1 (alIt (x.al s g words) (N j) (alR (R j).1 (R j).2)).2.1 (alIt (x.al s g words) (N j) (alR (R j).1 (R j).2)).2.2 = (alIt (x.al s g words) (N j) (alR (R j).1 (R j).2)) := by
     unfold alStep; rw [if_pos hdn]
    refine Sx.ca rfl (refAlDoneStep (b := bb) (sa := (Q i).s) (rp := n.rp) (slot := s) (gen := g) (n := words) (a := (alIt (x.al s g words) (N j) (alR (R j).1 (R j).2)).2.2) hdn) ?_
    rintro v L' ⟨rfl, rfl⟩
    refine go ?_
    refine Sx.ca rfl (alDone (b := b) (g := n.g) (u := (Q i).u) (pb := (Q i).pb) (x := x) (slot := s) (gen := g) (n := words) (s := (alIt (x.al s g words) (N j) (alR (R j).1 (R j).2)).2.2) hdn) ?_
    rintro v L' ⟨rfl, rfl⟩
    refine go ?_
    refine Sx.ent (Ent.take (a := some ⟨bb, 0, none⟩)) ?_
    refine Sx.openp (a := some ⟨bb, 0, none⟩) (RAlO.s_ (.inl hdn)) ?_
    rintro ⟨tp, gp, dry⟩
    simp only [ralSL, List.cons_append, List.nil_append]
    refine Sx.liftp fun hdr => ?_
    rw [hdn]
    refine go ?_
    rw [w64 (n := (j : Int) + 1) (by omega) (by omega)]
    refine Klp.nm ⟨j + 1, by omega⟩ (sub.cons rfl (sub.cons rfl (sub.cons rfl (sub.cons rfl (sub.cons rfl (sub.cons rfl (sub.cons rfl sub.nil))))))) ?_ (by dsimp only; omega)
    rw [hn1, hn2]
    dsimp only [rhF, rhG]
    exact entm
   ·obtain ⟨f1, f2, f3, f4⟩ := href t (by omega)
    refine Sx.ca rfl (refAlStep (b := bb) (sa := (Q i).s) (w := n.w) (rm := n.rm) (rp := n.rp) (rs := n.rs) (re := n.re) (slot := s) (gen := g) (n := words) (x := x) (S := (alIt (x.al s g words) t (alR (R j).1 (R j).2)).2.1) (m := (alIt (x.al s g words) t (alR (R j).1 (R j).2)).1) (a := (alIt (x.al s g words) t (alR (R j).1 (R j).2)).2.2) hx (by omega) hsl hw1 hw2 hw8 g3 (by omega) g5 g6 g7 (fun _ => f1) f2 f3 (fun _ => f4)) ?_
    rintro v L' ⟨rfl, rfl⟩
    rw [hnd t (by omega)]
    refine go ?_
    refine Sx.ca rfl (alStepC (b := b) (g := n.g) (u := (Q i).u) (mp := n.mp) (pb := (Q i).pb) (x := x) (slot := s) (gen := g) (n := words) (S := (alIt (x.al s g words) t (alR (R j).1 (R j).2)).2.1) (m := (alIt (x.al s g words) t (alR (R j).1 (R j).2)).1) (a := (alIt (x.al s g words) t (alR (R j).1 (R j).2)).2.2) hx (by omega) hsl hw1 hw2 hw8 g3 (by omega) g5 g6 g7) ?_
    rintro v L' ⟨rfl, rfl⟩
    refine go ?_
    rw [w64 (n := (t : Int) + 1) (by omega) (by omega)]
    refine Klp.nm ⟨t + 1, by omega⟩ (sub.cons rfl (sub.cons rfl (sub.cons rfl (sub.cons rfl (sub.cons rfl (sub.cons rfl (sub.cons rfl (sub.cons rfl (sub.cons rfl (sub.cons rfl sub.nil)))))))))) ?_ (by dsimp only; omega)
    dsimp only [rhF, rhG, alIt]
    refine Ent.trans (Ent.take (a := some ⟨b, 0, none⟩)) (Ent.cons ?_)
    refine Ent.trans (Ent.take (a := some ⟨bb, 0, none⟩)) (Ent.cons ?_)
    exact entm
  ·obtain rfl : j = many := by omega
   refine go ?_
   refine Kr.three (.inr rfl) rfl rfl rfl (Ent.refl _) ⟨rfl, rfl⟩
end
end Go.Proofs.YtflalhdofhobmaaGreat


namespace Go.Proofs.YtflalhdofhobmaaGreat
structure WI (x : Cn) (sl : List Int) (j : Nat) (m : Mm) : Prop where
 len : m.ws.length = x.len
 ok : m.ok
 pool : Pool x.pool m ((iotaI x.c).drop j)
 root : rtOf (m.at_ (x.root + 0)) = ⟨1, j + 1, 0, if j = 0 then 0 else x.wd⟩
 link : ∀ i, i < j → m.at_ (x.link + i) = i
 spare : Pool x.spare m sl
theorem iota_drop {c j : Nat} (h : j < c) : (iotaI c).drop j = (j : Int) :: (iotaI c).drop (j + 1) := by
 rw [List.drop_eq_getElem_cons (by simp [iotaI]; exact h)]
 simp [iotaI]
theorem WI.step {x : Cn} {sl : List Int} {j : Nat} {m : Mm} {S : SupS} (h : WI x sl j m) (hx : x.ok) (hw8 : x.wd % 8 = 0) (hw16 : x.wd ≤ 16) (hba : x.ba = 1) (hj : j < x.c) (hm0 : 0 ≤ S.most) (hm2 : S.most ≤ 64) (hxs : S.xs = []) (hlm : S.lm.size = 0) :
  AlStp x 0 1 x.wd (m, S) (x.wd + 6) ((alIt (x.al 0 1 x.wd) (x.wd + 6) (alR m S)).1, S) ∧ WI x sl (j + 1) (alIt (x.al 0 1 x.wd) (x.wd + 6) (alR m S)).1 := by
 obtain ⟨b1, b2, b3, b4, b5, b6, b7⟩ := show MayC (x.w : Int) x.c x.wd x.sl x.ca x.ba from hx
 have g1 : x.root + x.sl = x.slot := by unfold Cn.root Cn.slot; omega
 have g2 : x.slot + x.sl = x.link := by unfold Cn.slot Cn.link; omega
 have g3 : x.link + x.c = x.word := by unfold Cn.link Cn.word; omega
 have g4 : 3 ≤ x.root := by unfold Cn.root; omega
 have hxl : S.xs.length = 0 := by rw [hxs]; rfl
 have hp := h.pool
 rw [iota_drop hj] at hp
 have hr := h.root
 have hrk : (rtOf (m.at_ (x.root + 0))).ok := by
  rw [hr]
  refine ⟨by show 1 < 4294967296; omega, by show j + 1 ≤ 4097; omega, by show 0 ≤ 3; omega, ?_⟩
  show (if j = 0 then 0 else x.wd) ≤ 1024
  split <;> omega
 have hneed : roundS (rtOf (m.at_ (x.root + 0))).cl x.wd = x.wd := by rw [hr]; unfold roundS; simp
 obtain ⟨M, t, e, hrun, e1, e2, e3, e4, e5, e6, _, _, _, _, _, _, href, hlk⟩ := al_new (x := x) (slot := 0) (gen := 1) (n := x.wd) (m := m) (S := S) hx h.len h.ok (by omega) hrk (by omega) hm0 hm2 hba hxs hlm hw8 (by omega) (Nat.le_refl _)
  (by rw [hr]; exact ⟨by show 1 ≤ j + 1; omega, rfl⟩) x.wd hneed (by intro hh; have := hh.2.1; omega) j _ hp
 rw [e]
 refine ⟨⟨hrun, by omega, by dsimp only; rw [e], by dsimp only; rw [e], fun t ht => ?_⟩, ⟨e1, e2, e3, ?_, fun i hi => ?_, ?_⟩⟩
 ·obtain ⟨f1, f2⟩ := href t ht
  dsimp only
  exact ⟨f1, by rw [f2]; exact hxs, by rw [f2]; exact hlm, f1.ti⟩
 ·have haf : afterS x.wd x.wd = x.wd := by unfold afterS; rw [if_pos (by omega)]
  have hR : Rt.ok ⟨1, 2 + j, 0, x.wd⟩ := ⟨by show 1 < 4294967296; omega, by show 2 + j ≤ 4097; omega, by show 0 ≤ 3; omega, by show x.wd ≤ 1024; omega⟩
  rw [e4, hr, haf]
  dsimp only
  rw [rtOf_w hR, if_neg (by omega), show 2 + j = j + 1 + 1 by omega]
 ·by_cases hij : i = j
  ·subst hij
   rw [hlk, hr]
   unfold Rt.chunk
   dsimp only
   split <;> omega
  ·rw [e5 _ (by omega) (by omega) (by omega) (by omega)]
   exact h.link i (by omega)
 ·refine ⟨?_, h.spare.nd⟩
  rw [e5 _ (by show 1 ≠ 0; omega) (by show 1 ≠ x.link + j; omega) (by show 1 ≠ x.root + 0; omega) (by show ¬ (_ ≤ 1 ∧ _); omega)]
  refine h.spare.c.congr fun z hz => ?_
  have hz2 := h.spare.c.mem z hz
  have hz3 : z < x.sl := hz2.2
  refine e5 _ ?_ ?_ ?_ ?_
  ·show x.slot + z.toNat ≠ 0; omega
  ·show x.slot + z.toNat ≠ x.link + j; omega
  ·show x.slot + z.toNat ≠ x.root + 0; omega
  ·show ¬ (_ ≤ x.slot + z.toNat ∧ _); omega
noncomputable def WR (x : Cn) (M : Mm) (S : SupS) : Nat → Mm × SupS
 | 0 => (M, S)
 | j + 1 => ((alIt (x.al 0 1 x.wd) (x.wd + 6) (alR (WR x M S j).1 S)).1, S)
theorem WR_snd (x : Cn) (M : Mm) (S : SupS) : ∀ j, (WR x M S j).2 = S
 | 0 => rfl
 | _ + 1 => rfl
theorem WR_spec {x : Cn} {sl : List Int} {M : Mm} {S : SupS} (h : WI x sl 0 M) (hx : x.ok) (hw8 : x.wd % 8 = 0) (hw16 : x.wd ≤ 16) (hba : x.ba = 1) (hm0 : 0 ≤ S.most) (hm2 : S.most ≤ 64) (hxs : S.xs = []) (hlm : S.lm.size = 0) :
  ∀ j, j ≤ x.c → WI x sl j (WR x M S j).1 ∧ (∀ i, i < j → AlStp x 0 1 x.wd (WR x M S i) (x.wd + 6) (WR x M S (i + 1)))
 | 0, _ => ⟨h, fun i hi => by omega⟩
 | j + 1, hj => by
   obtain ⟨i1, i2⟩ := WR_spec h hx hw8 hw16 hba hm0 hm2 hxs hlm j (by omega)
   obtain ⟨s1, s2⟩ := i1.step (S := S) hx hw8 hw16 hba (by omega) hm0 hm2 hxs hlm
   refine ⟨s2, fun i hi => ?_⟩
   by_cases hij : i = j
   ·subst hij
    have e : WR x M S i = ((WR x M S i).1, S) := Prod.ext rfl (WR_snd x M S i)
    rw [e]
    exact s1
   ·exact i2 i (by omega)
theorem WI.lay {x : Cn} {sl : List Int} {j : Nat} {m : Mm} {v : Nat} (h : WI x sl j m) (hx : x.ok) (hv : v < 18446744073709551616) (hj : j ≤ x.c) : WI x sl j (m.lay 2 v) := by
 obtain ⟨b1, b2, b3, b4, b5, b6, b7⟩ := show MayC (x.w : Int) x.c x.wd x.sl x.ca x.ba from hx
 have g1 : x.root + x.sl = x.slot := by unfold Cn.root Cn.slot; omega
 have g2 : x.slot + x.sl = x.link := by unfold Cn.slot Cn.link; omega
 have g3 : x.link + x.c ≤ x.len := by unfold Cn.link Cn.len; omega
 have g4 : 3 ≤ x.root := by unfold Cn.root; omega
 have hat : ∀ a, a ≠ 2 → (m.lay 2 v).at_ a = m.at_ a := fun a ha => by
  rw [Mm.at_lay a (by rw [h.len]; omega), if_neg (fun e => ha e.symm)]
 refine ⟨by rw [Mm.len_lay]; exact h.len, Mm.ok_lay h.ok hv, ⟨?_, h.pool.nd⟩, by rw [hat _ (by omega)]; exact h.root, fun i hi => by rw [hat _ (by omega)]; exact h.link i hi, ⟨?_, h.spare.nd⟩⟩
 ·rw [hat _ (by show 0 ≠ 2; omega)]
  refine h.pool.c.congr fun z hz => ?_
  exact hat _ (by show x.link + z.toNat ≠ 2; omega)
 ·rw [hat _ (by show 1 ≠ 2; omega)]
  refine h.spare.c.congr fun z hz => ?_
  exact hat _ (by show x.slot + z.toNat ≠ 2; omega)
def chD (k i : Nat) : List Int := (List.range (i + 1)).map fun t => ((k - 1 - t : Nat) : Int)
theorem chD_len (k i : Nat) : (chD k i).length = i + 1 := by simp [chD]
theorem chD_succ (k i : Nat) : chD k (i + 1) = chD k i ++ [((k - 1 - (i + 1) : Nat) : Int)] := by simp [chD, List.range_succ]
theorem chD_last (k i : Nat) : lastI (chD k i) = ((k - 1 - i : Nat) : Int) := by
 unfold lastI
 cases i with
 | zero => simp [chD]
 | succ i => rw [chD_succ]; simp
section
variable {x : Cn} {m : Mm} {S : SupS}
theorem walk_step {k i : Nat} (hk : k ≤ x.c) (hi : i < k) (hlink : ∀ i, i < k → m.at_ (x.link + i) = i) (n : Nat) :
  walkStep x.link x.c (m.add n) ⟨chD k i, false⟩ = (if i + 1 < k then ⟨chD k (i + 1), false⟩ else ⟨chD k i, true⟩, m.add (n + 1)) := by
 have hat : (m.add n).at_ (x.link + (k - 1 - i)) = k - 1 - i := hlink _ (by omega)
 unfold walkStep
 simp only [Bool.false_eq_true, if_false, chD_last, Int.toNat_natCast, hat, chD_len]
 have hb : behindN x.c (k - 1 - i) = ((k - 1 - i : Nat) : Int) - 1 := by unfold behindN; rw [if_neg (by omega)]
 rw [hb]
 by_cases h : i + 1 < k
 ·rw [if_pos h, if_pos ⟨by omega, by omega⟩, chD_succ]
  have : ((k - 1 - i : Nat) : Int) - 1 = ((k - 1 - (i + 1) : Nat) : Int) := by omega
  rw [this]
  rfl
 ·rw [if_neg h, if_neg (fun hh => by have := hh.1; omega)]
  rfl
theorem fr_walk {slot : Nat} {gen : Int} {k : Nat} {v : FrV} {e : EndS} (hl : m.ws.length = x.len) (hm : m.ok) (hk0 : 1 ≤ k) (hk : k ≤ x.c) (hc : x.c ≤ 4096) (hv : v.cnt ≤ 1000) (hs : S.xs.length + S.lm.size ≤ 1000) (hm0 : 0 ≤ S.most) (hm2 : S.most ≤ 64) (hlink : ∀ i, i < k → m.at_ (x.link + i) = i) :
  (∀ t, t < k → frIt (x.fr slot gen) t (m, S, ⟨2, v, e, ⟨[((k - 1 : Nat) : Int)], false⟩, gNone, gNone, false⟩) = (m.add t, S, ⟨2, { v with cnt := v.cnt + t }, e, ⟨chD k t, false⟩, gNone, gNone, false⟩)) ∧
   frIt (x.fr slot gen) k (m, S, ⟨2, v, e, ⟨[((k - 1 : Nat) : Int)], false⟩, gNone, gNone, false⟩) = (m.add k, supRet S v.tag (chD k (k - 1)), frLeave (x.fr slot gen) { v with cnt := v.cnt + k } e ⟨chD k (k - 1), true⟩) ∧
   (∀ t, t < k → FrGood x slot (frIt (x.fr slot gen) t (m, S, ⟨2, v, e, ⟨[((k - 1 : Nat) : Int)], false⟩, gNone, gNone, false⟩)) ∧ (frIt (x.fr slot gen) t (m, S, ⟨2, v, e, ⟨[((k - 1 : Nat) : Int)], false⟩, gNone, gNone, false⟩)).2.2.done = false) := by
 have key : ∀ t, t < k → frIt (x.fr slot gen) t (m, S, ⟨2, v, e, ⟨[((k - 1 : Nat) : Int)], false⟩, gNone, gNone, false⟩) = (m.add t, S, ⟨2, { v with cnt := v.cnt + t }, e, ⟨chD k t, false⟩, gNone, gNone, false⟩) := by
  intro t
  induction t with
  | zero => exact fun _ => rfl
  | succ t ih =>
    intro ht
    show frStep (x.fr slot gen) (frIt (x.fr slot gen) t _).1 (frIt (x.fr slot gen) t _).2.1 (frIt (x.fr slot gen) t _).2.2 = _
    rw [ih (by omega)]
    have hw := walk_step (x := x) (m := m) (k := k) (i := t) hk (by omega) hlink t
    rw [if_pos ht] at hw
    unfold frStep
    simp only [Bool.false_eq_true, if_false, hw]
    rfl
 refine ⟨key, ?_, fun t ht => ?_⟩
 ·obtain ⟨j, rfl⟩ : ∃ j, k = j + 1 := ⟨k - 1, by omega⟩
  show frStep (x.fr slot gen) (frIt (x.fr slot gen) j _).1 (frIt (x.fr slot gen) j _).2.1 (frIt (x.fr slot gen) j _).2.2 = _
  rw [key j (by omega)]
  have hw := walk_step (x := x) (m := m) (k := j + 1) (i := j) hk (by omega) hlink j
  rw [if_neg (by omega)] at hw
  unfold frStep
  simp only [Bool.false_eq_true, if_false, hw, if_true]
  rfl
 ·rw [key t ht]
  exact ⟨⟨hl, hm, hs, hm0, hm2, fun _ => ⟨by show 2 ≤ 4; omega, by show v.cnt + t ≤ 1000000; omega, (fun h => by cases h), (fun h => by cases h), (fun h => by cases h)⟩⟩, rfl⟩
theorem supRet_nil {ca : Int} {tag : Int} {ys : List Int} (ht : 0 ≤ tag) (ht2 : tag ≤ 4611686018427387903) (hy : ys ≠ []) : supRet (SupS.nil ca) tag ys = ⟨(SupS.nil ca).most, [], retireM Lm.nil tag ys⟩ := by
 have hout : outM Lm.nil tag = [] := by
  unfold outM
  have h0 : ∀ k, Lm.nil.items k = [] := fun k => by unfold Lm.items Lm.nil; split <;> rfl
  rw [h0, ite_self]
 unfold supRet
 rw [if_neg (by
  intro h
  rcases h with h | h | h | h
  ·exact hy h
  ·omega
  ·omega
  ·have h' : tag < 0 := h
   omega)]
 show (⟨(SupS.nil ca).most, [] ++ outM Lm.nil tag, retireM Lm.nil tag ys⟩ : SupS) = _
 rw [hout, List.append_nil]
theorem retired {tag : Int} {ys : List Int} (ht : 0 ≤ tag) (hy : ys ≠ []) : (retireM Lm.nil tag ys).size = ys.length ∧ (retireM Lm.nil tag ys).items (bucketOf tag) = ys ∧ (retireM Lm.nil tag ys).tag (bucketOf tag) = tag ∧
  (∀ by_ : Int, 0 ≤ by_ → 2 ≤ tag → (readyAll (tag + by_) (retireM Lm.nil tag ys)).1.length = if 2 ≤ by_ then ys.length else 0) := by
 have hlt : bucketOf tag < 3 := Nat.mod_lt _ (by omega)
 have h0 : ∀ k, Lm.nil.items k = [] := fun k => by unfold Lm.items Lm.nil; split <;> rfl
 have e : retireM Lm.nil tag ys = { Lm.nil.put (bucketOf tag) tag ys with last := tag } := by unfold retireM; rw [h0, ite_self, List.nil_append]
 have hpos := List.length_pos_iff.2 hy
 rw [e]
 have key : ∀ by_ : Int, 0 ≤ by_ → 2 ≤ tag → (opened (tag + by_) { Lm.nil.put (bucketOf tag) tag ys with last := tag }).length = if 2 ≤ by_ then ys.length else 0 := by
  intro by_ hb h2
  have o0 : ∀ n, openM n 0 [] = false := fun n => by simp [openM]
  by_cases h : 2 ≤ by_
  ·have o1 : openM (tag + by_) tag ys = true := by simp [openM]; omega
   rw [if_pos h]
   rcases (show bucketOf tag = 0 ∨ bucketOf tag = 1 ∨ bucketOf tag = 2 by omega) with hk | hk | hk <;> rw [hk] <;> simp [opened, Lm.open_, Lm.tag, Lm.items, Lm.put, Lm.nil, o0, o1]
  ·have o1 : openM (tag + by_) tag ys = false := by simp [openM]; omega
   rw [if_neg h]
   rcases (show bucketOf tag = 0 ∨ bucketOf tag = 1 ∨ bucketOf tag = 2 by omega) with hk | hk | hk <;> rw [hk] <;> simp [opened, Lm.open_, Lm.tag, Lm.items, Lm.put, Lm.nil, o0, o1]
 refine ⟨?_, ?_, ?_, fun by_ hb h2 => ?_⟩
 ·rcases (show bucketOf tag = 0 ∨ bucketOf tag = 1 ∨ bucketOf tag = 2 by omega) with hk | hk | hk <;> rw [hk] <;> simp [Lm.size, Lm.put, Lm.nil]
 ·rcases (show bucketOf tag = 0 ∨ bucketOf tag = 1 ∨ bucketOf tag = 2 by omega) with hk | hk | hk <;> rw [hk] <;> rfl
 ·rcases (show bucketOf tag = 0 ∨ bucketOf tag = 1 ∨ bucketOf tag = 2 by omega) with hk | hk | hk <;> rw [hk] <;> rfl
 ·rw [(readyAll_spec (by omega)).2.length_eq]
  exact key by_ hb h2
theorem fr_chain {k tag : Nat} {pl l : List Int} {off : Nat} {ca : Int} (hx : x.ok) (hl : m.ws.length = x.len) (hm : m.ok) (hroot : rtOf (m.at_ (x.root + 0)) = ⟨1, k + 1, 0, off⟩) (hlink : ∀ i, i < k → m.at_ (x.link + i) = i) (hk0 : 1 ≤ k) (hk : k ≤ x.c) (hk8 : k ≤ 8) (hp : Pool x.spare m l) (hn : ((0 : Nat) : Int) ∉ l) (hpl : Pool x.pool m pl) (htag : m.at_ 2 = tag) (ht : tag ≤ 100) :
  ∃ M A, frIt (x.fr 0 1) (6 + k) (m, SupS.nil ca, FrS.init) = (M, ⟨(SupS.nil ca).most, [], retireM Lm.nil tag (chD k (k - 1))⟩, A) ∧ FrRun x (x.fr 0 1) (m, SupS.nil ca, FrS.init) (6 + k) ∧ A.done = true ∧ A.at_ = 4 ∧ A.g.done = true ∧ A.v.code = 0 ∧ A.v.slot = -1 ∧ M.ws.length = x.len ∧ M.ok ∧
   rtOf (M.at_ (x.root + 0)) = ⟨1, 0, 0, 0⟩ ∧ Pool x.pool M pl := by
 obtain ⟨b1, b2, b3, b4, b5, b6, b7⟩ := show MayC (x.w : Int) x.c x.wd x.sl x.ca x.ba from hx
 have g1 : x.root + x.sl = x.slot := by unfold Cn.root Cn.slot; omega
 have g2 : x.slot + x.sl = x.link := by unfold Cn.slot Cn.link; omega
 have g3 : x.link + x.c ≤ x.len := by unfold Cn.link Cn.len; omega
 have g4 : 3 ≤ x.root := by unfold Cn.root; omega
 have hmost : (SupS.nil ca).most = min (max ca 0) 64 := rfl
 have hnl : (SupS.nil ca).xs.length + (SupS.nil ca).lm.size ≤ 1000 := by show 0 + 0 ≤ 1000; omega
 have hch : (rtOf (m.at_ (x.root + 0))).chunk = ((k - 1 : Nat) : Int) := by rw [hroot]; unfold Rt.chunk; dsimp only; rw [if_neg (by omega)]; omega
 obtain ⟨e2, hg2⟩ := fr_end2 (x := x) (slot := 0) (gen := 1) (m := m) (S := SupS.nil ca) hl hm hnl (by omega) (by omega) (by rw [hroot]; exact ⟨by show 1 ≤ k + 1; omega, rfl⟩) (by rw [hroot]; show k + 1 ≤ x.c + 1; omega) (by omega)
 have hgn : (rtOf (m.at_ (x.root + 0))).gen = 1 := by rw [hroot]
 rw [hgn, hch] at e2
 have hR : Rt.ok ⟨1, 0, 0, 0⟩ := ⟨by show 1 < 4294967296; omega, by show 0 ≤ 4097; omega, by show 0 ≤ 3; omega, by show 0 ≤ 1024; omega⟩
 have hput : ∀ a, (m.tick.put (x.root + 0) (Rt.w ⟨1, 0, 0, 0⟩)).at_ a = if x.root + 0 = a then Rt.w ⟨1, 0, 0, 0⟩ else m.at_ a := fun a => Mm.at_put a (by show _ < m.ws.length; omega)
 obtain ⟨m2, hm2e⟩ : ∃ m2, m.tick.put (x.root + 0) (Rt.w ⟨1, 0, 0, 0⟩) = m2 := ⟨_, rfl⟩
 have hml2 : m2.ws.length = x.len := by rw [← hm2e, Mm.len_put]; exact hl
 have hmo2 : m2.ok := by rw [← hm2e]; exact Mm.ok_put (Mm.ok_tick hm) (Rt.w_lt hR)
 rw [hm2e] at hput e2
 obtain ⟨E2, hE2⟩ : ∃ E2 : EndS, (⟨1, 2, m.at_ (x.root + 0), 0, ((k - 1 : Nat) : Int), 2, true⟩ : EndS) = E2 := ⟨_, rfl⟩
 have he : frEnded (x.fr 0 1) ⟨2, 0, -1, -1, 0, 0, 0⟩ ⟨1, 2, m.at_ (x.root + 0), 0, ((k - 1 : Nat) : Int), 2, true⟩ = ⟨1, ⟨2, 0, ((k - 1 : Nat) : Int), ((0 : Nat) : Int), 2, 0, 0⟩, E2, WalkS.zero, gNone, gNone, false⟩ := by
  unfold frEnded
  dsimp only
  rw [if_neg (by omega), if_pos (by omega), hE2]
 rw [he] at e2
 have hc2 : cutE (m2.at_ 2) = (tag : Int) := by rw [hput, if_neg (by omega), htag]; unfold cutE; omega
 have e3 : frIt (x.fr 0 1) 1 (m2, SupS.nil ca, ⟨1, ⟨2, 0, ((k - 1 : Nat) : Int), ((0 : Nat) : Int), 2, 0, 0⟩, E2, WalkS.zero, gNone, gNone, false⟩) = (m2.tick, SupS.nil ca, ⟨2, ⟨3, tag, ((k - 1 : Nat) : Int), ((0 : Nat) : Int), 2, 0, 0⟩, E2, ⟨[((k - 1 : Nat) : Int)], false⟩, gNone, gNone, false⟩) := by
  show frStep (x.fr 0 1) m2 (SupS.nil ca) ⟨1, ⟨2, 0, ((k - 1 : Nat) : Int), ((0 : Nat) : Int), 2, 0, 0⟩, E2, WalkS.zero, gNone, gNone, false⟩ = _
  unfold frStep
  simp only [Bool.false_eq_true, if_false]
  rw [hc2]
 have hlink2 : ∀ i, i < k → m2.tick.at_ (x.link + i) = i := fun i hi => by
  show m2.at_ _ = _
  rw [hput, if_neg (by omega)]; exact hlink i hi
 obtain ⟨_, e4, hg4⟩ := fr_walk (x := x) (m := m2.tick) (S := SupS.nil ca) (slot := 0) (gen := 1) (k := k) (v := ⟨3, tag, ((k - 1 : Nat) : Int), ((0 : Nat) : Int), 2, 0, 0⟩) (e := E2) hml2 hmo2 hk0 hk (by omega) (by show 3 ≤ 1000; omega) hnl (by omega) (by omega) hlink2
 have hcn : chD k (k - 1) ≠ [] := fun h => by have := congrArg List.length h; rw [chD_len] at this; simp at this
 have hcl : (chD k (k - 1)).length = k := by rw [chD_len]; omega
 dsimp only at e4
 rw [supRet_nil (by omega) (by omega) hcn] at e4
 obtain ⟨hz, _⟩ := retired (tag := (tag : Int)) (ys := chD k (k - 1)) (by omega) hcn
 have hp2 : Pool x.spare (m2.tick.add k) l := by
  refine ⟨?_, hp.nd⟩
  show ChainL x.spare _ (x.spare.top (m2.at_ 1)) l
  rw [hput, if_neg (by omega)]
  refine hp.c.congr fun z hz => ?_
  have hz3 := hp.c.mem z hz
  show m2.at_ (x.slot + z.toNat) = _
  rw [hput, if_neg (by omega)]
  rfl
 obtain ⟨M, pp, e5, hr5, c1, c2, c3, c4⟩ := fr_push (x := x) (slot := 0) (gen := 1) (m := m2.tick.add k) (S := ⟨(SupS.nil ca).most, [], retireM Lm.nil tag (chD k (k - 1))⟩) (v := ⟨3 + k, tag, ((k - 1 : Nat) : Int), ((0 : Nat) : Int), 2, 0, 0⟩) (e := E2) (w := ⟨chD k (k - 1), true⟩) hx hml2 hmo2 (by omega) hp2 hn (by show 3 + k ≤ 1000; omega) (by show 0 + (retireM Lm.nil tag (chD k (k - 1))).size ≤ 1000; omega) (by show 0 ≤ (SupS.nil ca).most; omega) (by show (SupS.nil ca).most ≤ 64; omega) (by show ((0 : Nat) : Int) ≤ (SupS.nil ca).most; omega)
 have r1 := FrRun.append e4 hg4 hr5
 have hg3 : ∀ j, j < 1 → FrGood x 0 (frIt (x.fr 0 1) j (m2, SupS.nil ca, ⟨1, ⟨2, 0, ((k - 1 : Nat) : Int), ((0 : Nat) : Int), 2, 0, 0⟩, E2, WalkS.zero, gNone, gNone, false⟩)) ∧ (frIt (x.fr 0 1) j (m2, SupS.nil ca, ⟨1, ⟨2, 0, ((k - 1 : Nat) : Int), ((0 : Nat) : Int), 2, 0, 0⟩, E2, WalkS.zero, gNone, gNone, false⟩)).2.2.done = false := by
  intro j hj
  obtain rfl : j = 0 := by omega
  exact ⟨⟨hml2, hmo2, hnl, by show 0 ≤ (SupS.nil ca).most; omega, by show (SupS.nil ca).most ≤ 64; omega, fun _ => ⟨by show 1 ≤ 4; omega, by show 2 ≤ 1000000; omega, (fun h => by cases h), (fun h => by cases h), fun _ => ⟨by show 0 ≤ ((k - 1 : Nat) : Int); omega, by show ((k - 1 : Nat) : Int) < x.c; omega⟩⟩⟩, rfl⟩
 have r2 := FrRun.append e3 hg3 r1
 have r3 := FrRun.append e2 hg2 r2
 rw [← e4, frIt_add] at e5
 rw [← e3, frIt_add] at e5
 rw [← e2, frIt_add] at e5
 have hN : 2 + (1 + (k + 3)) = 6 + k := by omega
 rw [hN] at r3 e5
 refine ⟨M, _, e5, r3, rfl, rfl, rfl, rfl, rfl, c1, c2, ?_, ⟨?_, hpl.nd⟩⟩
 ·rw [c4 _ (by omega) (by omega)]
  show rtOf (m2.at_ _) = _
  rw [hput, if_pos rfl, rtOf_w hR]
 ·rw [c4 _ (by show 0 ≠ 1; omega) (by show 0 ≠ x.slot + 0; omega)]
  show ChainL x.pool M (x.pool.top (m2.at_ 0)) pl
  rw [hput, if_neg (by omega)]
  refine hpl.c.congr fun z hz => ?_
  have hz3 := hpl.c.mem z hz
  have hz4 : z < x.c := hz3.2
  rw [c4 _ (by show x.link + z.toNat ≠ 1; omega) (by show x.link + z.toNat ≠ x.slot + 0; omega)]
  show m2.at_ (x.link + z.toNat) = _
  rw [hput, if_neg (by omega)]
  rfl
end
end Go.Proofs.YtflalhdofhobmaaGreat


namespace Go.Proofs.YtflalhdofhobmaaGreat
open Go
attribute [local irreducible] Sx Cx Rx Fx Krg Ksq Kbl Klp Kr
section
variable {L F G : St}
end
end Go.Proofs.YtflalhdofhobmaaGreat


namespace Go.Proofs.YtflalhdofhobmaaGreat
open Go
attribute [local irreducible] Sx Cx Rx Fx Krg Ksq Kbl Klp Kr
theorem ints_getD {xs : List Int} {i : Nat} {x : Int} (h : xs[i]? = some x) : (ints xs)[i]? = some (.int .i64 x) := by simp [ints, h]
section
variable {L F : St}
theorem Rd.atD {a : Option Addr} {n i : Nat} {vs : List Value} {v : Value} (h : Rd L 1 a n vs) (hv : vs[i]? = some v) : ∃ b o, a = some ⟨b, o, none⟩ ∧ Has L b (o + i) [v] := by
 obtain ⟨h1, h0 | ⟨b, o, rfl, h2⟩⟩ := h
 ·have := (List.getElem?_eq_some_iff.1 hv).1; omega
 ·exact ⟨b, o, rfl, h2.at_ hv⟩
theorem seqN {q : Nat} {xs : List Int} {a : Option Addr} {n c i : Nat} {m : Int} {F : St} [t : Take L (some ⟨q, 0, none⟩) (Blk 125 [.slice a n c, .int .i64 i]) F]
  (hr : Rd L 1 a n (ints xs)) (hi : i ≤ 1000000000) (hm : 0 < m) (hm2 : m ≤ 4611686018427387904) :
  Fx Tryz.prog 68 [.pointer (some ⟨q, 0, none⟩), .int .i64 m] L (fun v L' => v = .int .i64 (xs.getD i 0 % m) ∧ L' = pt (some ⟨q, 0, none⟩) (Blk 125 [.slice a n c, .int .i64 ((i + 1 : Nat) : Int)]) :: F) := by
 have hn : n = xs.length := by have := hr.1; simp [ints] at this; omega
 refine Fx.mk Tryz.func68 k68 (Nat.le_of_ble_eq_true rfl) ?_
 dsimp only [c68, envOf, Nat.reduceAdd]
 refine go ?_
 refine Cx.calm (by kernel_rfl) ?_
 repeat' (first | (refine Cm.pvs rfl ?_) | (refine Cm.step rfl ?_) | (refine Cm.done ?_) | (refine Cm.ldb rfl rfl (by rfl) ?_) | (refine Cm.ldbs rfl rfl rfl ?_))
 refine Cx.jn (β := Unit) (fun _ => [(0, .pointer (some ⟨q, 0, none⟩)), (1, .int .i64 m), (5, .int .i64 (xs.getD i 0))]) (fun _ => L) ?_ ?_
 ·refine Cx.ifp rfl (fun h => ?_) (fun h => ?_)
  ·have hlt : i < xs.length := by omega
   have hg : (ints xs)[i]? = some (.int .i64 (xs.getD i 0)) := ints_getD (by simp [hlt])
   obtain ⟨b, o, rfl, hh⟩ := hr.atD hg
   refine Cx.calmK Kjn.mono (by kernel_rfl) ?_
   repeat' (first | (refine Cm.pvs rfl ?_) | (refine Cm.step rfl ?_) | (refine Cm.done ?_) | (refine Cm.ldb rfl rfl (by rfl) ?_) | (refine Cm.ldbs rfl rfl rfl ?_))
   refine Cm.pv rfl rfl ⟨by omega, by omega⟩ ?_
   refine Cm.ld rfl rfl (by simpa using hh) rfl ?_
   repeat' (first | (refine Cm.pvs rfl ?_) | (refine Cm.step rfl ?_) | (refine Cm.done ?_) | (refine Cm.ldb rfl rfl (by rfl) ?_) | (refine Cm.ldbs rfl rfl rfl ?_))
   exact Cm.nil (Kjn.nm () (sub.cons rfl (sub.cons rfl (sub.cons rfl sub.nil))) (Ent.refl _))
  ·refine go ?_
   refine Kjn.nm () (sub.cons rfl (sub.cons rfl (sub.cons ?_ sub.nil))) (Ent.refl _)
   rw [show xs.getD i 0 = 0 by rw [List.getD_eq_getElem?_getD, List.getElem?_eq_none (by omega)]; rfl]
   rfl
 ·rintro ⟨⟩
  refine go ?_
  rw [w64 (by omega) (by omega)]
  refine Sx.ca rfl (number _ m hm hm2) ?_
  rintro v L' ⟨rfl, rfl⟩
  refine go ?_
  exact Kr.one (.inr rfl) rfl (Ent.refl _) ⟨rfl, by simp⟩
def SmallC (w c wd sl ca ba : Int) : Prop := (1 ≤ w ∧ w ≤ 4) ∧ (1 ≤ c ∧ c ≤ 8) ∧ (wd = 8 ∨ wd = 16) ∧ (1 ≤ sl ∧ sl ≤ 4) ∧ (0 ≤ ca ∧ ca ≤ 3) ∧ (1 ≤ ba ∧ ba ≤ 3)
theorem config_ (n : Int) : Fx Tryz.prog 13 [.int .i64 n] L (fun v L' => (∃ w c wd sl ca ba, v = cfg w c wd sl ca ba ∧ SmallC w c wd sl ca ba) ∧ L = L') := by
 refine Fx.mk Tryz.func13 k13 (Nat.le_of_ble_eq_true rfl) ?_
 dsimp only [c13, envOf, Nat.reduceAdd]
 refine go ?_
 refine Sx.al fun g => ?_
 refine go ?_
 refine Sx.ca rfl (number n 4 (by omega) (by omega)) ?_
 rintro v L' ⟨rfl, rfl⟩
 refine go ?_
 refine Sx.pv rfl (by decide) ?_
 refine Sx.ca rfl (number _ 8 (by omega) (by omega)) ?_
 rintro v L' ⟨rfl, rfl⟩
 refine go ?_
 refine Sx.pv rfl (by decide) ?_
 refine Sx.ca rfl (number _ 2 (by omega) (by omega)) ?_
 rintro v L' ⟨rfl, rfl⟩
 refine go ?_
 refine Sx.pv rfl (by decide) ?_
 refine Sx.ca rfl (number _ 4 (by omega) (by omega)) ?_
 rintro v L' ⟨rfl, rfl⟩
 refine go ?_
 refine Sx.pv rfl (by decide) ?_
 refine Sx.ca rfl (number _ 4 (by omega) (by omega)) ?_
 rintro v L' ⟨rfl, rfl⟩
 refine go ?_
 refine Sx.pv rfl (by decide) ?_
 refine Sx.ca rfl (number _ 3 (by omega) (by omega)) ?_
 rintro v L' ⟨rfl, rfl⟩
 refine go ?_
 generalize n % 4 = x0
 generalize IntKind.i64.wrap (n.tdiv 4) % 8 = x1
 generalize IntKind.i64.wrap (n.tdiv 32) % 2 = x2
 generalize IntKind.i64.wrap (n.tdiv 64) % 4 = x3
 generalize IntKind.i64.wrap (n.tdiv 256) % 4 = x4
 generalize IntKind.i64.wrap (n.tdiv 1024) % 3 = x5
 refine Sx.bs (sz := 1) rfl rfl fun r => ?_
 refine go ?_
 refine Sx.bx rfl rfl fun q => ?_
 refine go ?_
 refine Sx.ca rfl (seqN (q := q) (xs := [x0, x1, x2, x3, x4, x5]) (i := 0) (Rd.row (b := r) (E := 3) (cap := 6) rfl) (by omega) (by omega) (by omega)) ?_
 rintro v L' ⟨rfl, rfl⟩
 refine go ?_
 refine Sx.ca rfl (seqN (q := q) (xs := [x0, x1, x2, x3, x4, x5]) (i := 1) (Rd.row (b := r) (E := 3) (cap := 6) rfl) (by omega) (by omega) (by omega)) ?_
 rintro v L' ⟨rfl, rfl⟩
 refine go ?_
 refine Sx.ca rfl (seqN (q := q) (xs := [x0, x1, x2, x3, x4, x5]) (i := 2) (Rd.row (b := r) (E := 3) (cap := 6) rfl) (by omega) (by omega) (by omega)) ?_
 rintro v L' ⟨rfl, rfl⟩
 refine go ?_
 refine Sx.ca rfl (seqN (q := q) (xs := [x0, x1, x2, x3, x4, x5]) (i := 3) (Rd.row (b := r) (E := 3) (cap := 6) rfl) (by omega) (by omega) (by omega)) ?_
 rintro v L' ⟨rfl, rfl⟩
 refine go ?_
 refine Sx.ca rfl (seqN (q := q) (xs := [x0, x1, x2, x3, x4, x5]) (i := 4) (Rd.row (b := r) (E := 3) (cap := 6) rfl) (by omega) (by omega) (by omega)) ?_
 rintro v L' ⟨rfl, rfl⟩
 refine go ?_
 refine Sx.ca rfl (seqN (q := q) (xs := [x0, x1, x2, x3, x4, x5]) (i := 5) (Rd.row (b := r) (E := 3) (cap := 6) rfl) (by omega) (by omega) (by omega)) ?_
 rintro v L' ⟨rfl, rfl⟩
 refine go ?_
 refine Sx.st (b := g) rfl rfl rfl rfl rfl rfl ?_
 dsimp only [lay]
 refine go ?_
 refine Kr_cell (b := g) (.inr rfl) rfl rfl (L' := L) ?_ ⟨⟨_, _, _, _, _, _, rfl, ?_⟩, rfl⟩
 ·exact ent
 ·have h0 := Int.emod_nonneg x0 (show (4 : Int) ≠ 0 by omega)
  have h0' := Int.emod_lt_of_pos x0 (show (0 : Int) < 4 by omega)
  have h1 := Int.emod_nonneg x1 (show (8 : Int) ≠ 0 by omega)
  have h1' := Int.emod_lt_of_pos x1 (show (0 : Int) < 8 by omega)
  have h2 := Int.emod_nonneg x2 (show (2 : Int) ≠ 0 by omega)
  have h2' := Int.emod_lt_of_pos x2 (show (0 : Int) < 2 by omega)
  have h3 := Int.emod_nonneg x3 (show (4 : Int) ≠ 0 by omega)
  have h3' := Int.emod_lt_of_pos x3 (show (0 : Int) < 4 by omega)
  have h4 := Int.emod_nonneg x4 (show (4 : Int) ≠ 0 by omega)
  have h4' := Int.emod_lt_of_pos x4 (show (0 : Int) < 4 by omega)
  have h5 := Int.emod_nonneg x5 (show (3 : Int) ≠ 0 by omega)
  have h5' := Int.emod_lt_of_pos x5 (show (0 : Int) < 3 by omega)
  simp only [List.getD_cons_zero, List.getD_cons_succ]
  rw [w64 (n := 1 + x0 % 4) (by omega) (by omega), w64 (n := 1 + x1 % 8) (by omega) (by omega), w64 (n := 8 * (x2 % 2)) (by omega) (by omega), w64 (n := 8 + 8 * (x2 % 2)) (by omega) (by omega), w64 (n := 1 + x3 % 4) (by omega) (by omega), w64 (n := 1 + x5 % 3) (by omega) (by omega)]
  unfold SmallC
  omega
end
end Go.Proofs.YtflalhdofhobmaaGreat


namespace Go.Proofs.YtflalhdofhobmaaGreat
open Go
attribute [local irreducible] Sx Cx Rx Fx Krg Ksq Kbl Klp Kr
theorem TakeR.perm {ba : Int} {s s' : SupS} {l l' : List Int} {ch : Int} {is_ : Bool} {N : Nat} (h1 : 1 ≤ ba) (h : TakeR ba s l ch is_ N s' l') (hn : s.xs ++ l ≠ []) : is_ = true ∧ (s.xs ++ l).Perm (ch :: (s'.xs ++ l')) := by
 rcases h with ⟨hx, rfl, rfl, _, rfl, rfl⟩ | ⟨hx, hl, c, hc, rfl, rfl, _, rfl, rfl⟩ | ⟨hx, hl, _⟩
 ·refine ⟨rfl, ?_⟩
  have e : s.xs = s.xs.dropLast ++ [lastI s.xs] := by
   unfold lastI
   rw [List.getLastD_eq_getLast?, List.getLast?_eq_some_getLast hx]
   exact (List.dropLast_concat_getLast hx).symm
  have : (s.xs.dropLast ++ [lastI s.xs] ++ l').Perm (lastI s.xs :: (s.xs.dropLast ++ l')) := by
   rw [List.append_assoc]
   exact List.perm_middle
  rw [← e] at this
  exact this
 ·refine ⟨rfl, ?_⟩
  obtain ⟨y, l2, rfl⟩ := List.exists_cons_of_ne_nil hl
  obtain ⟨c, rfl⟩ : ∃ d, c = d + 1 := ⟨c - 1, by simp at hc; omega⟩
  have : (s.give (List.take (c + 1) (y :: l2)).tail).xs ++ List.drop (c + 1) (y :: l2) = l2 := by
   simp [SupS.give, hx]
  rw [this, hx]
  exact List.Perm.refl _
 ·rw [hx, hl] at hn; exact absurd rfl hn
def AllP (x : Cn) (i : Nat) (s : SupS) (m : Mm) (l : List Int) (sn : List Bool) : Prop :=
 s.most = (SupS.nil x.ca).most ∧ s.lm = Lm.nil ∧ m.ws.length = x.len ∧ Pool x.pool m l ∧ (s.xs ++ l).Nodup ∧ (∀ y ∈ s.xs ++ l, 0 ≤ y ∧ y < (x.c : Int)) ∧ i + (s.xs ++ l).length = x.c ∧ sn.length = x.c ∧ (∀ y ∈ s.xs ++ l, sn[y.toNat]? = some false)
theorem AllP.step {x : Cn} {i : Nat} {s s' : SupS} {m m' : Mm} {l l' : List Int} {sn : List Bool} {ch : Int} {is_ : Bool} {N : Nat} (h1 : 1 ≤ (x.ba : Int)) (h8 : (x.ba : Int) ≤ 8) (h : AllP x i s m l sn) (hi : i < x.c) (ht : TakeR x.ba s l ch is_ N s' l')
  (hl : m'.ws.length = x.len) (hp : Pool x.pool m' l') : is_ = true ∧ (0 ≤ ch ∧ ch < (x.c : Int)) ∧ sn[ch.toNat]? = some false ∧ AllP x (i + 1) s' m' l' (sn.set ch.toNat true) := by
 obtain ⟨a1, a2, a3, a4, a5, a6, a7, a8, a9⟩ := h
 obtain ⟨hi1, hpm⟩ := ht.perm h1 (by intro e; rw [e] at a7; simp at a7; omega)
 obtain ⟨_, z2, z3⟩ := ht.size h8
 have hmem : ch ∈ s.xs ++ l := hpm.mem_iff.2 (by simp)
 have hnd := hpm.nodup_iff.1 a5
 rw [List.nodup_cons] at hnd
 have hsub : ∀ y ∈ s'.xs ++ l', y ∈ s.xs ++ l := fun y hy => hpm.mem_iff.2 (List.mem_cons_of_mem _ hy)
 have hlen := hpm.length_eq
 rw [List.length_cons] at hlen
 refine ⟨hi1, a6 _ hmem, a9 _ hmem, z3.trans a1, z2.trans a2, hl, hp, hnd.2, fun y hy => a6 y (hsub y hy), by omega, by rw [List.length_set]; exact a8, fun y hy => ?_⟩
 have h2 := a6 y (hsub y hy)
 have h3 := a6 _ hmem
 rw [List.getElem?_set_ne (fun e => hnd.1 (by rw [show ch = y by omega]; exact hy))]
 exact a9 y (hsub y hy)
theorem iotaI_len (n : Nat) : (iotaI n).length = n := by simp [iotaI]
section
variable {L F G : St}
end
end Go.Proofs.YtflalhdofhobmaaGreat


namespace Go.Proofs.YtflalhdofhobmaaGreat
open Go
attribute [local irreducible] Sx Cx Rx Fx Krg Ksq Kbl Klp Kr
section
variable {L F G : St}
theorem Cn.ok.w8 {x : Cn} (h : x.ok) : x.wd % 8 = 0 := by
 obtain ⟨_, _, _, b4, _⟩ := show MayC (x.w : Int) x.c x.wd x.sl x.ca x.ba from h
 rw [show (8 : Int) = ((8 : Nat) : Int) from rfl, natTmod] at b4
 omega
end
end Go.Proofs.YtflalhdofhobmaaGreat


namespace Go.Proofs.YtflalhdofhobmaaGreat
open Go
attribute [local irreducible] Sx Cx Rx Fx Krg Ksq Kbl Klp Kr
section
variable {L F G : St}
theorem rootsSpare {g mp sb : Nat} {x : Cn} {m : Mm} (hx : x.ok) (hl : x.len ≤ m.ws.length) (hl2 : m.ws.length ≤ 8388608) [t : Take L (some ⟨mp, 0, none⟩) (MemO m) F] [s : Take F (some ⟨sb, 0, none⟩) (SkO mp x.spare) G] {H : St} [c : Take L (some ⟨g, 0, none⟩) (RoO mp sb x) H] :
  Fx Tryz.prog 53 [.pointer (some ⟨g, 0, none⟩)] L (fun v L' => ∃ ro co, v = .slice ro (listK x.spare m).length co ∧ L' = pt ro (Row 3 1 (listK x.spare m).length co (ints (listK x.spare m))) :: L) := by
 refine Fx.mk Tryz.func53 k53 (Nat.le_of_ble_eq_true rfl) ?_
 dsimp only [c53, envOf, Nat.reduceAdd]
 refine go ?_
 refine Sx.ca rfl (stackList (sb := sb) (mp := mp) (k := x.spare) (m := m) (hx.spare (n := m.ws.length) hl hl2)) ?_
 rintro v L' ⟨ro, co, rfl, rfl⟩
 refine go ?_
 exact Kr.one (.inr rfl) rfl (Ent.refl _) ⟨ro, co, rfl, rfl⟩
theorem ehF_out {P : As} {x : Cn} {n : Hn} {e : He} {r r2 : Option Addr} {k c c2 : Nat} {Q : Nat → Who} {S S2 : Nat → SupS} {m m2 : Mm} : Ent (ehF x n e r r2 k c c2 Q S S2 m m2 (P :: G)) (P :: ehF x n e r r2 k c c2 Q S S2 m m2 G) := by
 dsimp only [ehF]
 iterate 18 (refine Ent.trans (Ent.cons ?_) Ent.swap)
 exact Ent.deep (N := many k _) (M := [P]) (G := G)
set_option maxHeartbeats 4000000 in
theorem enFirst : Fx Tryz.prog 45 [] L (fun v L' => v = .bool true ∧ L = L') := by
 refine Fx.mk Tryz.func45 k45 (Nat.le_of_ble_eq_true rfl) ?_
 dsimp only [c45, envOf, Nat.reduceAdd]
 have hx : (⟨1, 1, 8, 1, 0, 1⟩ : Cn).ok := by unfold Cn.ok MayC; decide
 obtain ⟨x, hxe⟩ : ∃ x, x = (⟨1, 1, 8, 1, 0, 1⟩ : Cn) := ⟨_, rfl⟩
 have hca : x.ca = 0 := by rw [hxe]
 have hsl : x.sl = 1 := by rw [hxe]
 rw [← hxe] at hx
 have hlen := hx.len_le
 obtain ⟨M, hM, hn, hml, hmo, hpo, hrt, hoth, hsp, hgen⟩ := region0 hx 0 (by omega)
 obtain ⟨hps, hio⟩ := region0s hx 0 (by omega)
 rw [hM] at hps
 have hnd := hsp.nd
 rw [List.nodup_cons] at hnd
 have hmost : (SupS.nil x.ca).most = 0 := by rw [hca]; rfl
 obtain ⟨M2, A, e5, hrun, a1, a2, a3, a4, a5, a6, _, c1, c2, c3, _⟩ := fr_bare (x := x) (slot := 0) (gen := 1) (m := M) (S := SupS.nil x.ca) hx hml hmo (by omega) hps hnd.1 (by show 0 + 0 ≤ 1000; omega) (by omega) (by omega) (by rw [hmost]; show ((0 : Nat) : Int) ≤ 0; omega) (by rw [hrt]; exact ⟨by show 1 ≤ 1; omega, rfl⟩) (by rw [hrt])
 refine go ?_
 refine Sx.ca (vs := [x.v]) (by rw [hxe]; rfl) (enMade hx) ?_
 rintro v L' ⟨n, e, r, r2, c, c2', Q, rfl, rfl⟩
 refine go ?_
 refine Sx.ent (M := rhF x n e (some ⟨r, 0, none⟩) (some ⟨r2, 0, none⟩) 3 c c2' (allM x) (pt (some ⟨r, 0, none⟩) (Row 47 1 3 c (ptrs 3 fun i => (Q i).u)) :: pt (some ⟨(Q 0).u, 0, none⟩) (SupO n.mp (Q 0).pb x (SupS.nil x.ca)) :: pt (some ⟨(Q 0).pb, 0, none⟩) (SkO n.mp x.pool) ::
   pt (some ⟨e.eo, 0, none⟩) (EnO n.mp e.ro e.ch) :: pt (some ⟨e.ro, 0, none⟩) (RoO n.mp e.sp x) :: pt (some ⟨e.sp, 0, none⟩) (SkO n.mp x.spare) :: pt (some ⟨e.ch, 0, none⟩) (ChO n.mp e.pb x) :: L)) ?_ ?_
 ·dsimp only [ehF, rhF]
  refine Ent.trans (Ent.ith 0 (by omega)) ?_
  simp only [whoL, List.cons_append, List.nil_append]
  exact entm
 refine Sx.ca rfl (enRegion0 (x := x) (n := n) (e := e) (m := allM x) (s := 0) (l := (iotaI x.sl).tail) 0 1 hx (allM_len x) (allM_ok hx) hsp) ?_
 rintro v L' ⟨rfl, rfl⟩
 rw [hM, hgen]
 refine go ?_
 have ga := enFrees (x := x) (n := n) (e := e) (r := r) (r2 := some ⟨r2, 0, none⟩) (k := 3) (c := c) (c2 := c2') (Q := Q) (i := 0) (S := SupS.nil x.ca) (m := M) (slot := 0) (gen := 1) (G := pt (some ⟨n.ro, 0, none⟩) (RoO n.mp n.sp x) :: pt (some ⟨n.sp, 0, none⟩) (SkO n.mp x.spare) :: L) 5 (by omega) (by omega) (by omega) hx (by omega) hrun
 rw [e5] at ga
 refine Sx.ent ?_ (Sx.ca rfl ga ?_)
 ·dsimp only [rhF, fgF]
  exact entm
 rintro v L' ⟨b, rfl, rfl⟩
 dsimp only [fgF]
 refine go ?_
 refine Sx.ca rfl (frDoneY (b := b) (h := frH n e Q 0) (x := x) (slot := 0) (gen := 1) (s := A) a1) ?_
 rintro v L' ⟨rfl, rfl⟩
 refine go ?_
 refine Sx.ca rfl (frCodeD (b := b) (h := frH n e Q 0) (x := x) (slot := 0) (gen := 1) (s := A) a1) ?_
 rintro v L' ⟨rfl, rfl⟩
 rw [a4]
 refine go ?_
 refine Sx.ca rfl (frPointD (b := b) (h := frH n e Q 0) (x := x) (slot := 0) (gen := 1) (s := A) a1) ?_
 rintro v L' ⟨rfl, rfl⟩
 rw [a5]
 refine go ?_
 refine Sx.ca rfl (frBackD (b := b) (h := frH n e Q 0) (x := x) (slot := 0) (gen := 1) (s := A) a1) ?_
 rintro v L' ⟨rfl, rfl⟩
 rw [a6]
 refine go ?_
 refine Sx.ca rfl (rootsSpare (g := n.ro) (mp := n.mp) (sb := n.sp) (x := x) (m := M2) hx (by omega) (by omega)) ?_
 rw [list_pool c3, ← hio, iotaI_len, hsl]
 rintro v L' ⟨ro, co, rfl, rfl⟩
 refine go ?_
 refine Kr.one (.inr rfl) rfl ?_ ⟨rfl, rfl⟩
 exact entm
end
end Go.Proofs.YtflalhdofhobmaaGreat


namespace Go.Proofs.YtflalhdofhobmaaGreat
open Go
attribute [local irreducible] Sx Cx Rx Fx Krg Ksq Kbl Klp Kr
section
variable {L F G : St}
end
end Go.Proofs.YtflalhdofhobmaaGreat


namespace Go.Proofs.YtflalhdofhobmaaGreat
structure GA (x : Cn) (cl : Nat) (m : Mm) (ch : Int) (off used : Nat) (l : List Int) : Prop where
 len : m.ws.length = x.len
 ok : m.ok
 pool : Pool x.pool m l
 cnt : l.length + used = x.c
 root : rtOf (m.at_ (x.root + 0)) = ⟨1, if ch = -1 then 1 else (ch + 2).toNat, cl, off⟩
 ch1 : -1 ≤ ch
 ch2 : ch < x.c
 out : ch ∉ l
 off1 : off ≤ x.wd
theorem GA.rok {x : Cn} {cl : Nat} {m : Mm} {ch : Int} {off used : Nat} {l : List Int} (h : GA x cl m ch off used l) (hcl : cl ≤ 3) (hc : x.c ≤ 4096) (hwd : x.wd ≤ 1024) : (rtOf (m.at_ (x.root + 0))).ok := by
 rw [h.root]
 have := h.ch1; have := h.ch2; have := h.off1
 refine ⟨by show 1 < 4294967296; omega, ?_, hcl, by show off ≤ 1024; omega⟩
 show (if ch = -1 then 1 else (ch + 2).toNat) ≤ 4097
 split <;> omega
theorem GA.first {x : Cn} {cl : Nat} {m : Mm} (hl : m.ws.length = x.len) (hm : m.ok) (hp : Pool x.pool m (iotaI x.c)) (hr : rtOf (m.at_ (x.root + 0)) = ⟨1, 1, cl, 0⟩) : GA x cl m (-1) 0 0 (iotaI x.c) := by
 refine ⟨hl, hm, hp, by simp [iotaI], by rw [hr]; rfl, by omega, by omega, fun h => ?_, by omega⟩
 have := hp.c.mem _ h
 omega
section
variable {x : Cn} {cl n : Nat} {m : Mm} {S : SupS} {ch : Int} {off used : Nat} {l : List Int}
theorem GA.none_ (h : GA x cl m ch off used l) (hx : x.ok) (hcl : cl ≤ 3) (hs : S.xs.length + S.lm.size ≤ 1000) (hm0 : 0 ≤ S.most) (hm2 : S.most ≤ 64) (hba : x.ba = 1) (hxs : S.xs = []) (hlm : S.lm.size = 0) (need : Nat) (hneed : roundS cl n = need) (hf : ¬ (0 ≤ ch ∧ fitsS x.wd off need)) (hu : used = x.c) :
  ∃ M A, alIt (x.al 0 1 n) 3 (alR m S) = (M, S, A) ∧ AlRun x (x.al 0 1 n) (alR m S) 3 ∧ A.done = true ∧ A.v.code = 6 ∧ A.v.obj = Hd.zero ∧ A.v.point = 3 ∧ GA x cl M ch off used l := by
 obtain ⟨b1, b2, b3, b4, b5, b6, b7⟩ := show MayC (x.w : Int) x.c x.wd x.sl x.ca x.ba from hx
 have hr := h.root
 have hrk := h.rok hcl (by omega) (by omega)
 have hc1 := h.ch1
 have hl : l = [] := List.eq_nil_of_length_eq_zero (by have := h.cnt; omega)
 have hmk : 1 ≤ (if ch = -1 then 1 else (ch + 2).toNat) := by split <;> omega
 have hmk2 : 2 ≤ (if ch = -1 then 1 else (ch + 2).toNat) → 0 ≤ ch := by split <;> omega
 obtain ⟨t, e, hrun⟩ := al_none (x := x) (slot := 0) (gen := 1) (n := n) (m := m) (S := S) hx h.len h.ok (by omega) hrk hs hm0 hm2 hba hxs hlm (by rw [hr]; exact ⟨hmk, rfl⟩) need (by rw [hr]; exact hneed) (by rw [hr]; exact fun hh => hf ⟨hmk2 hh.1, hh.2⟩) (by rw [← hl]; exact h.pool)
 exact ⟨_, _, e, hrun, rfl, rfl, rfl, rfl, ⟨h.len, h.ok, ⟨h.pool.c.congr fun _ _ => rfl, h.pool.nd⟩, h.cnt, h.root, h.ch1, h.ch2, h.out, h.off1⟩⟩
theorem GA.more (h : GA x cl m ch off used l) (hx : x.ok) (hcl : cl ≤ 3) (hw8 : x.wd % 8 = 0) (hn : 1 ≤ n) (hnw : n ≤ x.wd) (hs : S.xs.length + S.lm.size ≤ 1000) (hm0 : 0 ≤ S.most) (hm2 : S.most ≤ 64) (hba : x.ba = 1) (hxs : S.xs = []) (hlm : S.lm.size = 0) (need : Nat) (hneed : roundS cl n = need) (hf : ¬ (0 ≤ ch ∧ fitsS x.wd off need)) (hu : used ≠ x.c) :
  ∃ M A y l', alIt (x.al 0 1 n) (x.wd + 6) (alR m S) = (M, S, A) ∧ AlRun x (x.al 0 1 n) (alR m S) (x.wd + 6) ∧ A.done = true ∧ A.v.code = 0 ∧ A.v.obj = ⟨0, 1, y, 0, n⟩ ∧ A.v.point = x.wd + 6 ∧ y ≠ ch ∧ 0 ≤ y ∧ GA x cl M y (afterS x.wd need) (used + 1) l' := by
 obtain ⟨b1, b2, b3, b4, b5, b6, b7⟩ := show MayC (x.w : Int) x.c x.wd x.sl x.ca x.ba from hx
 have hr := h.root
 have hrk := h.rok hcl (by omega) (by omega)
 have hc1 := h.ch1
 have hcnt := h.cnt
 have hmk : 1 ≤ (if ch = -1 then 1 else (ch + 2).toNat) := by split <;> omega
 have hmk2 : 2 ≤ (if ch = -1 then 1 else (ch + 2).toNat) → 0 ≤ ch := by split <;> omega
 obtain ⟨z, l', rfl⟩ : ∃ z l', l = z :: l' := by
  cases l with
  | nil => simp at hcnt; omega
  | cons z l' => exact ⟨z, l', rfl⟩
 have hz := h.pool.c.mem z (by simp)
 obtain ⟨y, rfl⟩ : ∃ y : Nat, z = y := ⟨z.toNat, by omega⟩
 have hzc : (y : Int) < x.c := hz.2
 have hn2 : need ≤ x.wd := by rw [← hneed]; exact roundS_le hcl hnw hw8
 have haf := afterS_le hn2
 obtain ⟨M, t, e, hrun, e1, e2, e3, e4, _⟩ := al_new (x := x) (slot := 0) (gen := 1) (n := n) (m := m) (S := S) hx h.len h.ok (by omega) hrk hs hm0 hm2 hba hxs hlm hw8 hn hnw (by rw [hr]; exact ⟨hmk, rfl⟩) need (by rw [hr]; exact hneed) (by rw [hr]; exact fun hh => hf ⟨hmk2 hh.1, hh.2⟩) y l' h.pool
 rw [hr] at e4
 have hR : Rt.ok ⟨1, 2 + y, cl, afterS x.wd need⟩ := ⟨by show 1 < 4294967296; omega, by show 2 + y ≤ 4097; omega, hcl, by show afterS x.wd need ≤ 1024; omega⟩
 have hnd := h.pool.nd
 rw [List.nodup_cons] at hnd
 refine ⟨M, _, (y : Int), l', e, hrun, rfl, rfl, rfl, rfl, fun hh => h.out (by rw [← hh]; simp), by omega, ⟨e1, e2, e3, by simp at hcnt; omega, ?_, by omega, hzc, hnd.1, haf⟩⟩
 rw [e4, rtOf_w hR, if_neg (by omega)]
 congr 1
 omega
end
end Go.Proofs.YtflalhdofhobmaaGreat


namespace Go.Proofs.YtflalhdofhobmaaGreat
open Go Go.RowKit Go.ChangeShapes Go.WideShapes
def In (w : World) (sz : Nat) (v : Value) (n : Nat) (vs : List Value) : Prop :=
 vs.length = n * sz ∧ n ≤ maxLen ∧ ∃ a c, v = .slice a n c ∧ (n = 0 ∨ ∃ b o, a = some ⟨b, o, none⟩ ∧ ∀ j u, vs[j]? = some u → w.cell? ⟨b, o + j, none⟩ = some u)
theorem addr_add (b o i : Nat) : (⟨b, o, none⟩ : Addr).add i = ⟨b, o + i, none⟩ := by
 unfold Addr.add; split <;> simp_all
theorem In.rd {w : World} {sz n : Nat} {v : Value} {vs : List Value} (h : In w sz v n vs) : n ≤ maxLen ∧ ∃ a c, v = .slice a n c ∧ ∀ L : St, Ent L [Old w] → Rd L sz a n vs := by
 obtain ⟨h1, h2, a, c, rfl, h3⟩ := h
 refine ⟨h2, a, c, rfl, fun L hL => ⟨h1, h3.imp id ?_⟩⟩
 rintro ⟨b, o, rfl, hc⟩
 exact ⟨b, o, rfl, Has.old hL hc⟩
theorem flat_get {sz : Nat} (hp : 0 < sz) : ∀ (rows : List (List Value)) (h : ∀ r ∈ rows, r.length = sz) (j : Nat), rows.flatten[j]? = (rows[j / sz]?).bind (·[j % sz]?)
 | [], _, j => by simp
 | r :: l, h, j => by
   have hr : r.length = sz := h r (by simp)
   have ih := flat_get hp l (fun x hx => h x (by simp [hx]))
   by_cases hj : j < sz
   ·rw [List.flatten_cons, List.getElem?_append_left (by omega), Nat.div_eq_of_lt hj, Nat.mod_eq_of_lt hj]
    simp
   ·rw [List.flatten_cons, List.getElem?_append_right (by omega), hr, ih]
    obtain ⟨q, rfl⟩ : ∃ q, j = q + sz := ⟨j - sz, by omega⟩
    rw [Nat.add_sub_cancel, Nat.add_mod_right, Nat.add_div_right q hp]
    simp
theorem flat_length {sz : Nat} : ∀ (rows : List (List Value)) (h : ∀ r ∈ rows, r.length = sz), rows.flatten.length = rows.length * sz
 | [], _ => by simp
 | r :: l, h => by
   have hr : r.length = sz := h r (by simp)
   have ih := flat_length l (fun x hx => h x (by simp [hx]))
   rw [List.flatten_cons, List.length_append, ih, hr, List.length_cons, Nat.add_mul]; omega
section
variable {H : Type} {enc : TypeId × Value → H} {P : Program} {w : World} {base : Nat} {held : Bool}
theorem In.rows {t e : TypeId} {sz fuel : Nat} {v : Value} {x : DataW H × List MemPlace} (ht : P.underlying t = some (.slice e)) (hs : P.cellsOf e = sz) (hp : 0 < sz)
  (h : DataW.trod enc P w base (fun _ => true) held fuel t [v] = some x) :
  ∃ rows : List (List Value), In w sz v rows.length rows.flatten ∧ ∀ r ∈ rows, r.length = sz ∧ ∃ n y, DataW.trod enc P w base (fun _ => true) held n e r = some y := by
 rcases Deep.open_slice ht h with ⟨h0, _⟩ | ⟨a, len, cap, m, n, D, Pl, h0, hb, hl, hm, hmm, rfl, hx⟩
 ·simp only [List.cons.injEq, and_true] at h0
  subst h0
  exact ⟨[], ⟨by simp, by simp, none, 0, rfl, .inl rfl⟩, by simp⟩
 ·simp only [List.cons.injEq, and_true] at h0
  subst h0
  simp only [if_true] at hmm
  subst hmm
  rw [hs] at hx
  obtain ⟨V, hV⟩ := Deep.choose_lt (α := List Value) (p := fun i cs' => w.cells? base (a.add (i * sz)) sz = some cs' ∧ DataW.trod enc P w base (fun _ => true) held n e cs' = some (D i, Pl i)) hx
  have hlen : ∀ i, i < m → (V i).length = sz := fun i hi => (World.cells?_some (hV i hi).1).2.1
  refine ⟨(List.range len).map V, ⟨?_, ?_, some a, m, by simp, ?_⟩, ?_⟩
  ·rw [flat_length _ (by simp only [List.mem_map, List.mem_range]; rintro r ⟨i, hi, rfl⟩; exact hlen i (by omega))]
  ·simp; omega
  ·rcases Nat.eq_zero_or_pos len with h0 | h0
   ·left; simpa using h0
   ·right
    obtain ⟨b, o, spot⟩ := a
    have hc0 := (World.cells?_some (hV 0 (by omega)).1).2.2 0 hp
    rw [List.getElem?_eq_getElem (by rw [hlen 0 (by omega)]; exact hp)] at hc0
    have hspot : spot = none := by simpa [Addr.add] using World.cell?_spot hc0
    subst hspot
    refine ⟨b, o, rfl, fun j u hu => ?_⟩
    rw [flat_get hp _ (by simp only [List.mem_map, List.mem_range]; rintro r ⟨i, hi, rfl⟩; exact hlen i (by omega))] at hu
    obtain ⟨r, hr, hj⟩ := Option.bind_eq_some_iff.1 hu
    rw [List.getElem?_map] at hr
    obtain ⟨i, hi, rfl⟩ := Option.map_eq_some_iff.1 hr
    have hi' : j / sz < len := by have := (List.getElem?_eq_some_iff.1 hi).1; simpa using this
    have hij : i = j / sz := by simpa [hi'] using hi.symm
    subst hij
    have hc := (World.cells?_some (hV (j / sz) (by omega)).1).2.2 (j % sz) (Nat.mod_lt _ hp)
    rw [hj] at hc
    have he : o + j = o + j / sz * sz + j % sz := by have := Nat.div_add_mod j sz; rw [Nat.mul_comm] at this; omega
    rw [he]
    rwa [addr_add, addr_add] at hc
  ·simp only [List.mem_map, List.mem_range]
   rintro r ⟨i, hi, rfl⟩
   exact ⟨hlen i (by omega), n, _, (hV i (by omega)).2⟩
theorem In.ones {t e : TypeId} {fuel : Nat} {v : Value} {x : DataW H × List MemPlace} (ht : P.underlying t = some (.slice e)) (hs : P.cellsOf e = 1)
  (h : DataW.trod enc P w base (fun _ => true) held fuel t [v] = some x) :
  ∃ us : List Value, In w 1 v us.length us ∧ ∀ u ∈ us, ∃ n y, DataW.trod enc P w base (fun _ => true) held n e [u] = some y := by
 obtain ⟨rows, h1, h2⟩ := In.rows ht hs (by omega) h
 have key : ∀ rows : List (List Value), (∀ r ∈ rows, r.length = 1 ∧ ∃ n y, DataW.trod enc P w base (fun _ => true) held n e r = some y) → ∀ u ∈ rows.flatten, ∃ n y, DataW.trod enc P w base (fun _ => true) held n e [u] = some y := by
  intro rows h2 u hu
  obtain ⟨r, hr, hur⟩ := List.mem_flatten.1 hu
  obtain ⟨hl, n, y, hy⟩ := h2 r hr
  match r, hl with
  | [z], _ =>
    simp only [List.mem_singleton] at hur
    subst hur
    exact ⟨n, y, hy⟩
 refine ⟨rows.flatten, ?_, key rows h2⟩
 rw [flat_length rows (fun r hr => (h2 r hr).1), Nat.mul_one]
 exact h1
theorem In.ints {t e : TypeId} {k : IntKind} {fuel : Nat} {v : Value} {x : DataW H × List MemPlace} (ht : P.underlying t = some (.slice e)) (he : P.underlying e = some (.int k)) (hs : P.cellsOf e = 1)
  (h : DataW.trod enc P w base (fun _ => true) held fuel t [v] = some x) : ∃ xs : List Int, In w 1 v xs.length (xs.map (Value.int k)) ∧ ∀ x ∈ xs, (Lit.int k x).wf = true := by
 obtain ⟨us, h1, h2⟩ := In.ones ht hs h
 obtain ⟨xs, rfl, hx⟩ : ∃ xs : List Int, us = xs.map (Value.int k) ∧ ∀ x ∈ xs, (Lit.int k x).wf = true := by
  clear h1 h
  induction us with
  | nil => exact ⟨[], rfl, by simp⟩
  | cons u l ih =>
    obtain ⟨xs, rfl, hx⟩ := ih (fun z hz => h2 z (by simp [hz]))
    obtain ⟨n, y, hy⟩ := h2 u (by simp)
    obtain ⟨z, h3, _, h5⟩ := DataW.trod_int he hy
    simp only [List.cons.injEq, and_true] at h3
    subst h3
    refine ⟨z :: xs, rfl, ?_⟩
    simp only [List.mem_cons, forall_eq_or_imp]
    exact ⟨h5, hx⟩
 exact ⟨xs, by simpa using h1, hx⟩
end
end Go.Proofs.YtflalhdofhobmaaGreat


namespace Go.Proofs.YtflalhdofhobmaaGreat
open Go
attribute [local irreducible] Sx Cx Rx Fx Krg Ksq Kbl Klp Kr
section
variable {L F G : St}
theorem rootsRoot {g mp sb : Nat} {x : Cn} {m : Mm} {F1 : St} (n : Nat) (hn : n < x.sl) (hx : x.ok) (hm : m.ok) (hl : x.len ≤ m.ws.length) [t : Take L (some ⟨mp, 0, none⟩) (MemO m) F1] [c : Take L (some ⟨g, 0, none⟩) (RoO mp sb x) G] :
  Fx Tryz.prog 30 [.pointer (some ⟨g, 0, none⟩), .int .i64 n] L (fun v L' => v = rtV (rtOf (m.at_ (x.root + n))) ∧ L = L') := by
 have hsz : x.root + x.sl ≤ x.len := by unfold Cn.root Cn.len; omega
 refine Fx.mk Tryz.func30 k30 (Nat.le_of_ble_eq_true rfl) ?_
 dsimp only [c30, envOf, Nat.reduceAdd]
 refine Cx.sq ?_
 refine Cx.rg ?_
 refine Sx.al fun q => ?_
 refine go ?_
 refine Cx.ordc rfl (by kernel_rfl) ?_
 refine ge ?_
 refine Ev.cakH (by kernel_rfl) rfl rfl (layRootN hx n hn) ?_
 refine ge ?_
 refine Ev.cakH (by kernel_rfl) rfl rfl (cellsPeek (b := mp) (m := m) (x.root + n) (by omega)) ?_
 refine ge ?_
 refine Ev.cakH (by kernel_rfl) rfl rfl (getRoot (m.at_ (x.root + n)) (Mm.at_lt hm _)) ?_
 refine ge ?_
 refine Ev.stnH (b := q) (rtL (rtOf (m.at_ (x.root + n)))) (by kernel_rfl) rfl rfl rfl rfl rfl rfl rfl rfl (Pres.deps (by kernel_rfl)) ?_
 refine ge ?_
 refine go ?_
 exact Kr_cell (b := q) (.inr rfl) rfl rfl (L' := L) Ent.drop ⟨rfl, rfl⟩
end
end Go.Proofs.YtflalhdofhobmaaGreat


namespace Go.Proofs.YtflalhdofhobmaaGreat
def Off (r v : Nat) (m m2 : Mm) : Prop := m2.ws = m.ws.set r v
section
variable {r v : Nat} {m m2 : Mm}
theorem Off.len (h : Off r v m m2) : m2.ws.length = m.ws.length := by rw [show m2.ws = _ from h, List.length_set]
theorem Off.at_ (h : Off r v m m2) {a : Nat} (ha : r ≠ a) : m2.at_ a = m.at_ a := by
 unfold Mm.at_
 rw [show m2.ws = _ from h, List.getD_eq_getElem?_getD, List.getElem?_set_ne ha, ← List.getD_eq_getElem?_getD]
theorem Off.tick (h : Off r v m m2) : Off r v m.tick m2.tick := h
theorem Off.put (h : Off r v m m2) {i w : Nat} (hi : r ≠ i) : Off r v (m.put i w) (m2.put i w) := by
 show m2.ws.set i w = (m.ws.set i w).set r v
 rw [show m2.ws = _ from h, List.set_comm _ _ hi]
theorem Off.cas (h : Off r v m m2) {i o w : Nat} (hi : r ≠ i) : Off r v (m.cas i o w) (m2.cas i o w) := by
 unfold Mm.cas
 rw [h.at_ hi]
 split
 ·exact h.put hi
 ·exact h
theorem Off.ok (h : Off r v m m2) (hm : m.ok) (hv : v < 18446744073709551616) : m2.ok := fun w hw => by
 rw [show m2.ws = _ from h] at hw
 rcases List.mem_or_eq_of_mem_set hw with h | rfl
 ·exact hm w h
 ·exact hv
theorem Off.pool {k : Sk} {l : List Int} (h : Off r v m m2) (h0 : r ≠ k.head) (hl : ∀ z : Int, 0 ≤ z → z < k.n → r ≠ k.links + z.toNat) (hp : Pool k m l) : Pool k m2 l := by
 refine ⟨?_, hp.nd⟩
 rw [h.at_ h0]
 refine hp.c.congr fun z hz => ?_
 have := hp.c.mem z hz
 rw [h.at_ (hl z this.1 this.2)]
end
section
variable {x : Cn} {slot : Nat} {gen : Int} {n : Nat} {m : Mm} {S : SupS}
theorem AlRun.all {p : AlP} {r : Mm × SupS × AlS} {N : Nat} (h : AlRun x p r N) (j : Nat) : AlGood x p.slot (alIt p j r) := by
 by_cases hj : j ≤ N
 ·exact h.good j hj
 ·obtain ⟨i, rfl⟩ : ∃ i, j = N + i := ⟨j - N, by omega⟩
  rw [alIt_idle h.d]
  exact h.good N (Nat.le_refl _)
end
end Go.Proofs.YtflalhdofhobmaaGreat


namespace Go.Proofs.YtflalhdofhobmaaGreat
open Go
attribute [local irreducible] Sx Cx Rx Fx Krg Ksq Kbl Klp Kr
theorem small_cfg2 {w c wd sl ca ba : Int} (h : SmallC w c wd sl ca ba) : ∃ x : Cn, cfg w c wd sl ca ba = x.v ∧ x.ok ∧ x.ca ≤ 3 ∧ x.c ≤ 8 ∧ x.ba ≤ 3 ∧ x.w ≤ 4 ∧ x.wd ≤ 16 ∧ x.sl ≤ 4 := by
 unfold SmallC at h
 refine ⟨⟨w.toNat, c.toNat, wd.toNat, sl.toNat, ca.toNat, ba.toNat⟩, ?_, ?_, ?_⟩
 ·simp only [Cn.v]
  rw [Int.toNat_of_nonneg (by omega), Int.toNat_of_nonneg (by omega), Int.toNat_of_nonneg (by omega), Int.toNat_of_nonneg (by omega), Int.toNat_of_nonneg (by omega), Int.toNat_of_nonneg (by omega)]
 ·unfold Cn.ok MayC
  simp only
  rw [Int.toNat_of_nonneg (by omega), Int.toNat_of_nonneg (by omega), Int.toNat_of_nonneg (by omega), Int.toNat_of_nonneg (by omega), Int.toNat_of_nonneg (by omega), Int.toNat_of_nonneg (by omega)]
  rw [Int.tmod_eq_emod_of_nonneg (by omega)]
  omega
 ·simp only; omega
section
variable {L F G : St}
end
end Go.Proofs.YtflalhdofhobmaaGreat


namespace Go.Proofs.YtflalhdofhobmaaGreat
open Go
attribute [local irreducible] Sx Cx Rx Fx Krg Ksq Kbl Klp Kr
theorem waits_law {x : Cn} {sl : List Int} {k tag : Nat} {m : Mm} (hx : x.ok) (h : WI x sl k m) (hk : k ≤ x.c) (hk8 : x.c ≤ 8) (hn : ((0 : Nat) : Int) ∉ sl) (htag : m.at_ 2 = tag) (ht : tag ≤ 100) (ht2 : 2 ≤ tag) :
  ∃ M A S, frIt (x.fr 0 1) (if k = 0 then 5 else 6 + k) (m, SupS.nil x.ca, FrS.init) = (M, S, A) ∧ FrRun x (x.fr 0 1) (m, SupS.nil x.ca, FrS.init) (if k = 0 then 5 else 6 + k) ∧ A.done = true ∧ A.at_ = 4 ∧ A.g.done = true ∧ A.v.code = 0 ∧ A.v.slot = -1 ∧ M.ws.length = x.len ∧ M.ok ∧
   rtOf (M.at_ (x.root + 0)) = ⟨1, 0, 0, 0⟩ ∧ Pool x.pool M ((iotaI x.c).drop k) ∧ S.xs = [] ∧ S.lm.size = k ∧ (S.lm.items (tag % 3)).length = k ∧ (1 ≤ k → S.lm.tag (tag % 3) = tag) ∧ (∀ by_ : Int, 0 ≤ by_ → (readyAll ((tag : Int) + by_) S.lm).1.length = if 2 ≤ by_ then k else 0) := by
 have hnm : (SupS.nil x.ca).most = min (max (x.ca : Int) 0) 64 := rfl
 obtain ⟨b1, b2, b3, b4, b5, b6, b7⟩ := hx.b
 by_cases hk0 : k = 0
 ·subst hk0
  have hr := h.root
  obtain ⟨M, A, e5, hrun, a1, a2, a3, a4, a5, a6, a7, c1, c2, c3, c4, c5⟩ := fr_bare (x := x) (slot := 0) (gen := 1) (m := m) (S := SupS.nil x.ca) hx h.len h.ok (by omega) h.spare hn (by show 0 + 0 ≤ 1000; omega) (by omega) (by omega) (by show ((0 : Nat) : Int) ≤ (SupS.nil x.ca).most; omega) (by rw [hr]; exact ⟨by show 1 ≤ 0 + 1; omega, rfl⟩) (by rw [hr])
  have g1 : x.root + x.sl = x.slot := by unfold Cn.root Cn.slot; omega
  have g2 : x.slot + x.sl = x.link := by unfold Cn.slot Cn.link; omega
  have g4 : 3 ≤ x.root := by unfold Cn.root; omega
  have e0 : ∀ now, readyAll now Lm.nil = ([], Lm.nil) := fun now => by
   simp [readyAll, readyM, leastUp, Lm.open_, Lm.tag, Lm.items, Lm.put, Lm.nil, Lm.cnt, one, Lm.size, openM]
  refine ⟨M, A, _, e5, hrun, a1, a2, a3, a4, a7, c1, c2, by rw [c4, hr], ⟨?_, h.pool.nd⟩, rfl, rfl, ?_, fun h => by omega, fun by_ hb => ?_⟩
  ·rw [c5 _ (by show 0 ≠ 1; omega) (by show 0 ≠ x.slot + 0; omega) (by show 0 ≠ x.root + 0; omega)]
   refine h.pool.c.congr fun z hz => ?_
   exact c5 _ (by show x.link + z.toNat ≠ 1; omega) (by show x.link + z.toNat ≠ x.slot + 0; omega) (by show x.link + z.toNat ≠ x.root + 0; omega)
  ·show (Lm.nil.items (tag % 3)).length = 0
   unfold Lm.items Lm.nil
   split <;> rfl
  ·show (readyAll ((tag : Int) + by_) Lm.nil).1.length = _
   rw [e0]
   split <;> rfl
 ·have hr := h.root
  obtain ⟨M, A, e5, hrun, a1, a2, a3, a4, a5, c1, c2, c3, c4⟩ := fr_chain (x := x) (m := m) (k := k) (tag := tag) (ca := x.ca) hx h.len h.ok hr h.link (by omega) hk (by omega) h.spare hn h.pool htag ht
  have hcn : chD k (k - 1) ≠ [] := fun h => by have := congrArg List.length h; rw [chD_len] at this; simp at this
  have hcl : (chD k (k - 1)).length = k := by rw [chD_len]; omega
  obtain ⟨z1, z2, z3, z4⟩ := retired (tag := (tag : Int)) (ys := chD k (k - 1)) (by omega) hcn
  have hb : bucketOf (tag : Int) = tag % 3 := by unfold bucketOf; rw [Int.toNat_natCast]
  rw [hb] at z2 z3
  rw [if_neg hk0]
  exact ⟨M, A, _, e5, hrun, a1, a2, a3, a4, a5, c1, c2, c3, c4, rfl, by rw [z1, hcl], by rw [z2, hcl], fun _ => z3, fun by_ hb => by rw [z4 by_ hb (by omega), hcl]⟩
section
variable {L F G : St}
theorem supBucketC {u mp pb : Nat} {x : Cn} {s : SupS} {F : St} [t : Take L (some ⟨u, 0, none⟩) (SupO mp pb x s) F] (k : Nat) (hk : k < 3) (hb : s.lm.size ≤ 1000000000) : Fx Tryz.prog 57 [.pointer (some ⟨u, 0, none⟩), .int .i64 k] L (fun v L' =>
   ∃ (tg : Int) (ra : Option Addr) (co : Nat), v = .tuple #[.int .i64 tg, .slice ra (s.lm.items k).length co] ∧ (1 ≤ (s.lm.items k).length → tg = s.lm.tag k) ∧ Ent L' (pt (some ⟨u, 0, none⟩) (SupO mp pb x s) :: F)) := by
 refine (supBucket (u := u) (mp := mp) (pb := pb) (x := x) (s := s) (k : Int) hb).mono ?_
 rw [Int.toNat_natCast]
 rintro v L' (⟨h, rfl, rfl⟩ | ⟨h, ro, co, rfl, rfl⟩)
 ·have hi : s.lm.items k = [] := by
   rcases h with h | h | h
   ·omega
   ·omega
   ·exact h
  rw [hi]
  exact ⟨0, none, 0, rfl, fun h => absurd h (by simp), Ent.refl _⟩
 ·exact ⟨_, ro, co, rfl, fun _ => rfl, Ent.drop⟩
set_option maxRecDepth 100000 in
set_option maxHeartbeats 16000000 in
theorem endingWaits (n chunks later : Int) : Fx Tryz.prog 11 [.int .i64 n, .int .i64 chunks, .int .i64 later] L (fun v L' => v = .bool true ∧ Ent L' L) := by
 refine Fx.mk Tryz.func11 k11 (Nat.le_of_ble_eq_true rfl) ?_
 dsimp only [c11, envOf, Nat.reduceAdd]
 refine go ?_
 refine Sx.ca rfl enFirst ?_
 rintro v L' ⟨rfl, rfl⟩
 refine go ?_
 refine Sx.ca rfl (config_ n) ?_
 rintro v L' ⟨⟨w', c, wd, sl, ca, ba, rfl, hsm⟩, rfl⟩
 obtain ⟨x0, hxv, hx0, hca, hc8, hba, hw4, h16, _⟩ := small_cfg2 hsm
 rw [hxv]
 clear hxv hsm
 clear w' c wd sl ca ba
 refine Sx.al fun gb => ?_
 refine Sx.st (b := gb) rfl rfl rfl rfl rfl rfl ?_
 refine Sx.re [.int .i64 x0.w, .int .i64 x0.c, .int .i64 x0.wd, .int .i64 x0.sl, .int .i64 x0.ca, .int .i64 x0.ba] rfl ?_
 refine go ?_
 refine Sx.pv rfl (by omega) ?_
 refine Sx.ca rfl (number _ 4 (by omega) (by omega)) ?_
 rintro v L' ⟨rfl, rfl⟩
 obtain ⟨caI, hcaI⟩ : ∃ caI, IntKind.i64.wrap (Int.tdiv later 7) % 4 = caI := ⟨_, rfl⟩
 rw [hcaI]
 have hc1 := Int.emod_nonneg (IntKind.i64.wrap (Int.tdiv later 7)) (show (4 : Int) ≠ 0 by omega)
 have hc2 := Int.emod_lt_of_pos (IntKind.i64.wrap (Int.tdiv later 7)) (show (0 : Int) < 4 by omega)
 obtain ⟨can, hcan⟩ : ∃ can : Nat, caI = can := ⟨caI.toNat, by omega⟩
 rw [hcan]
 have hcan4 : can ≤ 3 := by omega
 obtain ⟨x, hxe⟩ : ∃ x : Cn, x = ⟨x0.w, x0.c, x0.wd, x0.sl, can, 1⟩ := ⟨_, rfl⟩
 have hx : x.ok := by
  obtain ⟨b1, b2, b3, b4, b5, b6, b7⟩ := show MayC (x0.w : Int) x0.c x0.wd x0.sl x0.ca x0.ba from hx0
  rw [hxe]
  exact ⟨b1, b2, b3, b4, b5, by show (0 : Int) ≤ (can : Int) ∧ (can : Int) ≤ 64; omega, by show (1 : Int) ≤ ((1 : Nat) : Int) ∧ ((1 : Nat) : Int) ≤ 8; omega⟩
 have exw : x0.w = x.w := by rw [hxe]
 have exc : x0.c = x.c := by rw [hxe]
 have exd : x0.wd = x.wd := by rw [hxe]
 have exs : x0.sl = x.sl := by rw [hxe]
 have exa : x.ca = can := by rw [hxe]
 have exb : x.ba = 1 := by rw [hxe]
 rw [exw, exc, exd, exs]
 have hv' : x.v = .agg #[.int .i64 x.w, .int .i64 x.c, .int .i64 x.wd, .int .i64 x.sl, .int .i64 (can : Nat), .int .i64 1] := by
  show cfg _ _ _ _ _ _ = _
  rw [exa, exb]; rfl
 have hx' := hx
 obtain ⟨b1, b2, b3, b4, b5, b6, b7⟩ := hx'.b
 have hlen := hx.len_le
 have hw8 := hx.w8
 refine go ?_
 refine Sx.ca (vs := [x.v]) (by rw [hv']; rfl) (enMade hx) ?_
 rintro v L' ⟨nn, e, r, r2, c, c2, Q, rfl, rfl⟩
 refine Sx.ent ehF_out ?_
 refine Sx.re [.int .i64 x.w, .int .i64 x.c, .int .i64 x.wd, .int .i64 x.sl, .int .i64 (can : Nat), .int .i64 1] rfl ?_
 dsimp only [ehF]
 have hw16 : x.wd ≤ 16 := by rw [← exd]; exact h16
 have hxc8 : x.c ≤ 8 := by rw [← exc]; exact hc8
 obtain ⟨M, hM, hMn, hml, hmo, hpo, hrt, hoth, hsp, hgen⟩ := region0 hx 0 (by omega)
 obtain ⟨hps, hio⟩ := region0s hx 0 (by omega)
 rw [hM] at hps
 have hnd := hsp.nd
 rw [List.nodup_cons] at hnd
 refine go ?_
 rw [w64 (n := (x.c : Int) + 1) (by omega) (by omega)]
 refine Sx.ca rfl (number chunks ((x.c : Int) + 1) (by omega) (by omega)) ?_
 rintro v L' ⟨rfl, rfl⟩
 have hk1 := Int.emod_nonneg chunks (show (x.c : Int) + 1 ≠ 0 by omega)
 have hk2 := Int.emod_lt_of_pos chunks (show (0 : Int) < (x.c : Int) + 1 by omega)
 obtain ⟨k, hk⟩ : ∃ k : Nat, chunks % ((x.c : Int) + 1) = k := ⟨(chunks % ((x.c : Int) + 1)).toNat, by omega⟩
 rw [hk]
 have hkc : k ≤ x.c := by omega
 refine go ?_
 refine Sx.ca rfl (number later 5 (by omega) (by omega)) ?_
 rintro v L' ⟨rfl, rfl⟩
 have hl1 := Int.emod_nonneg later (show (5 : Int) ≠ 0 by omega)
 have hl2 := Int.emod_lt_of_pos later (show (0 : Int) < 5 by omega)
 obtain ⟨at5, hat5⟩ : ∃ at5, later % 5 = at5 := ⟨_, rfl⟩
 rw [hat5] at hl1 hl2 ⊢
 refine go ?_
 refine Sx.ca rfl (number n 50 (by omega) (by omega)) ?_
 rintro v L' ⟨rfl, rfl⟩
 have hn1 := Int.emod_nonneg n (show (50 : Int) ≠ 0 by omega)
 have hn2 := Int.emod_lt_of_pos n (show (0 : Int) < 50 by omega)
 obtain ⟨tag, htag⟩ : ∃ tag : Nat, 3 + n % 50 = tag := ⟨(3 + n % 50).toNat, by omega⟩
 refine go ?_
 rw [w64 (n := 3 + n % 50) (by omega) (by omega), htag]
 have ht3 : 3 ≤ tag := by omega
 have ht100 : tag ≤ 100 := by omega
 have hnm : (SupS.nil x.ca).most = min (max (x.ca : Int) 0) 64 := rfl
 have hW0 : WI x (iotaI x.sl).tail 0 M := ⟨hml, hmo, by rw [List.drop_zero]; exact hpo, by rw [hrt]; rfl, fun i hi => by omega, hps⟩
 obtain ⟨hWk, hst⟩ := WR_spec (S := SupS.nil x.ca) hW0 hx hw8 hw16 exb (by omega) (by omega) rfl rfl k hkc
 have hW := hWk.lay (v := tag) hx (by omega) hkc
 have ger := enRegion (x := x) (n := nn) (e := e) (r := r) (r2 := r2) (k := 3) (c := c) (c2 := c2) (Q := Q) (m := allM x) 0 k x.wd (WR x M (SupS.nil x.ca)) (fun _ => x.wd + 6) (by omega) (by omega) (by omega) (by omega) (Nat.le_refl _) hw8 hx (allM_len x) (allM_ok hx) (s := 0) (l := (iotaI x.sl).tail) hsp (by omega) hM.symm (by rw [hgen]; exact fun j hj => hst j hj)
  (G := pt (some ⟨gb, 0, none⟩) (Blk 24 [.int .i64 x.w, .int .i64 x.c, .int .i64 x.wd, .int .i64 x.sl, .int .i64 (can : Nat), .int .i64 1]) :: pt (some ⟨nn.pb, 0, none⟩) (SkO nn.mp x.pool) :: pt (some ⟨e.eo, 0, none⟩) (EnO nn.mp e.ro e.ch) :: pt (some ⟨e.ro, 0, none⟩) (RoO nn.mp e.sp x) :: pt (some ⟨e.sp, 0, none⟩) (SkO nn.mp x.spare) :: pt (some ⟨e.ch, 0, none⟩) (ChO nn.mp e.pb x) :: L)
 rw [hgen] at ger
 refine go ?_
 refine Sx.ent ?_ (Sx.ca rfl ger ?_)
 ·refine Ent.trans (Ent.ith 0 (by omega)) ?_
  simp only [whoL, List.cons_append, List.nil_append]
  exact entm
 rintro v L' ⟨rfl, rfl⟩
 dsimp only [rhF, rhG]
 rw [WR_snd]
 obtain ⟨mk, hmk⟩ : ∃ mk, (WR x M (SupS.nil x.ca) k).1 = mk := ⟨_, rfl⟩
 rw [hmk] at hWk hW ⊢
 have hmkl := hWk.len
 have hl3 : 3 ≤ x.len := by unfold Cn.len; omega
 refine go ?_
 rw [wrap64 (n := tag) (by omega)]
 refine Sx.ca rfl (cellsLay (b := nn.mp) (m := mk) 2 tag (by omega) (by omega)) ?_
 rintro v L' ⟨rfl, rfl⟩
 refine go ?_
 obtain ⟨M3, A, S3, e5, hrun, a1, w2, w3, w4, w5, w6, w6o, w7, wp, w8, w9, w10, w11, w12⟩ := waits_law hx hW hkc hxc8 hnd.1 (by rw [Mm.at_lay 2 (by omega), if_pos rfl]) ht100 (by omega)
 obtain ⟨N, hN⟩ : ∃ N, (if k = 0 then 5 else 6 + k) = N := ⟨_, rfl⟩
 have hN20 : N ≤ 20 := by rw [← hN]; split <;> omega
 rw [hN] at e5 hrun
 have ga := enFrees (x := x) (n := nn) (e := e) (r := r) (r2 := some ⟨r2, 0, none⟩) (k := 3) (c := c) (c2 := c2) (Q := Q) (i := 0) (S := SupS.nil x.ca) (m := mk.lay 2 tag) (slot := 0) (gen := 1) (G := pt (some ⟨gb, 0, none⟩) (Blk 24 [.int .i64 x.w, .int .i64 x.c, .int .i64 x.wd, .int .i64 x.sl, .int .i64 (can : Nat), .int .i64 1]) :: pt (some ⟨nn.ro, 0, none⟩) (RoO nn.mp nn.sp x) :: pt (some ⟨nn.pb, 0, none⟩) (SkO nn.mp x.pool) :: L) N (by omega) (by omega) (by omega) hx (by omega) hrun
 rw [e5] at ga
 refine Sx.ent ?_ (Sx.ca rfl ga ?_)
 ·dsimp only [fgF]
  exact entm
 rintro v L' ⟨b, rfl, rfl⟩
 dsimp only [fgF]
 refine go ?_
 refine Cx.jn (β := Unit) (fun _ => [(7, .bool true), (8, .pointer (some ⟨gb, 0, none⟩)), (9, .pointer (some ⟨nn.a, 0, none⟩)), (10, .int .i64 (k : Nat)), (11, .int .i64 at5), (12, .int .i64 (tag : Nat)), (13, .int .i64 ((0 : Nat) : Int)), (14, .int .i64 ((1 : Nat) : Int)), (16, .pointer (some ⟨b, 0, none⟩)), (17, .int .i64 (N : Nat)), (18, .int .i64 (N : Nat))])
  (fun _ => pt (some ⟨gb, 0, none⟩) (Blk 24 [.int .i64 x.w, .int .i64 x.c, .int .i64 x.wd, .int .i64 x.sl, .int .i64 (can : Nat), .int .i64 1]) :: pt (some ⟨b, 0, none⟩) (FrO (frH nn e Q 0) x 0 1 A) :: fgF x nn e r (some ⟨r2, 0, none⟩) 3 c c2 Q 0 S3 M3 (pt (some ⟨nn.ro, 0, none⟩) (RoO nn.mp nn.sp x) :: pt (some ⟨nn.pb, 0, none⟩) (SkO nn.mp x.pool) :: L)) ?_ ?_
 ·refine Cx.ifp rfl (fun h => ?_) (fun h => ?_)
  ·refine go ?_
   rw [w64 (n := (6 : Int) + k) (by omega) (by omega)]
   have hN2 : N = 6 + k := by rw [← hN, if_neg (by omega)]
   rw [show (6 : Int) + k = ((N : Nat) : Int) by omega]
   refine Kjn.nm () (sub.cons rfl (sub.cons rfl (sub.cons rfl (sub.cons rfl (sub.cons rfl (sub.cons rfl (sub.cons rfl (sub.cons rfl (sub.cons rfl (sub.cons rfl (sub.cons rfl sub.nil))))))))))) ?_
   dsimp only [fgF]
   exact entm
  ·refine go ?_
   have hN2 : N = 5 := by rw [← hN, if_pos (by omega)]
   subst hN2
   refine Kjn.nm () (sub.cons rfl (sub.cons rfl (sub.cons rfl (sub.cons rfl (sub.cons rfl (sub.cons rfl (sub.cons rfl (sub.cons rfl (sub.cons rfl (sub.cons rfl (sub.cons rfl sub.nil))))))))))) ?_
   dsimp only [fgF]
   exact entm
 rintro ⟨⟩
 dsimp only [fgF]
 refine go ?_
 refine Sx.gyes rfl (by simp) ?_
 refine go ?_
 refine Sx.ca rfl (frCodeD (b := b) (h := frH nn e Q 0) (x := x) (slot := 0) (gen := 1) (s := A) a1) ?_
 rintro v L' ⟨rfl, rfl⟩
 rw [w4]
 refine go ?_
 refine Sx.ca rfl (frHandD (b := b) (h := frH nn e Q 0) (x := x) (slot := 0) (gen := 1) (s := A) a1 w2 w3) ?_
 rintro v L' ⟨rfl, rfl⟩
 refine go ?_
 refine Sx.ca rfl (frSlotD (b := b) (h := frH nn e Q 0) (x := x) (slot := 0) (gen := 1) (s := A) a1) ?_
 rintro v L' ⟨rfl, rfl⟩
 rw [w5]
 refine go ?_
 refine Sx.ca rfl (rootsRoot (g := nn.ro) (mp := nn.mp) (sb := nn.sp) (x := x) (m := M3) 0 (by omega) hx w6o (by omega)) ?_
 rw [w7]
 rintro v L' ⟨rfl, rfl⟩
 refine go ?_
 refine Sx.ca rfl (rootsRoot (g := nn.ro) (mp := nn.mp) (sb := nn.sp) (x := x) (m := M3) 0 (by omega) hx w6o (by omega)) ?_
 rw [w7]
 rintro v L' ⟨rfl, rfl⟩
 refine gg ?_
 refine Sx.ldr (b := r) rfl (v := .pointer (some ⟨(Q 0).u, 0, none⟩)) (ptrs_get (U := fun i => (Q i).u) (show 0 < 3 by omega)) ?_
 refine gg ?_
 rw [show Int.tmod (tag : Int) 3 = ((tag % 3 : Nat) : Int) from rfl]
 refine Sx.ca rfl (supBucketC (u := (Q 0).u) (mp := nn.mp) (pb := (Q 0).pb) (x := x) (s := S3) (tag % 3) (by omega) (by omega)) ?_
 rw [w10]
 rintro v L' ⟨tg, ra, co, rfl, htg, hent⟩
 refine Sx.ent hent ?_
 refine Sx.pvs rfl ?_
 refine Sx.nil ?_
 refine Krg.i ?_
 refine Ksq.nm ?_
 refine Cx.sq ?_
 refine Cx.jn (β := Unit) (fun _ => [(7, .bool true), (8, .pointer (some ⟨gb, 0, none⟩)), (9, .pointer (some ⟨nn.a, 0, none⟩)), (10, .int .i64 (k : Nat)), (11, .int .i64 at5), (12, .int .i64 (tag : Nat))])
  (fun _ => pt (some ⟨gb, 0, none⟩) (Blk 24 [.int .i64 x.w, .int .i64 x.c, .int .i64 x.wd, .int .i64 x.sl, .int .i64 (can : Nat), .int .i64 1]) :: pt (some ⟨b, 0, none⟩) (FrO (frH nn e Q 0) x 0 1 A) :: fgF x nn e r (some ⟨r2, 0, none⟩) 3 c c2 Q 0 S3 M3 (pt (some ⟨nn.ro, 0, none⟩) (RoO nn.mp nn.sp x) :: pt (some ⟨nn.pb, 0, none⟩) (SkO nn.mp x.pool) :: L)) ?_ ?_
 ·refine Cx.sq ?_
  refine Cx.ordc rfl (by kernel_rfl) ?_
  refine ge ?_
  refine Ev.no 138 rfl (by simp) ?_
  refine ge ?_
  by_cases hk0 : 0 < k
  ·have htt : tg = (tag : Int) := by rw [htg (by omega), w11 (by omega)]
   subst htt
   refine Ev.yes 141 rfl (decide_eq_true (by omega)) ?_
   refine ge ?_
   refine Ev.no 147 rfl (by simp) ?_
   refine ge ?_
   iterate 4 (refine Ev.bring 2 rfl ?_; refine ge ?_)
   refine Ev.caH (by kernel_rfl) rfl rfl (stackList (sb := nn.pb) (mp := nn.mp) (k := x.pool) (m := M3) (hx.pool (by omega) (by omega))) (.keep (fun v L' ⟨_, _, _, e⟩ => by subst e; exact Has.cell rfl) (Pres.deps (by kernel_rfl))) ?_
   rw [list_pool wp, show ((iotaI x.c).drop k).length = x.c - k by simp [iotaI]]
   rintro v L' ⟨ro, co2, rfl, rfl⟩
   refine ge ?_
   rw [w64 (n := (x.c : Int) - k) (by omega) (by omega)]
   refine Ev.no 160 rfl (by rw [decide_eq_true (by omega)]; rfl) ?_
   refine ge ?_
   refine Ev.ldrH (b := r) (v := .pointer (some ⟨(Q 0).u, 0, none⟩)) (by kernel_rfl) rfl rfl (ptrs_get (U := fun i => (Q i).u) (show 0 < 3 by omega)) ?_
   refine ge ?_
   refine Ev.caH (by kernel_rfl) rfl rfl (supStash (u := (Q 0).u) (mp := nn.mp) (pb := (Q 0).pb) (x := x) (s := S3) (by rw [w8]; simp)) (Pres.deps (by kernel_rfl)) ?_
   rw [w8]
   rintro v L' ⟨sa2, sc2, rfl, rfl⟩
   refine ge ?_
   refine go ?_
   refine Kjn.nm () (sub.cons rfl (sub.cons rfl (sub.cons rfl (sub.cons rfl (sub.cons rfl (sub.cons rfl sub.nil)))))) ?_
   dsimp only [fgF]
   exact entm
  ·refine Ev.no 141 rfl (decide_eq_false (by omega)) ?_
   refine ge ?_
   refine ge ?_
   iterate 4 (refine Ev.bring 2 rfl ?_; refine ge ?_)
   refine Ev.caH (by kernel_rfl) rfl rfl (stackList (sb := nn.pb) (mp := nn.mp) (k := x.pool) (m := M3) (hx.pool (by omega) (by omega))) (.keep (fun v L' ⟨_, _, _, e⟩ => by subst e; exact Has.cell rfl) (Pres.deps (by kernel_rfl))) ?_
   rw [list_pool wp, show ((iotaI x.c).drop k).length = x.c - k by simp [iotaI]]
   rintro v L' ⟨ro, co2, rfl, rfl⟩
   refine ge ?_
   rw [w64 (n := (x.c : Int) - k) (by omega) (by omega)]
   refine Ev.no 160 rfl (by rw [decide_eq_true (by omega)]; rfl) ?_
   refine ge ?_
   refine Ev.ldrH (b := r) (v := .pointer (some ⟨(Q 0).u, 0, none⟩)) (by kernel_rfl) rfl rfl (ptrs_get (U := fun i => (Q i).u) (show 0 < 3 by omega)) ?_
   refine ge ?_
   refine Ev.caH (by kernel_rfl) rfl rfl (supStash (u := (Q 0).u) (mp := nn.mp) (pb := (Q 0).pb) (x := x) (s := S3) (by rw [w8]; simp)) (Pres.deps (by kernel_rfl)) ?_
   rw [w8]
   rintro v L' ⟨sa2, sc2, rfl, rfl⟩
   refine ge ?_
   refine go ?_
   refine Kjn.nm () (sub.cons rfl (sub.cons rfl (sub.cons rfl (sub.cons rfl (sub.cons rfl (sub.cons rfl sub.nil)))))) ?_
   dsimp only [fgF]
   exact entm
 rintro ⟨⟩
 dsimp only [fgF]
 obtain ⟨out, hout⟩ : ∃ out : Nat, (if 2 ≤ at5 then k else 0) = out := ⟨_, rfl⟩
 have w12' := w12 at5 (by omega)
 rw [hout] at w12'
 refine go ?_
 refine Cx.jn (β := Unit) (fun _ => [(7, .bool true), (9, .pointer (some ⟨nn.a, 0, none⟩)), (11, .int .i64 at5), (12, .int .i64 (tag : Nat)), (21, .int .i64 (out : Nat))])
  (fun _ => pt (some ⟨gb, 0, none⟩) (Blk 24 [.int .i64 x.w, .int .i64 x.c, .int .i64 x.wd, .int .i64 x.sl, .int .i64 (can : Nat), .int .i64 1]) :: pt (some ⟨b, 0, none⟩) (FrO (frH nn e Q 0) x 0 1 A) :: fgF x nn e r (some ⟨r2, 0, none⟩) 3 c c2 Q 0 S3 M3 (pt (some ⟨nn.ro, 0, none⟩) (RoO nn.mp nn.sp x) :: pt (some ⟨nn.pb, 0, none⟩) (SkO nn.mp x.pool) :: L)) ?_ ?_
 ·refine Cx.ifp rfl (fun h5 => ?_) (fun h5 => ?_)
  ·refine go ?_
   have ho : out = k := by rw [← hout, if_pos h5]
   subst ho
   refine Kjn.nm () (sub.cons rfl (sub.cons rfl (sub.cons rfl (sub.cons rfl (sub.cons rfl sub.nil))))) ?_
   dsimp only [fgF]
   exact entm
  ·refine go ?_
   have ho : out = 0 := by rw [← hout, if_neg h5]
   subst ho
   refine Kjn.nm () (sub.cons rfl (sub.cons rfl (sub.cons rfl (sub.cons rfl (sub.cons rfl sub.nil))))) ?_
   dsimp only [fgF]
   exact entm
 rintro ⟨⟩
 dsimp only [fgF]
 refine gg ?_
 refine Sx.ldr (b := r) rfl (v := .pointer (some ⟨(Q 0).u, 0, none⟩)) (ptrs_get (U := fun i => (Q i).u) (show 0 < 3 by omega)) ?_
 refine go ?_
 rw [w64 (n := (tag : Int) + at5) (by omega) (by omega)]
 refine Sx.ca rfl (supReady (u := (Q 0).u) (mp := nn.mp) (pb := (Q 0).pb) (x := x) (s := S3) (now := (tag : Int) + at5) (by omega) (by rw [w8]; simp) (by omega)) ?_
 rw [w12']
 rintro v L' ⟨rfl, rfl⟩
 refine go ?_
 refine Sx.gyes rfl (by simp) ?_
 refine gg ?_
 refine Sx.ldr (b := r) rfl (v := .pointer (some ⟨(Q 0).u, 0, none⟩)) (ptrs_get (U := fun i => (Q i).u) (show 0 < 3 by omega)) ?_
 refine go ?_
 have hxr : (S3.ready ((tag : Int) + at5)).xs.length = out := by
  show (S3.xs ++ (readyAll ((tag : Int) + at5) S3.lm).1).length = _
  rw [w8, List.nil_append, w12']
 have hok8 : out ≤ 8 := by rw [← hout]; split <;> omega
 refine Sx.ca rfl (supStash (u := (Q 0).u) (mp := nn.mp) (pb := (Q 0).pb) (x := x) (s := S3.ready ((tag : Int) + at5)) (by omega)) ?_
 rw [hxr]
 rintro v L' ⟨sa3, sc3, rfl, rfl⟩
 refine go ?_
 refine Kr.one (.inr rfl) rfl (Ent.refl _) ⟨by simp, ?_⟩
 exact entm
end
end Go.Proofs.YtflalhdofhobmaaGreat
