/-
  Parts of the proof, merged: what the statement leans on.
-/
import Derived.Test.YtflalhdofhobmaaGreatZHdE
/-
  A Free alone.
-/
set_option linter.unusedVariables false
set_option linter.unusedSimpArgs false
namespace Go.Proofs.YtflalhdofhobmaaGreat
theorem frIt_add {p : FrP} {r : Mm × SupS × FrS} {j : Nat} : ∀ i, frIt p i (frIt p j r) = frIt p (j + i) r
  | 0 => rfl
  | i + 1 => by
    show frStep p (frIt p i (frIt p j r)).1 (frIt p i (frIt p j r)).2.1 (frIt p i (frIt p j r)).2.2 = _
    rw [frIt_add i]
    rfl
theorem frIt_idle {p : FrP} {r : Mm × SupS × FrS} {j : Nat} (h : (frIt p j r).2.2.done = true) : ∀ i, frIt p (j + i) r = frIt p j r
  | 0 => rfl
  | i + 1 => by
    show frStep p (frIt p (j + i) r).1 (frIt p (j + i) r).2.1 (frIt p (j + i) r).2.2 = _
    rw [frIt_idle h i]
    unfold frStep
    rw [if_pos h]
section
variable {x : Cn} {slot : Nat} {gen : Int} {m : Mm} {S : SupS}
theorem FrRun.append {p : FrP} {r r1 : Mm × SupS × FrS} {a N : Nat} (he : frIt p a r = r1) (h1 : ∀ j, j < a → FrGood x p.slot (frIt p j r) ∧ (frIt p j r).2.2.done = false) (h2 : FrRun x p r1 N) : FrRun x p r (a + N) := by
  subst he
  refine ⟨fun j hj => ?_, fun j hj => ?_, ?_⟩
  · by_cases h : j < a
    · exact (h1 j h).1
    · obtain ⟨i, rfl⟩ : ∃ i, j = a + i := ⟨j - a, by omega⟩
      rw [← frIt_add]
      exact h2.good i (by omega)
  · by_cases h : j < a
    · exact (h1 j h).2
    · obtain ⟨i, rfl⟩ : ∃ i, j = a + i := ⟨j - a, by omega⟩
      rw [← frIt_add]
      exact h2.nd i (by omega)
  · rw [← frIt_add]
    exact h2.d
theorem FrRun.all {p : FrP} {r : Mm × SupS × FrS} {N : Nat} (h : FrRun x p r N) (j : Nat) : FrGood x p.slot (frIt p j r) := by
  by_cases hj : j ≤ N
  · exact h.good j hj
  · obtain ⟨i, rfl⟩ : ∃ i, j = N + i := ⟨j - N, by omega⟩
    rw [frIt_idle h.d]
    exact h.good N (Nat.le_refl _)
theorem frOk_init : FrOk x FrS.init := ⟨by show 0 ≤ 4; omega, by show 0 ≤ 1000000; omega, fun _ => EndS.ok_init, (fun _ h => by cases h), (fun h => by cases h)⟩
/-- The region is no more, or not yet. -/
theorem fr_stale (hl : m.ws.length = x.len) (hm : m.ok) (hs : S.xs.length + S.lm.size ≤ 1000) (hm0 : 0 ≤ S.most) (hm2 : S.most ≤ 64) (hlv : ¬ (rtOf (m.at_ (x.root + slot))).live gen) :
    frIt (x.fr slot gen) 1 (m, S, FrS.init) = (m.tick, S, ⟨0, ⟨1, 0, -1, -1, 1, 0, 3⟩, ⟨0, 1, m.at_ (x.root + slot), 3, -1, 1, true⟩, WalkS.zero, gNone, gNone, true⟩) ∧ FrRun x (x.fr slot gen) (m, S, FrS.init) 1 := by
  have e : endStep (x.root + slot) gen m EndS.init = (⟨0, 1, m.at_ (x.root + slot), 3, -1, 1, true⟩, m.tick) := by
    unfold endStep
    simp only [EndS.init, Bool.false_eq_true, if_false]
    rw [if_neg hlv]
  have e1 : frIt (x.fr slot gen) 1 (m, S, FrS.init) = (m.tick, S, ⟨0, ⟨1, 0, -1, -1, 1, 0, 3⟩, ⟨0, 1, m.at_ (x.root + slot), 3, -1, 1, true⟩, WalkS.zero, gNone, gNone, true⟩) := by
    show frStep (x.fr slot gen) m S FrS.init = _
    unfold frStep FrS.init
    simp only [Bool.false_eq_true, if_false]
    rw [e]
    rfl
  refine ⟨e1, fun j hj => ?_, fun j hj => ?_, by rw [e1]⟩
  · rcases (show j = 0 ∨ j = 1 by omega) with rfl | rfl
    · exact ⟨hl, hm, hs, hm0, hm2, fun _ => frOk_init⟩
    · rw [e1]; exact ⟨hl, hm, hs, hm0, hm2, (fun h => by cases h)⟩
  · obtain rfl : j = 0 := by omega
    rfl
/-- The End. -/
theorem fr_end2 (hl : m.ws.length = x.len) (hm : m.ok) (hs : S.xs.length + S.lm.size ≤ 1000) (hm0 : 0 ≤ S.most) (hm2 : S.most ≤ 64) (hlv : (rtOf (m.at_ (x.root + slot))).live gen) (hmk : (rtOf (m.at_ (x.root + slot))).mrk ≤ x.c + 1) (hc : x.c ≤ 4096) :
    frIt (x.fr slot gen) 2 (m, S, FrS.init) = (m.tick.put (x.root + slot) (Rt.w ⟨(rtOf (m.at_ (x.root + slot))).gen, 0, 0, 0⟩), S, frEnded (x.fr slot gen) ⟨2, 0, -1, -1, 0, 0, 0⟩ ⟨1, 2, m.at_ (x.root + slot), 0, (rtOf (m.at_ (x.root + slot))).chunk, 2, true⟩) ∧
      (∀ j, j < 2 → FrGood x slot (frIt (x.fr slot gen) j (m, S, FrS.init)) ∧ (frIt (x.fr slot gen) j (m, S, FrS.init)).2.2.done = false) := by
  have hwl := Mm.at_lt hm (x.root + slot)
  obtain ⟨W, hW⟩ : ∃ W, m.at_ (x.root + slot) = W := ⟨_, rfl⟩
  rw [hW] at hlv hmk hwl ⊢
  have e : endStep (x.root + slot) gen m EndS.init = (⟨1, 1, W, 0, -1, 0, false⟩, m.tick) := by
    unfold endStep
    simp only [EndS.init, Bool.false_eq_true, if_false]
    rw [hW, if_pos hlv]
  have hW2 : m.tick.at_ (x.root + slot) = W := hW
  have e' : endStep (x.root + slot) gen m.tick ⟨1, 1, W, 0, -1, 0, false⟩ = (⟨1, 2, W, 0, (rtOf W).chunk, 2, true⟩, m.tick.put (x.root + slot) (Rt.w ⟨(rtOf W).gen, 0, 0, 0⟩)) := by
    unfold endStep
    simp only [Bool.false_eq_true, if_false]
    unfold Mm.cas
    rw [if_pos hW2, if_pos hW2]
  have e1 : frIt (x.fr slot gen) 1 (m, S, FrS.init) = (m.tick, S, ⟨0, ⟨1, 0, -1, -1, 0, 0, 0⟩, ⟨1, 1, W, 0, -1, 0, false⟩, WalkS.zero, gNone, gNone, false⟩) := by
    show frStep (x.fr slot gen) m S FrS.init = _
    unfold frStep FrS.init
    simp only [Bool.false_eq_true, if_false]
    rw [e]
    simp only [Bool.false_eq_true, if_false]
  refine ⟨?_, fun j hj => ?_⟩
  · show frStep (x.fr slot gen) (frIt (x.fr slot gen) 1 (m, S, FrS.init)).1 (frIt (x.fr slot gen) 1 (m, S, FrS.init)).2.1 (frIt (x.fr slot gen) 1 (m, S, FrS.init)).2.2 = _
    rw [e1]
    unfold frStep
    simp only [Bool.false_eq_true, if_false]
    rw [e']
    simp only [if_true]
  · rcases (show j = 0 ∨ j = 1 by omega) with rfl | rfl
    · exact ⟨⟨hl, hm, hs, hm0, hm2, fun _ => frOk_init⟩, rfl⟩
    · rw [e1]
      exact ⟨⟨hl, hm, hs, hm0, hm2, fun _ => ⟨by show 0 ≤ 4; omega, by show 1 ≤ 1000000; omega, fun _ => ⟨by show 1 ≤ 1; omega, hwl, fun _ => by show (rtOf W).mrk ≤ 4097; omega, by show 1 ≤ 1000000; omega⟩, fun _ _ => hmk, (fun h => by cases h)⟩⟩, rfl⟩
/-- The slot goes back. -/
theorem fr_push {v : FrV} {e : EndS} {w : WalkS} {l : List Int} (hx : x.ok) (hl : m.ws.length = x.len) (hm : m.ok) (hsl : slot < x.sl) (hp : Pool x.spare m l) (hn : (slot : Int) ∉ l) (hv : v.cnt ≤ 1000) (hs : S.xs.length + S.lm.size ≤ 1000) (hm0 : 0 ≤ S.most) (hm2 : S.most ≤ 64) (hx0 : (S.xs.length : Int) ≤ S.most) :
    ∃ M pp, frIt (x.fr slot gen) 3 (m, S, frLeave (x.fr slot gen) v e w) = (M, S, ⟨4, { v with chunk := -1, cnt := v.cnt + 3, back := v.cnt + 3, slot := -1 }, e, w, pp, PushS.init [], true⟩) ∧ FrRun x (x.fr slot gen) (m, S, frLeave (x.fr slot gen) v e w) 3 ∧
      M.ws.length = x.len ∧ M.ok ∧ Pool x.spare M ((slot : Int) :: l) ∧ (∀ a, a ≠ 1 → a ≠ x.slot + slot → M.at_ a = m.at_ a) := by
  have hlen := hx.len_le
  have hk := hx.spare (n := m.ws.length) (by omega) (by omega)
  have hrg : ∀ i ∈ [(slot : Int)], 0 ≤ i ∧ i < x.spare.n := fun i hi => by rw [List.mem_singleton.1 hi]; exact ⟨by omega, by show (slot : Int) < x.sl; omega⟩
  obtain ⟨M, e3, _, hMl, hMp, hMa, hnd⟩ := push_alone (k := x.spare) (m := m) (l := l) (x := [(slot : Int)]) hk rfl hp (by simp) (by simp) hrg (fun i hi => by rw [List.mem_singleton.1 hi]; exact hn)
  have e3' : pushIt x.spare 3 (PushS.init [(slot : Int)], m) = (⟨[(slot : Int)], 0, m.at_ 1, true⟩, M) := e3
  have hnd' : ∀ j, j < 3 → (pushIt x.spare j (PushS.init [(slot : Int)], m)).1.done = false := hnd
  have hin : ∀ j, (pushIt x.spare j (PushS.init [(slot : Int)], m)).2.ok ∧ (pushIt x.spare j (PushS.init [(slot : Int)], m)).1.ok x.spare ∧ (pushIt x.spare j (PushS.init [(slot : Int)], m)).2.ws.length = m.ws.length := by
    intro j
    induction j with
    | zero => exact ⟨hm, PushS.ok_init hrg, rfl⟩
    | succ j ih =>
      rw [pushIt_succ]
      exact ⟨(pushStep_mem hk ih.1 ih.2.1).1, pushStep_ok ih.1 ih.2.1, (pushStep_mem hk ih.1 ih.2.1).2.trans ih.2.2⟩
  have key : ∀ j, j < 3 → frIt (x.fr slot gen) j (m, S, frLeave (x.fr slot gen) v e w) = ((pushIt x.spare j (PushS.init [(slot : Int)], m)).2, S, ⟨3, { v with chunk := -1, cnt := v.cnt + j }, e, w, (pushIt x.spare j (PushS.init [(slot : Int)], m)).1, gNone, false⟩) := by
    intro j
    induction j with
    | zero => exact fun _ => rfl
    | succ j ih =>
      intro hj
      have hd := hnd' (j + 1) hj
      rw [pushIt_succ] at hd ⊢
      show frStep (x.fr slot gen) (frIt (x.fr slot gen) j (m, S, frLeave (x.fr slot gen) v e w)).1 (frIt (x.fr slot gen) j (m, S, frLeave (x.fr slot gen) v e w)).2.1 (frIt (x.fr slot gen) j (m, S, frLeave (x.fr slot gen) v e w)).2.2 = _
      rw [ih (by omega)]
      unfold frStep
      simp only [Bool.false_eq_true, if_false, hd]
      rfl
  have hov : overK S.most S.xs = 0 := by unfold overK; omega
  have e4 : frIt (x.fr slot gen) 3 (m, S, frLeave (x.fr slot gen) v e w) = (M, S, ⟨4, { v with chunk := -1, cnt := v.cnt + 3, back := v.cnt + 3, slot := -1 }, e, w, ⟨[(slot : Int)], 0, m.at_ 1, true⟩, PushS.init [], true⟩) := by
    show frStep (x.fr slot gen) (frIt (x.fr slot gen) 2 (m, S, frLeave (x.fr slot gen) v e w)).1 (frIt (x.fr slot gen) 2 (m, S, frLeave (x.fr slot gen) v e w)).2.1 (frIt (x.fr slot gen) 2 (m, S, frLeave (x.fr slot gen) v e w)).2.2 = _
    rw [key 2 (by omega)]
    have hp3 : pushStep x.spare (pushIt x.spare 2 (PushS.init [(slot : Int)], m)).2 (pushIt x.spare 2 (PushS.init [(slot : Int)], m)).1 = (⟨[(slot : Int)], 0, m.at_ 1, true⟩, M) := by rw [← pushIt_succ]; exact e3'
    unfold frStep
    simp only [Bool.false_eq_true, if_false, hp3, if_true, hov, List.take_zero, List.drop_zero, giveInit_nil]
    rfl
  have hMo : M.ok := by have := (hin 3).1; rw [e3'] at this; exact this
  refine ⟨M, _, e4, ⟨fun j hj => ?_, fun j hj => ?_, by rw [e4]⟩, hMl.trans hl, hMo, hMp, fun a h1 h2 => hMa a h1 (fun i hi => by rw [List.mem_singleton.1 hi, Int.toNat_natCast]; exact h2)⟩
  · by_cases h3 : j < 3
    · rw [key j h3]
      exact ⟨(hin j).2.2.trans hl, (hin j).1, hs, hm0, hm2, fun _ => ⟨by show 3 ≤ 4; omega, by show v.cnt + j ≤ 1000000; omega, (fun h => by cases h), (fun h => by cases h), (fun h => by cases h)⟩⟩
    · obtain rfl : j = 3 := by omega
      rw [e4]
      exact ⟨hMl.trans hl, hMo, hs, hm0, hm2, (fun h => by cases h)⟩
  · rw [key j hj]
/-- A region without chunks is freed by one alone. -/
theorem fr_bare {l : List Int} (hx : x.ok) (hl : m.ws.length = x.len) (hm : m.ok) (hsl : slot < x.sl) (hp : Pool x.spare m l) (hn : (slot : Int) ∉ l) (hs : S.xs.length + S.lm.size ≤ 1000) (hm0 : 0 ≤ S.most) (hm2 : S.most ≤ 64) (hx0 : (S.xs.length : Int) ≤ S.most)
    (hlv : (rtOf (m.at_ (x.root + slot))).live gen) (hmk : (rtOf (m.at_ (x.root + slot))).mrk = 1) :
    ∃ M A, frIt (x.fr slot gen) 5 (m, S, FrS.init) = (M, S, A) ∧ FrRun x (x.fr slot gen) (m, S, FrS.init) 5 ∧ A.done = true ∧ A.at_ = 4 ∧ A.g.done = true ∧ A.v.code = 0 ∧ A.v.point = 2 ∧ A.v.back = 5 ∧ A.v.slot = -1 ∧ M.ws.length = x.len ∧ M.ok ∧ Pool x.spare M ((slot : Int) :: l) ∧
      rtOf (M.at_ (x.root + slot)) = ⟨(rtOf (m.at_ (x.root + slot))).gen, 0, 0, 0⟩ ∧ (∀ a, a ≠ 1 → a ≠ x.slot + slot → a ≠ x.root + slot → M.at_ a = m.at_ a) := by
  obtain ⟨b1, b2, b3, b4, b5, b6, b7⟩ := hx.b
  have g1 : x.root + x.sl = x.slot := by unfold Cn.root Cn.slot; omega
  have g2 : x.slot + x.sl ≤ x.len := by unfold Cn.slot Cn.len; omega
  have g3 : 3 ≤ x.root := by unfold Cn.root; omega
  obtain ⟨e2, hg2⟩ := fr_end2 (x := x) (slot := slot) (gen := gen) (m := m) (S := S) hl hm hs hm0 hm2 hlv (by omega) b2
  have hgl := rtOf_gen (Mm.at_lt hm (x.root + slot))
  have hR : Rt.ok ⟨(rtOf (m.at_ (x.root + slot))).gen, 0, 0, 0⟩ := ⟨hgl, by show 0 ≤ 4097; omega, by show 0 ≤ 3; omega, by show 0 ≤ 1024; omega⟩
  have hput : ∀ a, (m.tick.put (x.root + slot) (Rt.w ⟨(rtOf (m.at_ (x.root + slot))).gen, 0, 0, 0⟩)).at_ a = if x.root + slot = a then Rt.w ⟨(rtOf (m.at_ (x.root + slot))).gen, 0, 0, 0⟩ else m.at_ a := fun a => Mm.at_put a (by show _ < m.ws.length; omega)
  obtain ⟨m2, hm2e⟩ : ∃ m2, m.tick.put (x.root + slot) (Rt.w ⟨(rtOf (m.at_ (x.root + slot))).gen, 0, 0, 0⟩) = m2 := ⟨_, rfl⟩
  have hml2 : m2.ws.length = x.len := by rw [← hm2e, Mm.len_put]; exact hl
  have hmo2 : m2.ok := by rw [← hm2e]; exact Mm.ok_put (Mm.ok_tick hm) (Rt.w_lt hR)
  rw [hm2e] at hput e2
  have hp2 : Pool x.spare m2 l := by
    refine ⟨?_, hp.nd⟩
    rw [hput, if_neg (by show ¬ x.root + slot = 1; omega)]
    refine hp.c.congr fun z hz => ?_
    have := hp.c.mem z hz
    rw [hput, if_neg (by show ¬ x.root + slot = x.slot + z.toNat; omega)]
  have he : frEnded (x.fr slot gen) ⟨2, 0, -1, -1, 0, 0, 0⟩ ⟨1, 2, m.at_ (x.root + slot), 0, (rtOf (m.at_ (x.root + slot))).chunk, 2, true⟩ = frLeave (x.fr slot gen) ⟨2, 0, -1, slot, 2, 0, 0⟩ ⟨1, 2, m.at_ (x.root + slot), 0, (rtOf (m.at_ (x.root + slot))).chunk, 2, true⟩ WalkS.zero := by
    unfold frEnded
    have hch : (rtOf (m.at_ (x.root + slot))).chunk = -1 := by unfold Rt.chunk; rw [if_pos (by omega)]
    dsimp only
    rw [if_neg (by omega), if_neg (by omega)]
  rw [he] at e2
  obtain ⟨M, pp, e3, hr3, c1, c2, c3, c4⟩ := fr_push (x := x) (slot := slot) (gen := gen) (m := m2) (S := S) (v := ⟨2, 0, -1, slot, 2, 0, 0⟩) (e := ⟨1, 2, m.at_ (x.root + slot), 0, (rtOf (m.at_ (x.root + slot))).chunk, 2, true⟩) (w := WalkS.zero) hx hml2 hmo2 hsl hp2 hn (by show 2 ≤ 1000; omega) hs hm0 hm2 hx0
  have hrun := FrRun.append e2 hg2 hr3
  rw [← e2, frIt_add] at e3
  refine ⟨M, _, e3, hrun, rfl, rfl, rfl, rfl, rfl, rfl, rfl, c1, c2, c3, ?_, fun a h1 h2 h3 => ?_⟩
  · rw [c4 _ (by omega) (by omega), hput, if_pos rfl, rtOf_w hR]
  · rw [c4 a h1 h2, hput, if_neg (fun h => h3 h.symm)]
theorem region0s {x : Cn} (hx : x.ok) (cl : Nat) (hcl : cl ≤ 3) : Pool x.spare (crIt x.spare x.root cl 10 (CreS.init, allM x)).2 (iotaI x.sl).tail ∧ iotaI x.sl = ((0 : Nat) : Int) :: (iotaI x.sl).tail := by
  obtain ⟨b1, b2, b3, b4, b5, b6, b7⟩ := hx.b
  have hlen := hx.len_le
  have hl := allM_len x
  have hk := hx.spare (n := (allM x).ws.length) (by omega) (by omega)
  have hroot : x.root + x.sl = x.slot := by unfold Cn.root Cn.slot; omega
  have g3 : 3 ≤ x.root := by unfold Cn.root; omega
  have hsp := allM_spare hx
  have hio : iotaI x.sl = ((0 : Nat) : Int) :: (iotaI x.sl).tail := by
    have h0 := iota_get (n := x.sl) (i := 0) (by omega)
    have hl0 : (iotaI x.sl).length = x.sl := by simp [iotaI]
    cases he : iotaI x.sl with
    | nil => rw [he] at hl0; simp at hl0; omega
    | cons z l => rw [he] at h0; simp only [itI, List.getD_cons_zero] at h0; rw [h0]; rfl
  refine ⟨?_, hio⟩
  rw [hio] at hsp
  obtain ⟨C, M, e10, _, _, _, _, _, hn, hml, hmo, hp, _⟩ := cr_alone (k := x.spare) (ro := x.root) (cl := cl) (m := allM x) hk rfl (allM_ok hx) hsp (by show x.root + x.sl ≤ x.slot; omega) (by show 1 < x.root; omega) hcl
  rw [e10]
  exact hp
end
end Go.Proofs.YtflalhdofhobmaaGreat

/-
  The supplies' example.
-/
set_option linter.unusedVariables false
set_option linter.unusedSimpArgs false
namespace Go.Proofs.YtflalhdofhobmaaGreat
open Go
attribute [local irreducible] Sx Cx Rx Fx Krg Ksq Kbl Klp Kr
section
variable {L F G : St}
end
end Go.Proofs.YtflalhdofhobmaaGreat

/-
  BoundKinds' walk: no kind's bound is above Alone's, nor Alone's above Most's; with more of anything no bound is less.
-/
set_option linter.unusedVariables false
set_option linter.unusedSimpArgs false
namespace Go.Proofs.YtflalhdofhobmaaGreat
open Go
attribute [local irreducible] Sx Cx Rx Fx Krg Ksq Kbl Klp Kr
theorem ints_getD {xs : List Int} {i : Nat} {x : Int} (h : xs[i]? = some x) : (ints xs)[i]? = some (.int .i64 x) := by simp [ints, h]
section
variable {L F : St}
theorem Rd.atD {a : Option Addr} {n i : Nat} {vs : List Value} {v : Value} (h : Rd L 1 a n vs) (hv : vs[i]? = some v) : ∃ b o, a = some ⟨b, o, none⟩ ∧ Has L b (o + i) [v] := by
  obtain ⟨h1, h0 | ⟨b, o, rfl, h2⟩⟩ := h
  · have := (List.getElem?_eq_some_iff.1 hv).1; omega
  · exact ⟨b, o, rfl, h2.at_ hv⟩
/-- The next number of a row of numbers. -/
theorem seqN {q : Nat} {xs : List Int} {a : Option Addr} {n c i : Nat} {m : Int} {F : St} [t : Take L (some ⟨q, 0, none⟩) (Blk 125 [.slice a n c, .int .i64 i]) F]
    (hr : Rd L 1 a n (ints xs)) (hi : i ≤ 1000000000) (hm : 0 < m) (hm2 : m ≤ 4611686018427387904) :
    Fx Tryz.prog 68 [.pointer (some ⟨q, 0, none⟩), .int .i64 m] L (fun v L' => v = .int .i64 (xs.getD i 0 % m) ∧ L' = pt (some ⟨q, 0, none⟩) (Blk 125 [.slice a n c, .int .i64 ((i + 1 : Nat) : Int)]) :: F) := by
  have hn : n = xs.length := by have := hr.1; simp [ints] at this; omega
  refine Fx.mk Tryz.func68 k68 (Nat.le_of_ble_eq_true rfl) ?_
  dsimp only [c68, envOf, Nat.reduceAdd]
  refine go ?_
  refine Cx.calm (by kernel_rfl) ?_
  repeat' (first | (refine Cm.pvs rfl ?_) | (refine Cm.step rfl ?_) | (refine Cm.done ?_) | (refine Cm.ldb rfl rfl (by rfl) ?_) | (refine Cm.ldbs rfl rfl rfl ?_))
  refine Cx.jn (β := Unit) (fun _ => [(0, .pointer (some ⟨q, 0, none⟩)), (1, .int .i64 m), (5, .int .i64 (xs.getD i 0))]) (fun _ => L) ?_ ?_
  · refine Cx.ifp rfl (fun h => ?_) (fun h => ?_)
    · have hlt : i < xs.length := by omega
      have hg : (ints xs)[i]? = some (.int .i64 (xs.getD i 0)) := ints_getD (by simp [hlt])
      obtain ⟨b, o, rfl, hh⟩ := hr.atD hg
      refine Cx.calmK Kjn.mono (by kernel_rfl) ?_
      repeat' (first | (refine Cm.pvs rfl ?_) | (refine Cm.step rfl ?_) | (refine Cm.done ?_) | (refine Cm.ldb rfl rfl (by rfl) ?_) | (refine Cm.ldbs rfl rfl rfl ?_))
      refine Cm.pv rfl rfl ⟨by omega, by omega⟩ ?_
      refine Cm.ld rfl rfl (by simpa using hh) rfl ?_
      repeat' (first | (refine Cm.pvs rfl ?_) | (refine Cm.step rfl ?_) | (refine Cm.done ?_) | (refine Cm.ldb rfl rfl (by rfl) ?_) | (refine Cm.ldbs rfl rfl rfl ?_))
      exact Cm.nil (Kjn.nm () (sub.cons rfl (sub.cons rfl (sub.cons rfl sub.nil))) (Ent.refl _))
    · refine go ?_
      refine Kjn.nm () (sub.cons rfl (sub.cons rfl (sub.cons ?_ sub.nil))) (Ent.refl _)
      rw [show xs.getD i 0 = 0 by rw [List.getD_eq_getElem?_getD, List.getElem?_eq_none (by omega)]; rfl]
      rfl
  · rintro ⟨⟩
    refine go ?_
    rw [w64 (by omega) (by omega)]
    refine Sx.ca rfl (number _ m hm hm2) ?_
    rintro v L' ⟨rfl, rfl⟩
    refine go ?_
    exact Kr.one (.inr rfl) rfl (Ent.refl _) ⟨rfl, by simp⟩
/-- What a small configuration is. -/
def SmallC (w c wd sl ca ba : Int) : Prop := (1 ≤ w ∧ w ≤ 4) ∧ (1 ≤ c ∧ c ≤ 8) ∧ (wd = 8 ∨ wd = 16) ∧ (1 ≤ sl ∧ sl ≤ 4) ∧ (0 ≤ ca ∧ ca ≤ 3) ∧ (1 ≤ ba ∧ ba ≤ 3)
theorem config_ (n : Int) : Fx Tryz.prog 13 [.int .i64 n] L (fun v L' => (∃ w c wd sl ca ba, v = cfg w c wd sl ca ba ∧ SmallC w c wd sl ca ba) ∧ L = L') := by
  refine Fx.mk Tryz.func13 k13 (Nat.le_of_ble_eq_true rfl) ?_
  dsimp only [c13, envOf, Nat.reduceAdd]
  refine go ?_
  refine Sx.al fun g => ?_
  refine go ?_
  refine Sx.ca rfl (number n 4 (by omega) (by omega)) ?_
  rintro v L' ⟨rfl, rfl⟩
  refine go ?_
  refine Sx.pv rfl (by decide) ?_
  refine Sx.ca rfl (number _ 8 (by omega) (by omega)) ?_
  rintro v L' ⟨rfl, rfl⟩
  refine go ?_
  refine Sx.pv rfl (by decide) ?_
  refine Sx.ca rfl (number _ 2 (by omega) (by omega)) ?_
  rintro v L' ⟨rfl, rfl⟩
  refine go ?_
  refine Sx.pv rfl (by decide) ?_
  refine Sx.ca rfl (number _ 4 (by omega) (by omega)) ?_
  rintro v L' ⟨rfl, rfl⟩
  refine go ?_
  refine Sx.pv rfl (by decide) ?_
  refine Sx.ca rfl (number _ 4 (by omega) (by omega)) ?_
  rintro v L' ⟨rfl, rfl⟩
  refine go ?_
  refine Sx.pv rfl (by decide) ?_
  refine Sx.ca rfl (number _ 3 (by omega) (by omega)) ?_
  rintro v L' ⟨rfl, rfl⟩
  refine go ?_
  generalize n % 4 = x0
  generalize IntKind.i64.wrap (n.tdiv 4) % 8 = x1
  generalize IntKind.i64.wrap (n.tdiv 32) % 2 = x2
  generalize IntKind.i64.wrap (n.tdiv 64) % 4 = x3
  generalize IntKind.i64.wrap (n.tdiv 256) % 4 = x4
  generalize IntKind.i64.wrap (n.tdiv 1024) % 3 = x5
  refine Sx.bs (sz := 1) rfl rfl fun r => ?_
  refine go ?_
  refine Sx.bx rfl rfl fun q => ?_
  refine go ?_
  refine Sx.ca rfl (seqN (q := q) (xs := [x0, x1, x2, x3, x4, x5]) (i := 0) (Rd.row (b := r) (E := 3) (cap := 6) rfl) (by omega) (by omega) (by omega)) ?_
  rintro v L' ⟨rfl, rfl⟩
  refine go ?_
  refine Sx.ca rfl (seqN (q := q) (xs := [x0, x1, x2, x3, x4, x5]) (i := 1) (Rd.row (b := r) (E := 3) (cap := 6) rfl) (by omega) (by omega) (by omega)) ?_
  rintro v L' ⟨rfl, rfl⟩
  refine go ?_
  refine Sx.ca rfl (seqN (q := q) (xs := [x0, x1, x2, x3, x4, x5]) (i := 2) (Rd.row (b := r) (E := 3) (cap := 6) rfl) (by omega) (by omega) (by omega)) ?_
  rintro v L' ⟨rfl, rfl⟩
  refine go ?_
  refine Sx.ca rfl (seqN (q := q) (xs := [x0, x1, x2, x3, x4, x5]) (i := 3) (Rd.row (b := r) (E := 3) (cap := 6) rfl) (by omega) (by omega) (by omega)) ?_
  rintro v L' ⟨rfl, rfl⟩
  refine go ?_
  refine Sx.ca rfl (seqN (q := q) (xs := [x0, x1, x2, x3, x4, x5]) (i := 4) (Rd.row (b := r) (E := 3) (cap := 6) rfl) (by omega) (by omega) (by omega)) ?_
  rintro v L' ⟨rfl, rfl⟩
  refine go ?_
  refine Sx.ca rfl (seqN (q := q) (xs := [x0, x1, x2, x3, x4, x5]) (i := 5) (Rd.row (b := r) (E := 3) (cap := 6) rfl) (by omega) (by omega) (by omega)) ?_
  rintro v L' ⟨rfl, rfl⟩
  refine go ?_
  refine Sx.st (b := g) rfl rfl rfl rfl rfl rfl ?_
  dsimp only [lay]
  refine go ?_
  refine Kr_cell (b := g) (.inr rfl) rfl rfl (L' := L) ?_ ⟨⟨_, _, _, _, _, _, rfl, ?_⟩, rfl⟩
  · exact ent
  · have h0 := Int.emod_nonneg x0 (show (4 : Int) ≠ 0 by omega)
    have h0' := Int.emod_lt_of_pos x0 (show (0 : Int) < 4 by omega)
    have h1 := Int.emod_nonneg x1 (show (8 : Int) ≠ 0 by omega)
    have h1' := Int.emod_lt_of_pos x1 (show (0 : Int) < 8 by omega)
    have h2 := Int.emod_nonneg x2 (show (2 : Int) ≠ 0 by omega)
    have h2' := Int.emod_lt_of_pos x2 (show (0 : Int) < 2 by omega)
    have h3 := Int.emod_nonneg x3 (show (4 : Int) ≠ 0 by omega)
    have h3' := Int.emod_lt_of_pos x3 (show (0 : Int) < 4 by omega)
    have h4 := Int.emod_nonneg x4 (show (4 : Int) ≠ 0 by omega)
    have h4' := Int.emod_lt_of_pos x4 (show (0 : Int) < 4 by omega)
    have h5 := Int.emod_nonneg x5 (show (3 : Int) ≠ 0 by omega)
    have h5' := Int.emod_lt_of_pos x5 (show (0 : Int) < 3 by omega)
    simp only [List.getD_cons_zero, List.getD_cons_succ]
    rw [w64 (n := 1 + x0 % 4) (by omega) (by omega), w64 (n := 1 + x1 % 8) (by omega) (by omega), w64 (n := 8 * (x2 % 2)) (by omega) (by omega), w64 (n := 8 + 8 * (x2 % 2)) (by omega) (by omega), w64 (n := 1 + x3 % 4) (by omega) (by omega), w64 (n := 1 + x5 % 3) (by omega) (by omega)]
    unfold SmallC
    omega
end
end Go.Proofs.YtflalhdofhobmaaGreat

/-
  SupplyAll's walk.
-/
set_option linter.unusedVariables false
set_option linter.unusedSimpArgs false
namespace Go.Proofs.YtflalhdofhobmaaGreat
open Go
attribute [local irreducible] Sx Cx Rx Fx Krg Ksq Kbl Klp Kr
theorem small_cfg {w c wd sl ca ba : Int} (h : SmallC w c wd sl ca ba) : ∃ x : Cn, cfg w c wd sl ca ba = x.v ∧ x.ok ∧ x.ca ≤ 3 ∧ x.c ≤ 8 ∧ x.ba ≤ 3 ∧ x.w ≤ 4 := by
  unfold SmallC at h
  refine ⟨⟨w.toNat, c.toNat, wd.toNat, sl.toNat, ca.toNat, ba.toNat⟩, ?_, ?_, ?_⟩
  · simp only [Cn.v]
    rw [Int.toNat_of_nonneg (by omega), Int.toNat_of_nonneg (by omega), Int.toNat_of_nonneg (by omega), Int.toNat_of_nonneg (by omega), Int.toNat_of_nonneg (by omega), Int.toNat_of_nonneg (by omega)]
  · unfold Cn.ok MayC
    simp only
    rw [Int.toNat_of_nonneg (by omega), Int.toNat_of_nonneg (by omega), Int.toNat_of_nonneg (by omega), Int.toNat_of_nonneg (by omega), Int.toNat_of_nonneg (by omega), Int.toNat_of_nonneg (by omega)]
    rw [Int.tmod_eq_emod_of_nonneg (by omega)]
    omega
  · simp only; omega
/-- What is taken goes. -/
theorem TakeR.perm {ba : Int} {s s' : SupS} {l l' : List Int} {ch : Int} {is_ : Bool} {N : Nat} (h1 : 1 ≤ ba) (h : TakeR ba s l ch is_ N s' l') (hn : s.xs ++ l ≠ []) : is_ = true ∧ (s.xs ++ l).Perm (ch :: (s'.xs ++ l')) := by
  rcases h with ⟨hx, rfl, rfl, _, rfl, rfl⟩ | ⟨hx, hl, c, hc, rfl, rfl, _, rfl, rfl⟩ | ⟨hx, hl, _⟩
  · refine ⟨rfl, ?_⟩
    have e : s.xs = s.xs.dropLast ++ [lastI s.xs] := by
      unfold lastI
      rw [List.getLastD_eq_getLast?, List.getLast?_eq_some_getLast hx]
      exact (List.dropLast_concat_getLast hx).symm
    have : (s.xs.dropLast ++ [lastI s.xs] ++ l').Perm (lastI s.xs :: (s.xs.dropLast ++ l')) := by
      rw [List.append_assoc]
      exact List.perm_middle
    rw [← e] at this
    exact this
  · refine ⟨rfl, ?_⟩
    obtain ⟨y, l2, rfl⟩ := List.exists_cons_of_ne_nil hl
    obtain ⟨c, rfl⟩ : ∃ d, c = d + 1 := ⟨c - 1, by simp at hc; omega⟩
    have : (s.give (List.take (c + 1) (y :: l2)).tail).xs ++ List.drop (c + 1) (y :: l2) = l2 := by
      simp [SupS.give, hx]
    rw [this, hx]
    exact List.Perm.refl _
  · rw [hx, hl] at hn; exact absurd rfl hn
/-- What is known while one alone takes all. -/
def AllP (x : Cn) (i : Nat) (s : SupS) (m : Mm) (l : List Int) (sn : List Bool) : Prop :=
  s.most = (SupS.nil x.ca).most ∧ s.lm = Lm.nil ∧ m.ws.length = x.len ∧ Pool x.pool m l ∧ (s.xs ++ l).Nodup ∧ (∀ y ∈ s.xs ++ l, 0 ≤ y ∧ y < (x.c : Int)) ∧ i + (s.xs ++ l).length = x.c ∧ sn.length = x.c ∧ (∀ y ∈ s.xs ++ l, sn[y.toNat]? = some false)
theorem AllP.step {x : Cn} {i : Nat} {s s' : SupS} {m m' : Mm} {l l' : List Int} {sn : List Bool} {ch : Int} {is_ : Bool} {N : Nat} (h1 : 1 ≤ (x.ba : Int)) (h8 : (x.ba : Int) ≤ 8) (h : AllP x i s m l sn) (hi : i < x.c) (ht : TakeR x.ba s l ch is_ N s' l')
    (hl : m'.ws.length = x.len) (hp : Pool x.pool m' l') : is_ = true ∧ (0 ≤ ch ∧ ch < (x.c : Int)) ∧ sn[ch.toNat]? = some false ∧ AllP x (i + 1) s' m' l' (sn.set ch.toNat true) := by
  obtain ⟨a1, a2, a3, a4, a5, a6, a7, a8, a9⟩ := h
  obtain ⟨hi1, hpm⟩ := ht.perm h1 (by intro e; rw [e] at a7; simp at a7; omega)
  obtain ⟨_, z2, z3⟩ := ht.size h8
  have hmem : ch ∈ s.xs ++ l := hpm.mem_iff.2 (by simp)
  have hnd := hpm.nodup_iff.1 a5
  rw [List.nodup_cons] at hnd
  have hsub : ∀ y ∈ s'.xs ++ l', y ∈ s.xs ++ l := fun y hy => hpm.mem_iff.2 (List.mem_cons_of_mem _ hy)
  have hlen := hpm.length_eq
  rw [List.length_cons] at hlen
  refine ⟨hi1, a6 _ hmem, a9 _ hmem, z3.trans a1, z2.trans a2, hl, hp, hnd.2, fun y hy => a6 y (hsub y hy), by omega, by rw [List.length_set]; exact a8, fun y hy => ?_⟩
  have h2 := a6 y (hsub y hy)
  have h3 := a6 _ hmem
  rw [List.getElem?_set_ne (fun e => hnd.1 (by rw [show ch = y by omega]; exact hy))]
  exact a9 y (hsub y hy)
theorem iotaI_len (n : Nat) : (iotaI n).length = n := by simp [iotaI]
section
variable {L F G : St}
end
end Go.Proofs.YtflalhdofhobmaaGreat

/-
  GrantArgs' walk.
-/
set_option linter.unusedVariables false
set_option linter.unusedSimpArgs false
namespace Go.Proofs.YtflalhdofhobmaaGreat
open Go
attribute [local irreducible] Sx Cx Rx Fx Krg Ksq Kbl Klp Kr
section
variable {L F G : St}
theorem Cn.ok.w8 {x : Cn} (h : x.ok) : x.wd % 8 = 0 := by
  obtain ⟨_, _, _, b4, _⟩ := show MayC (x.w : Int) x.c x.wd x.sl x.ca x.ba from h
  rw [show (8 : Int) = ((8 : Nat) : Int) from rfl, natTmod] at b4
  omega
end
end Go.Proofs.YtflalhdofhobmaaGreat

/-
  ending's statements: the chapter's example; EndingNone's walk.
-/
set_option linter.unusedVariables false
set_option linter.unusedSimpArgs false
namespace Go.Proofs.YtflalhdofhobmaaGreat
open Go
attribute [local irreducible] Sx Cx Rx Fx Krg Ksq Kbl Klp Kr
section
variable {L F G : St}
theorem rootsSpare {g mp sb : Nat} {x : Cn} {m : Mm} (hx : x.ok) (hl : x.len ≤ m.ws.length) (hl2 : m.ws.length ≤ 8388608) [t : Take L (some ⟨mp, 0, none⟩) (MemO m) F] [s : Take F (some ⟨sb, 0, none⟩) (SkO mp x.spare) G] {H : St} [c : Take L (some ⟨g, 0, none⟩) (RoO mp sb x) H] :
    Fx Tryz.prog 53 [.pointer (some ⟨g, 0, none⟩)] L (fun v L' => ∃ ro co, v = .slice ro (listK x.spare m).length co ∧ L' = pt ro (Row 3 1 (listK x.spare m).length co (ints (listK x.spare m))) :: L) := by
  refine Fx.mk Tryz.func53 k53 (Nat.le_of_ble_eq_true rfl) ?_
  dsimp only [c53, envOf, Nat.reduceAdd]
  refine go ?_
  refine Sx.ca rfl (stackList (sb := sb) (mp := mp) (k := x.spare) (m := m) (hx.spare (n := m.ws.length) hl hl2)) ?_
  rintro v L' ⟨ro, co, rfl, rfl⟩
  refine go ?_
  exact Kr.one (.inr rfl) rfl (Ent.refl _) ⟨ro, co, rfl, rfl⟩
theorem ehF_out {P : As} {x : Cn} {n : Hn} {e : He} {r r2 : Option Addr} {k c c2 : Nat} {Q : Nat → Who} {S S2 : Nat → SupS} {m m2 : Mm} : Ent (ehF x n e r r2 k c c2 Q S S2 m m2 (P :: G)) (P :: ehF x n e r r2 k c c2 Q S S2 m m2 G) := by
  dsimp only [ehF]
  iterate 18 (refine Ent.trans (Ent.cons ?_) Ent.swap)
  exact Ent.deep (N := many k _) (M := [P]) (G := G)
set_option maxHeartbeats 4000000 in
theorem enFirst : Fx Tryz.prog 45 [] L (fun v L' => v = .bool true ∧ L = L') := by
  refine Fx.mk Tryz.func45 k45 (Nat.le_of_ble_eq_true rfl) ?_
  dsimp only [c45, envOf, Nat.reduceAdd]
  have hx : (⟨1, 1, 8, 1, 0, 1⟩ : Cn).ok := by unfold Cn.ok MayC; decide
  obtain ⟨x, hxe⟩ : ∃ x, x = (⟨1, 1, 8, 1, 0, 1⟩ : Cn) := ⟨_, rfl⟩
  have hca : x.ca = 0 := by rw [hxe]
  have hsl : x.sl = 1 := by rw [hxe]
  rw [← hxe] at hx
  have hlen := hx.len_le
  obtain ⟨M, hM, hn, hml, hmo, hpo, hrt, hoth, hsp, hgen⟩ := region0 hx 0 (by omega)
  obtain ⟨hps, hio⟩ := region0s hx 0 (by omega)
  rw [hM] at hps
  have hnd := hsp.nd
  rw [List.nodup_cons] at hnd
  have hmost : (SupS.nil x.ca).most = 0 := by rw [hca]; rfl
  obtain ⟨M2, A, e5, hrun, a1, a2, a3, a4, a5, a6, _, c1, c2, c3, _⟩ := fr_bare (x := x) (slot := 0) (gen := 1) (m := M) (S := SupS.nil x.ca) hx hml hmo (by omega) hps hnd.1 (by show 0 + 0 ≤ 1000; omega) (by omega) (by omega) (by rw [hmost]; show ((0 : Nat) : Int) ≤ 0; omega) (by rw [hrt]; exact ⟨by show 1 ≤ 1; omega, rfl⟩) (by rw [hrt])
  refine go ?_
  refine Sx.ca (vs := [x.v]) (by rw [hxe]; rfl) (enMade hx) ?_
  rintro v L' ⟨n, e, r, r2, c, c2', Q, rfl, rfl⟩
  refine go ?_
  refine Sx.ent (M := rhF x n e (some ⟨r, 0, none⟩) (some ⟨r2, 0, none⟩) 3 c c2' (allM x) (pt (some ⟨r, 0, none⟩) (Row 47 1 3 c (ptrs 3 fun i => (Q i).u)) :: pt (some ⟨(Q 0).u, 0, none⟩) (SupO n.mp (Q 0).pb x (SupS.nil x.ca)) :: pt (some ⟨(Q 0).pb, 0, none⟩) (SkO n.mp x.pool) ::
      pt (some ⟨e.eo, 0, none⟩) (EnO n.mp e.ro e.ch) :: pt (some ⟨e.ro, 0, none⟩) (RoO n.mp e.sp x) :: pt (some ⟨e.sp, 0, none⟩) (SkO n.mp x.spare) :: pt (some ⟨e.ch, 0, none⟩) (ChO n.mp e.pb x) :: L)) ?_ ?_
  · dsimp only [ehF, rhF]
    refine Ent.trans (Ent.ith 0 (by omega)) ?_
    simp only [whoL, List.cons_append, List.nil_append]
    exact entm
  refine Sx.ca rfl (enRegion0 (x := x) (n := n) (e := e) (m := allM x) (s := 0) (l := (iotaI x.sl).tail) 0 1 hx (allM_len x) (allM_ok hx) hsp) ?_
  rintro v L' ⟨rfl, rfl⟩
  rw [hM, hgen]
  refine go ?_
  have ga := enFrees (x := x) (n := n) (e := e) (r := r) (r2 := some ⟨r2, 0, none⟩) (k := 3) (c := c) (c2 := c2') (Q := Q) (i := 0) (S := SupS.nil x.ca) (m := M) (slot := 0) (gen := 1) (G := pt (some ⟨n.ro, 0, none⟩) (RoO n.mp n.sp x) :: pt (some ⟨n.sp, 0, none⟩) (SkO n.mp x.spare) :: L) 5 (by omega) (by omega) (by omega) hx (by omega) hrun
  rw [e5] at ga
  refine Sx.ent ?_ (Sx.ca rfl ga ?_)
  · dsimp only [rhF, fgF]
    exact entm
  rintro v L' ⟨b, rfl, rfl⟩
  dsimp only [fgF]
  refine go ?_
  refine Sx.ca rfl (frDoneY (b := b) (h := frH n e Q 0) (x := x) (slot := 0) (gen := 1) (s := A) a1) ?_
  rintro v L' ⟨rfl, rfl⟩
  refine go ?_
  refine Sx.ca rfl (frCodeD (b := b) (h := frH n e Q 0) (x := x) (slot := 0) (gen := 1) (s := A) a1) ?_
  rintro v L' ⟨rfl, rfl⟩
  rw [a4]
  refine go ?_
  refine Sx.ca rfl (frPointD (b := b) (h := frH n e Q 0) (x := x) (slot := 0) (gen := 1) (s := A) a1) ?_
  rintro v L' ⟨rfl, rfl⟩
  rw [a5]
  refine go ?_
  refine Sx.ca rfl (frBackD (b := b) (h := frH n e Q 0) (x := x) (slot := 0) (gen := 1) (s := A) a1) ?_
  rintro v L' ⟨rfl, rfl⟩
  rw [a6]
  refine go ?_
  refine Sx.ca rfl (rootsSpare (g := n.ro) (mp := n.mp) (sb := n.sp) (x := x) (m := M2) hx (by omega) (by omega)) ?_
  rw [list_pool c3, ← hio, iotaI_len, hsl]
  rintro v L' ⟨ro, co, rfl, rfl⟩
  refine go ?_
  refine Kr.one (.inr rfl) rfl ?_ ⟨rfl, rfl⟩
  exact entm
end
end Go.Proofs.YtflalhdofhobmaaGreat

/-
  EndingNone's walk.
-/
set_option linter.unusedVariables false
set_option linter.unusedSimpArgs false
namespace Go.Proofs.YtflalhdofhobmaaGreat
open Go
attribute [local irreducible] Sx Cx Rx Fx Krg Ksq Kbl Klp Kr
section
variable {L F G : St}
set_option maxRecDepth 100000 in
set_option maxHeartbeats 8000000 in
theorem endingNone (n slot gen : Int) : Fx Tryz.prog 8 [.int .i64 n, .int .i64 slot, .int .i64 gen] L (fun v L' => v = .bool true ∧ Ent L' L) := by
  refine Fx.mk Tryz.func8 k8 (Nat.le_of_ble_eq_true rfl) ?_
  dsimp only [c8, envOf, Nat.reduceAdd]
  refine go ?_
  refine Sx.ca rfl enFirst ?_
  rintro v L' ⟨rfl, rfl⟩
  refine go ?_
  refine Sx.ca rfl (config_ n) ?_
  rintro v L' ⟨⟨w, c, wd, sl, ca, ba, rfl, hsm⟩, rfl⟩
  obtain ⟨x, hxv, hx, hca, hc8, hba, hw4⟩ := small_cfg hsm
  rw [hxv]
  clear hxv hsm
  clear w c wd sl ca ba
  have hx' := hx
  obtain ⟨b1, b2, b3, b4, b5, b6, b7⟩ := hx'.b
  have hlen := hx.len_le
  have hl4 : 4 ≤ x.len := by unfold Cn.len; omega
  have hw8 := hx.w8
  refine Sx.al fun gb => ?_
  refine Sx.st (b := gb) rfl rfl rfl rfl rfl rfl ?_
  refine Sx.re [.int .i64 x.w, .int .i64 x.c, .int .i64 x.wd, .int .i64 x.sl, .int .i64 x.ca, .int .i64 x.ba] rfl ?_
  refine go ?_
  dsimp only [List.take, List.drop]
  refine Sx.ca (vs := [x.v]) (by rfl) (enMade hx) ?_
  rintro v L' ⟨nn, e, r, r2, c, c2, Q, rfl, rfl⟩
  refine Sx.ent ehF_out ?_
  dsimp only [ehF]
  refine go ?_
  refine Sx.ca rfl (layLen (x.w : Int) x.c x.wd x.sl x.ca x.ba hx) ?_
  rintro v L' ⟨rfl, rfl⟩
  rw [x.lenC]
  refine go ?_
  rw [w64 (n := (x.len : Int) - 1) (by omega) (by omega)]
  refine Sx.ca rfl (number gen ((x.len : Int) - 1) (by omega) (by omega)) ?_
  rintro v L' ⟨rfl, rfl⟩
  have hq1 := Int.emod_nonneg gen (show (x.len : Int) - 1 ≠ 0 by omega)
  have hq2 := Int.emod_lt_of_pos gen (show (0 : Int) < (x.len : Int) - 1 by omega)
  refine go ?_
  rw [w64 (n := 1 + gen % ((x.len : Int) - 1)) (by omega) (by omega)]
  obtain ⟨sz, hsz⟩ : ∃ sz : Nat, 1 + gen % ((x.len : Int) - 1) = sz := ⟨(1 + gen % ((x.len : Int) - 1)).toNat, by omega⟩
  rw [hsz]
  refine Sx.ca rfl (cellsNew sz (by omega) (by omega)) ?_
  rintro v L' ⟨ms, rfl, rfl⟩
  refine go ?_
  refine Sx.ca rfl (endingNewSmall (mp := ms) (m := ⟨List.replicate sz 0, 0⟩) hx (by simp; omega)) ?_
  rintro v L' ⟨rfl, rfl⟩
  refine go ?_
  refine Cx.ordc rfl (by kernel_rfl) ?_
  refine ge ?_
  refine Ev.cakH (by kernel_rfl) rfl rfl (number slot 1000 (by omega) (by omega)) ?_
  refine ge ?_
  have hs1 := Int.emod_nonneg slot (show (1000 : Int) ≠ 0 by omega)
  have hs2 := Int.emod_lt_of_pos slot (show (0 : Int) < 1000 by omega)
  rw [w64 (n := (x.sl : Int) + slot % 1000) (by omega) (by omega)]
  refine go ?_
  refine Sx.ca rfl (number slot 2 (by omega) (by omega)) ?_
  rintro v L' ⟨rfl, rfl⟩
  refine go ?_
  refine Cx.jn (β := {at_ : Int // at_ < 0 ∨ (x.sl : Int) ≤ at_}) (fun at_ => [(1, .int .i64 slot), (2, .int .i64 gen), (7, .bool true), (8, .pointer (some ⟨gb, 0, none⟩)), (9, .pointer (some ⟨nn.a, 0, none⟩)), (12, .pointer none), (13, .int .i64 1), (14, .int .i64 at_.1)])
    (fun _ => pt (some ⟨gb, 0, none⟩) (Blk 24 [.int .i64 x.w, .int .i64 x.c, .int .i64 x.wd, .int .i64 x.sl, .int .i64 x.ca, .int .i64 x.ba]) :: ehF x nn e (some ⟨r, 0, none⟩) (some ⟨r2, 0, none⟩) 3 c c2 Q (fun _ => SupS.nil x.ca) (fun _ => SupS.nil x.ca) (allM x) (allM x) L) ?_ ?_
  · refine Cx.ifp rfl (fun h => ?_) (fun h => ?_)
    · refine go ?_
      refine Sx.ca rfl (number slot 1000 (by omega) (by omega)) ?_
      rintro v L' ⟨rfl, rfl⟩
      refine go ?_
      rw [w64 (n := -1 - slot % 1000) (by omega) (by omega)]
      refine Kjn.nm ⟨-1 - slot % 1000, by omega⟩ (sub.cons rfl (sub.cons rfl (sub.cons rfl (sub.cons rfl (sub.cons rfl (sub.cons rfl (sub.cons rfl (sub.cons rfl sub.nil)))))))) ?_
      exact entm
    · refine go ?_
      refine Kjn.nm ⟨(x.sl : Int) + slot % 1000, by omega⟩ (sub.cons rfl (sub.cons rfl (sub.cons rfl (sub.cons rfl (sub.cons rfl (sub.cons rfl (sub.cons rfl (sub.cons rfl sub.nil)))))))) ?_
      exact entm
  rintro ⟨ad, had⟩
  dsimp only [ehF]
  refine go ?_
  refine Cx.ordc rfl (by kernel_rfl) ?_
  refine ge ?_
  refine Ev.ldrH (b := r) (v := .pointer (some ⟨(Q 0).u, 0, none⟩)) (by kernel_rfl) rfl rfl (ptrs_get (U := fun i => (Q i).u) (show 0 < 3 by omega)) ?_
  refine ge ?_
  refine Ev.cakH (by kernel_rfl) rfl rfl (endsFreeNo (mp := nn.mp) (ro := e.ro) (sp := e.sp) (ch := e.ch) (eo := e.eo) (x := x) ad 1 (by omega)) ?_
  refine ge ?_
  refine go ?_
  refine Sx.ca rfl (number slot (x.sl : Int) (by omega) (by omega)) ?_
  rintro v L' ⟨rfl, rfl⟩
  have hq3 := Int.emod_nonneg slot (show (x.sl : Int) ≠ 0 by omega)
  have hq4 := Int.emod_lt_of_pos slot (show (0 : Int) < (x.sl : Int) by omega)
  obtain ⟨s0, hs0⟩ : ∃ s0 : Nat, slot % (x.sl : Int) = s0 := ⟨(slot % (x.sl : Int)).toNat, by omega⟩
  rw [hs0]
  have h0 : (allM x).at_ (x.root + s0) = 0 := allM_at hx (by unfold Cn.root; omega) (by unfold Cn.root; omega) (by unfold Cn.root Cn.slot; omega) (by unfold Cn.root Cn.link; omega)
  have hmost : (SupS.nil x.ca).most = min (max (x.ca : Int) 0) 64 := rfl
  obtain ⟨e1, hrun⟩ := fr_stale (x := x) (slot := s0) (gen := gen) (m := allM x) (S := SupS.nil x.ca) (allM_len x) (allM_ok hx) (by show 0 + 0 ≤ 1000; omega) (by omega) (by omega) (by rw [h0]; intro hh; have := hh.1; exact absurd this (by decide))
  refine go ?_
  have ga := enFrees (x := x) (n := nn) (e := e) (r := r) (r2 := some ⟨r2, 0, none⟩) (k := 3) (c := c) (c2 := c2) (Q := Q) (i := 0) (S := SupS.nil x.ca) (m := allM x) (slot := s0) (gen := gen) (G := pt (some ⟨gb, 0, none⟩) (Blk 24 [.int .i64 x.w, .int .i64 x.c, .int .i64 x.wd, .int .i64 x.sl, .int .i64 x.ca, .int .i64 x.ba]) :: pt (some ⟨nn.ro, 0, none⟩) (RoO nn.mp nn.sp x) :: pt (some ⟨nn.sp, 0, none⟩) (SkO nn.mp x.spare) :: pt (some ⟨nn.pb, 0, none⟩) (SkO nn.mp x.pool) :: L) 1 (by omega) (by omega) (by omega) hx (by omega) hrun
  rw [e1] at ga
  refine Sx.ent ?_ (Sx.ca rfl ga ?_)
  · dsimp only [fgF]
    refine Ent.trans (Ent.ith 0 (by omega)) ?_
    simp only [whoL, List.cons_append, List.nil_append]
    exact entm
  rintro v L' ⟨b, rfl, rfl⟩
  dsimp only [fgF]
  obtain ⟨A, hA⟩ : ∃ A : FrS, A = ⟨0, ⟨1, 0, -1, -1, 1, 0, 3⟩, ⟨0, 1, (allM x).at_ (x.root + s0), 3, -1, 1, true⟩, WalkS.zero, gNone, gNone, true⟩ := ⟨_, rfl⟩
  rw [← hA]
  have a1 : A.done = true := by rw [hA]
  have a2 : A.v.code = 3 := by rw [hA]
  have a3 : A.v.point = 1 := by rw [hA]
  have a4 : A.v.back = 0 := by rw [hA]
  have hlt := allM_len x
  have hps : Pool x.spare (allM x).tick (iotaI x.sl) := ⟨(allM_spare hx).c.congr fun _ _ => rfl, (allM_spare hx).nd⟩
  have hpp : Pool x.pool (allM x).tick (iotaI x.c) := ⟨(allM_pool hx).c.congr fun _ _ => rfl, (allM_pool hx).nd⟩
  refine go ?_
  refine Cx.ordc rfl (by kernel_rfl) ?_
  refine ge ?_
  refine Ev.yes 89 rfl rfl ?_
  refine ge ?_
  refine Ev.cakH (by kernel_rfl) rfl rfl (frCodeD (b := b) (h := frH nn e Q 0) (x := x) (slot := s0) (gen := gen) (s := A) a1) ?_
  rw [a2]
  refine ge ?_
  refine Ev.cakH (by kernel_rfl) rfl rfl (frPointD (b := b) (h := frH nn e Q 0) (x := x) (slot := s0) (gen := gen) (s := A) a1) ?_
  rw [a3]
  refine ge ?_
  refine Ev.cakH (by kernel_rfl) rfl rfl (frBackD (b := b) (h := frH nn e Q 0) (x := x) (slot := s0) (gen := gen) (s := A) a1) ?_
  rw [a4]
  refine ge ?_
  iterate 2 (refine Ev.bring 2 rfl ?_; refine ge ?_)
  refine Ev.caH (by kernel_rfl) rfl rfl (rootsSpare (g := nn.ro) (mp := nn.mp) (sb := nn.sp) (x := x) (m := (allM x).tick) hx (by show x.len ≤ (allM x).ws.length; omega) (by show (allM x).ws.length ≤ _; omega)) (.keep (fun v L' ⟨_, _, _, e⟩ => by subst e; exact Has.cell rfl) (Pres.deps (by kernel_rfl))) ?_
  rw [list_pool hps, iotaI_len]
  rintro v L' ⟨ro, co, rfl, rfl⟩
  refine ge ?_
  refine Ev.yes 139 rfl (by simp) ?_
  refine ge ?_
  iterate 2 (refine Ev.bring 2 rfl ?_; refine ge ?_)
  refine Ev.caH (by kernel_rfl) rfl rfl (stackList (sb := nn.pb) (mp := nn.mp) (k := x.pool) (m := (allM x).tick) (hx.pool (by show x.len ≤ (allM x).ws.length; omega) (by show (allM x).ws.length ≤ _; omega))) (.keep (fun v L' ⟨_, _, _, e⟩ => by subst e; exact Has.cell rfl) (Pres.deps (by kernel_rfl))) ?_
  rw [list_pool hpp, iotaI_len]
  rintro v L' ⟨ro2, co2, rfl, rfl⟩
  refine ge ?_
  refine go ?_
  refine Kr.one (.inr rfl) rfl (Ent.refl _) ⟨by simp, ?_⟩
  exact entm
end
end Go.Proofs.YtflalhdofhobmaaGreat
