/-
  Parts of the proof, merged: what the statement leans on.
-/
import Derived.Test.YtflalhdofhobmaaGreatZHiD
set_option linter.unusedVariables false
set_option linter.unusedSimpArgs false

namespace Go.Proofs.YtflalhdofhobmaaGreat
section
open Go
attribute [local irreducible] Sx Cx Rx Fx Krg Ksq Kbl Klp Kr
section
variable {L F : St}
theorem RTag.put_0 {m : Lm} {u0 u1 u2 l tag : Int} {xs : List Int} (h : RTag m u0 u1 u2 l) : RTag { m.put 0 tag xs with last := tag } tag u1 u2 tag := ⟨fun _ => rfl, h.h1, h.h2, .inl rfl⟩
theorem RTag.put_1 {m : Lm} {u0 u1 u2 l tag : Int} {xs : List Int} (h : RTag m u0 u1 u2 l) : RTag { m.put 1 tag xs with last := tag } u0 tag u2 tag := ⟨h.h0, fun _ => rfl, h.h2, .inl rfl⟩
theorem RTag.put_2 {m : Lm} {u0 u1 u2 l tag : Int} {xs : List Int} (h : RTag m u0 u1 u2 l) : RTag { m.put 2 tag xs with last := tag } u0 u1 tag tag := ⟨h.h0, h.h1, fun _ => rfl, .inl rfl⟩
set_option maxHeartbeats 4000000 in
theorem refRetire {b : Nat} {m : Lm} {tag : Int} {ys : List Int} {ya : OA} {n c : Nat} {F : St} [t : Take L (ad b) (RLimboO m) F] (hr : Rd F 1 ya n (ints ys)) (hb : m.size + n ≤ 1000000000) :
  FX 194 [zp b, ii tag, .slice ya n c] L (fun v L' =>
   (refused m tag ys ∧ v = .tuple #[.slice none 0 0, .bool false] ∧ L' = pt (ad b) (RLimboO m) :: F) ∨
   (¬ refused m tag ys ∧ ∃ ro co, v = .tuple #[.slice ro (outM m tag).length co, .bool true] ∧ L' = pt ro (Row 3 1 (outM m tag).length co (ints (outM m tag))) :: pt (ad b) (RLimboO (retireM m tag ys)) :: F)) := by
 have hn : n = ys.length := by have := hr.1; simp [ints] at this; omega
 have hy0 : (n : Int) = 0 ↔ ys = [] := by rw [← List.length_eq_zero_iff]; omega
 unfold Lm.size at hb
 refine Fm Tryz.func194 k194 ?_
 dsimp only [c194, eL]
 refine Xo (t := t) rfl ?_
 rintro ⟨⟨⟨r0, c0⟩, ⟨r1, c1⟩, ⟨r2, c2⟩⟩, ⟨u0, u1, u2, l⟩⟩
 simp only [refL, lc, ln]
 refine Cx.liftp fun hT => ?_
 refine Cx.rowkey (a := r0) fun hx0 hn0 _ hk0 => ?_
 refine Cx.rowkey (a := r1) fun hx1 hn1 _ hk1 => ?_
 refine Cx.rowkey (a := r2) fun hx2 hn2 _ hk2 => ?_
 have hl := hT.hl
 refine go ?_
 refine Sx.ifp rfl (fun h1 => ?_) (fun h1 => ?_)
 ·refine go ?_
  exact Kr.two (.inr rfl) rfl rfl (RLimboO.close (a := ad b) (r0 := r0) (r1 := r1) (r2 := r2) m hT rfl rfl rfl rfl rfl rfl rfl rfl rfl rfl) (.inl ⟨.inl (hy0.1 h1), rfl, rfl⟩)
 refine go ?_
 refine Sx.ifp rfl (fun h2 => ?_) (fun h2 => ?_)
 ·refine go ?_
  exact Kr.two (.inr rfl) rfl rfl (RLimboO.close (a := ad b) (r0 := r0) (r1 := r1) (r2 := r2) m hT rfl rfl rfl rfl rfl rfl rfl rfl rfl rfl) (.inl ⟨.inr (.inl h2), rfl, rfl⟩)
 refine go ?_
 refine Sx.ifp rfl (fun h3 => ?_) (fun h3 => ?_)
 ·refine go ?_
  exact Kr.two (.inr rfl) rfl rfl (RLimboO.close (a := ad b) (r0 := r0) (r1 := r1) (r2 := r2) m hT rfl rfl rfl rfl rfl rfl rfl rfl rfl rfl) (.inl ⟨.inr (.inr (.inl h3)), rfl, rfl⟩)
 refine go ?_
 refine Cx.cd rfl (fun h4 => ?_) (fun h4 => ?_)
 ·have h4' : tag < l := by simpa [pick] using h4
  refine go ?_
  exact Kr.two (.inr rfl) rfl rfl (RLimboO.close (a := ad b) (r0 := r0) (r1 := r1) (r2 := r2) m hT rfl rfl rfl rfl rfl rfl rfl rfl rfl rfl) (.inl ⟨.inr (.inr (.inr (by omega))), rfl, rfl⟩)
 have h4' : ¬ tag < l := by simpa [pick] using h4
 have hnr : ¬ refused m tag ys := by
  rintro (h | h | h | h)
  ·exact h1 (hy0.2 h)
  ·exact h2 h
  ·exact h3 h
  ·omega
 have hmod : tag.tmod 3 = (bucketOf tag : Int) := by
  unfold bucketOf
  rw [Int.tmod_eq_emod]
  split <;> omega
 refine go ?_
 refine Sv rfl (by decide) ?_
 rw [hmod]
 have hlt : bucketOf tag < 3 := Nat.mod_lt _ (by omega)
 have hout : outM m tag = if m.tag (bucketOf tag) < tag then m.items (bucketOf tag) else [] := rfl
 have hret : retireM m tag ys = { m.put (bucketOf tag) tag ((if m.tag (bucketOf tag) < tag then [] else m.items (bucketOf tag)) ++ ys) with last := tag } := rfl
 rw [hout, hret]
 generalize bucketOf tag = k at hlt ⊢
 rcases (show k = 0 ∨ k = 1 ∨ k = 2 by omega) with rfl | rfl | rfl
 ·refine gg ?_
  have hti : m.tag 0 = m.t0 := rfl
  have hit : m.items 0 = m.x0 := rfl
  refine Sx.ifp rfl (fun h5 => ?_) (fun h5 => ?_)
  ·have hne : m.x0 ≠ [] := fun e => by rw [e] at h5; exact absurd h5 (by decide)
   have hu := hT.h0 hne
   refine gg ?_
   refine Xi rfl (fun h6 => ?_) (fun h6 => ?_)
   ·refine gg ?_
    refine Xd rfl kr_ (ge ?_)
    refine Ev.pass 4 rfl kr_ ?_
    refine Ev.bring 2 rfl (ge ?_)
    refine Ev.apnH kr_ rfl rfl rfl (Rd.nil _ _ _) rfl (by simp [maxLen]; try omega) (by omega) (Pd kr_) fun ra ca hc _ => (ge ?_)
    refine Ev.apH (ra := ra) kr_ rfl rfl rfl (hr.ent (by repeat (first | exact Er _ | (refine Et Ed ?_)))) (ones_ints _) (by simp [maxLen]; omega) (by omega) (Pd kr_) fun rb cb hc2 _ => (ge ?_)
    refine Es (b := b) kr_ rfl rfl rfl rfl rfl (by rfl) rfl (Pd kr_) (ge ?_)
    refine go ?_
    have h7 : m.t0 < tag := by omega
    rw [hti, hit, if_pos h7, if_pos h7]
    refine Kr.two (.inr rfl) rfl rfl ?_ (.inr ⟨hnr, r0, c0, rfl, rfl⟩)
    refine Et (RLimboO.close (a := ad b) (r0 := rb) (r1 := r1) (r2 := r2) { m.put 0 tag ([] ++ ys) with last := tag } hT.put_0 rfl rfl rfl rfl (by simp [Lm.put, Lm.items]; omega) rfl rfl (by simp [Lm.put, Lm.items, ints_append]) rfl rfl) ?_
    exact ent
   ·refine gg ?_
    refine Xd rfl kr_ (ge ?_)
    refine Ev.pass 4 rfl kr_ ?_
    refine Ev.bring 2 rfl (ge ?_)
    refine Ev.apnH kr_ rfl rfl rfl (Rd.any (a := r0) hx0 (hk0.imp (fun h => h.2.1) id)) (ones_ints _) (by simp [maxLen]; try omega) (by omega) (Pd kr_) fun ra ca hc _ => (ge ?_)
    refine Ev.apH (ra := ra) kr_ rfl rfl rfl (hr.ent (by repeat (first | exact Er _ | (refine Et Ed ?_)))) (ones_ints _) (by simp [maxLen]; omega) (by omega) (Pd kr_) fun rb cb hc2 _ => (ge ?_)
    refine Es (b := b) kr_ rfl rfl rfl rfl rfl (by rfl) rfl (Pd kr_) (ge ?_)
    refine go ?_
    have h7 : ¬ m.t0 < tag := by omega
    rw [hti, hit, if_neg h7, if_neg h7]
    refine Kr.two (.inr rfl) rfl rfl ?_ (.inr ⟨hnr, none, 0, rfl, rfl⟩)
    refine Et (RLimboO.close (a := ad b) (r0 := rb) (r1 := r1) (r2 := r2) { m.put 0 tag (m.x0 ++ ys) with last := tag } hT.put_0 rfl rfl rfl rfl (by simp [Lm.put, Lm.items]; omega) rfl rfl (by simp [Lm.put, Lm.items, ints_append]) rfl rfl) ?_
    refine Et (Ent.rownil 3 1) ?_
    exact ent
  ·have hnil : m.x0 = [] := nz_ (by omega)
   refine gg ?_
   refine Xd rfl kr_ (ge ?_)
   refine Ev.pass 4 rfl kr_ ?_
   refine Ev.bring 2 rfl (ge ?_)
   refine Ev.apnH kr_ rfl rfl rfl (Rd.any (a := r0) hx0 (hk0.imp (fun h => h.2.1) id)) (ones_ints _) (by simp [maxLen]; try omega) (by omega) (Pd kr_) fun ra ca hc _ => (ge ?_)
   refine Ev.apH (ra := ra) kr_ rfl rfl rfl (hr.ent (by repeat (first | exact Er _ | (refine Et Ed ?_)))) (ones_ints _) (by simp [maxLen]; omega) (by omega) (Pd kr_) fun rb cb hc2 _ => (ge ?_)
   refine Es (b := b) kr_ rfl rfl rfl rfl rfl (by rfl) rfl (Pd kr_) (ge ?_)
   refine go ?_
   rw [hit, hnil, ite_self]
   refine Kr.two (.inr rfl) rfl rfl ?_ (.inr ⟨hnr, none, 0, rfl, rfl⟩)
   refine Et (RLimboO.close (a := ad b) (r0 := rb) (r1 := r1) (r2 := r2) { m.put 0 tag ([] ++ ys) with last := tag } hT.put_0 rfl rfl rfl rfl (by simp [Lm.put, Lm.items, hnil]; omega) rfl rfl (by simp [Lm.put, Lm.items, ints, hnil]) rfl rfl) ?_
   refine Et (Ent.rownil 3 1) ?_
   exact ent
 ·refine gg ?_
  have hti : m.tag 1 = m.t1 := rfl
  have hit : m.items 1 = m.x1 := rfl
  refine Sx.ifp rfl (fun h5 => ?_) (fun h5 => ?_)
  ·have hne : m.x1 ≠ [] := fun e => by rw [e] at h5; exact absurd h5 (by decide)
   have hu := hT.h1 hne
   refine gg ?_
   refine Xi rfl (fun h6 => ?_) (fun h6 => ?_)
   ·refine gg ?_
    refine Xd rfl kr_ (ge ?_)
    refine Ev.pass 4 rfl kr_ ?_
    refine Ev.bring 2 rfl (ge ?_)
    refine Ev.apnH kr_ rfl rfl rfl (Rd.nil _ _ _) rfl (by simp [maxLen]; try omega) (by omega) (Pd kr_) fun ra ca hc _ => (ge ?_)
    refine Ev.apH (ra := ra) kr_ rfl rfl rfl (hr.ent (by repeat (first | exact Er _ | (refine Et Ed ?_)))) (ones_ints _) (by simp [maxLen]; omega) (by omega) (Pd kr_) fun rb cb hc2 _ => (ge ?_)
    refine Es (b := b) kr_ rfl rfl rfl rfl rfl (by rfl) rfl (Pd kr_) (ge ?_)
    refine go ?_
    have h7 : m.t1 < tag := by omega
    rw [hti, hit, if_pos h7, if_pos h7]
    refine Kr.two (.inr rfl) rfl rfl ?_ (.inr ⟨hnr, r1, c1, rfl, rfl⟩)
    refine Et (RLimboO.close (a := ad b) (r0 := r0) (r1 := rb) (r2 := r2) { m.put 1 tag ([] ++ ys) with last := tag } hT.put_1 rfl rfl rfl rfl rfl (by simp [Lm.put, Lm.items]; omega) rfl rfl (by simp [Lm.put, Lm.items, ints_append]) rfl) ?_
    exact ent
   ·refine gg ?_
    refine Xd rfl kr_ (ge ?_)
    refine Ev.pass 4 rfl kr_ ?_
    refine Ev.bring 2 rfl (ge ?_)
    refine Ev.apnH kr_ rfl rfl rfl (Rd.any (a := r1) hx1 (hk1.imp (fun h => h.2.1) id)) (ones_ints _) (by simp [maxLen]; try omega) (by omega) (Pd kr_) fun ra ca hc _ => (ge ?_)
    refine Ev.apH (ra := ra) kr_ rfl rfl rfl (hr.ent (by repeat (first | exact Er _ | (refine Et Ed ?_)))) (ones_ints _) (by simp [maxLen]; omega) (by omega) (Pd kr_) fun rb cb hc2 _ => (ge ?_)
    refine Es (b := b) kr_ rfl rfl rfl rfl rfl (by rfl) rfl (Pd kr_) (ge ?_)
    refine go ?_
    have h7 : ¬ m.t1 < tag := by omega
    rw [hti, hit, if_neg h7, if_neg h7]
    refine Kr.two (.inr rfl) rfl rfl ?_ (.inr ⟨hnr, none, 0, rfl, rfl⟩)
    refine Et (RLimboO.close (a := ad b) (r0 := r0) (r1 := rb) (r2 := r2) { m.put 1 tag (m.x1 ++ ys) with last := tag } hT.put_1 rfl rfl rfl rfl rfl (by simp [Lm.put, Lm.items]; omega) rfl rfl (by simp [Lm.put, Lm.items, ints_append]) rfl) ?_
    refine Et (Ent.rownil 3 1) ?_
    exact ent
  ·have hnil : m.x1 = [] := nz_ (by omega)
   refine gg ?_
   refine Xd rfl kr_ (ge ?_)
   refine Ev.pass 4 rfl kr_ ?_
   refine Ev.bring 2 rfl (ge ?_)
   refine Ev.apnH kr_ rfl rfl rfl (Rd.any (a := r1) hx1 (hk1.imp (fun h => h.2.1) id)) (ones_ints _) (by simp [maxLen]; try omega) (by omega) (Pd kr_) fun ra ca hc _ => (ge ?_)
   refine Ev.apH (ra := ra) kr_ rfl rfl rfl (hr.ent (by repeat (first | exact Er _ | (refine Et Ed ?_)))) (ones_ints _) (by simp [maxLen]; omega) (by omega) (Pd kr_) fun rb cb hc2 _ => (ge ?_)
   refine Es (b := b) kr_ rfl rfl rfl rfl rfl (by rfl) rfl (Pd kr_) (ge ?_)
   refine go ?_
   rw [hit, hnil, ite_self]
   refine Kr.two (.inr rfl) rfl rfl ?_ (.inr ⟨hnr, none, 0, rfl, rfl⟩)
   refine Et (RLimboO.close (a := ad b) (r0 := r0) (r1 := rb) (r2 := r2) { m.put 1 tag ([] ++ ys) with last := tag } hT.put_1 rfl rfl rfl rfl rfl (by simp [Lm.put, Lm.items, hnil]; omega) rfl rfl (by simp [Lm.put, Lm.items, ints, hnil]) rfl) ?_
   refine Et (Ent.rownil 3 1) ?_
   exact ent
 ·refine gg ?_
  have hti : m.tag 2 = m.t2 := rfl
  have hit : m.items 2 = m.x2 := rfl
  refine Sx.ifp rfl (fun h5 => ?_) (fun h5 => ?_)
  ·have hne : m.x2 ≠ [] := fun e => by rw [e] at h5; exact absurd h5 (by decide)
   have hu := hT.h2 hne
   refine gg ?_
   refine Xi rfl (fun h6 => ?_) (fun h6 => ?_)
   ·refine gg ?_
    refine Xd rfl kr_ (ge ?_)
    refine Ev.pass 4 rfl kr_ ?_
    refine Ev.bring 2 rfl (ge ?_)
    refine Ev.apnH kr_ rfl rfl rfl (Rd.nil _ _ _) rfl (by simp [maxLen]; try omega) (by omega) (Pd kr_) fun ra ca hc _ => (ge ?_)
    refine Ev.apH (ra := ra) kr_ rfl rfl rfl (hr.ent (by repeat (first | exact Er _ | (refine Et Ed ?_)))) (ones_ints _) (by simp [maxLen]; omega) (by omega) (Pd kr_) fun rb cb hc2 _ => (ge ?_)
    refine Es (b := b) kr_ rfl rfl rfl rfl rfl (by rfl) rfl (Pd kr_) (ge ?_)
    refine go ?_
    have h7 : m.t2 < tag := by omega
    rw [hti, hit, if_pos h7, if_pos h7]
    refine Kr.two (.inr rfl) rfl rfl ?_ (.inr ⟨hnr, r2, c2, rfl, rfl⟩)
    refine Et (RLimboO.close (a := ad b) (r0 := r0) (r1 := r1) (r2 := rb) { m.put 2 tag ([] ++ ys) with last := tag } hT.put_2 rfl rfl rfl rfl rfl rfl (by simp [Lm.put, Lm.items]; omega) rfl rfl (by simp [Lm.put, Lm.items, ints_append])) ?_
    exact ent
   ·refine gg ?_
    refine Xd rfl kr_ (ge ?_)
    refine Ev.pass 4 rfl kr_ ?_
    refine Ev.bring 2 rfl (ge ?_)
    refine Ev.apnH kr_ rfl rfl rfl (Rd.any (a := r2) hx2 (hk2.imp (fun h => h.2.1) id)) (ones_ints _) (by simp [maxLen]; try omega) (by omega) (Pd kr_) fun ra ca hc _ => (ge ?_)
    refine Ev.apH (ra := ra) kr_ rfl rfl rfl (hr.ent (by repeat (first | exact Er _ | (refine Et Ed ?_)))) (ones_ints _) (by simp [maxLen]; omega) (by omega) (Pd kr_) fun rb cb hc2 _ => (ge ?_)
    refine Es (b := b) kr_ rfl rfl rfl rfl rfl (by rfl) rfl (Pd kr_) (ge ?_)
    refine go ?_
    have h7 : ¬ m.t2 < tag := by omega
    rw [hti, hit, if_neg h7, if_neg h7]
    refine Kr.two (.inr rfl) rfl rfl ?_ (.inr ⟨hnr, none, 0, rfl, rfl⟩)
    refine Et (RLimboO.close (a := ad b) (r0 := r0) (r1 := r1) (r2 := rb) { m.put 2 tag (m.x2 ++ ys) with last := tag } hT.put_2 rfl rfl rfl rfl rfl rfl (by simp [Lm.put, Lm.items]; omega) rfl rfl (by simp [Lm.put, Lm.items, ints_append])) ?_
    refine Et (Ent.rownil 3 1) ?_
    exact ent
  ·have hnil : m.x2 = [] := nz_ (by omega)
   refine gg ?_
   refine Xd rfl kr_ (ge ?_)
   refine Ev.pass 4 rfl kr_ ?_
   refine Ev.bring 2 rfl (ge ?_)
   refine Ev.apnH kr_ rfl rfl rfl (Rd.any (a := r2) hx2 (hk2.imp (fun h => h.2.1) id)) (ones_ints _) (by simp [maxLen]; try omega) (by omega) (Pd kr_) fun ra ca hc _ => (ge ?_)
   refine Ev.apH (ra := ra) kr_ rfl rfl rfl (hr.ent (by repeat (first | exact Er _ | (refine Et Ed ?_)))) (ones_ints _) (by simp [maxLen]; omega) (by omega) (Pd kr_) fun rb cb hc2 _ => (ge ?_)
   refine Es (b := b) kr_ rfl rfl rfl rfl rfl (by rfl) rfl (Pd kr_) (ge ?_)
   refine go ?_
   rw [hit, hnil, ite_self]
   refine Kr.two (.inr rfl) rfl rfl ?_ (.inr ⟨hnr, none, 0, rfl, rfl⟩)
   refine Et (RLimboO.close (a := ad b) (r0 := r0) (r1 := r1) (r2 := rb) { m.put 2 tag ([] ++ ys) with last := tag } hT.put_2 rfl rfl rfl rfl rfl rfl (by simp [Lm.put, Lm.items, hnil]; omega) rfl rfl (by simp [Lm.put, Lm.items, ints, hnil])) ?_
   refine Et (Ent.rownil 3 1) ?_
   exact ent
end
section
variable {L F G : St}
abbrev tkB (b u : Nat) (nx n1 n2 n3 : Value) (cnt : Int) (pp : Value) (chunk seen : Int) (is_ : Bool) : As :=
 pt (ad b) (Blk 274 [nx, n1, n2, n3, ii cnt, zp u, pp, ii chunk, ii seen, .bool is_])
def takeDL (T : TypeId) (u : Nat) (t : TakeS) (a : OA) (y : Value × Value × Value × Value × Int) : St :=
 [pt a (Blk T [.nilFunc, y.1, y.2.1, y.2.2.1, ii y.2.2.2.2, zp u, y.2.2.2.1, ii t.chunk, ii t.seen, .bool t.is_])]
def takeLL (T : TypeId) (u : Nat) (t : TakeS) (a : OA) (y : Value × Value × Value × Value × Int) : St :=
 [pt a (Blk T [.func (.func 218) #[.pointer a] #[], y.1, y.2.1, y.2.2.1, ii y.2.2.2.2, zp u, y.2.2.2.1, ii t.chunk, ii t.seen, .bool t.is_])]
def takePL (T : TypeId) (u pb : Nat) (k : Sk) (t : TakeS) (a : OA) (y : Nat × Int) : St :=
 [pt a (Blk T [.func (.func 232) #[.pointer a] #[], mth 163 y.1, mth 164 y.1, .func (.func 249) #[.pointer a] #[], ii y.2, zp u, zp y.1, ii t.chunk, ii t.seen, .bool t.is_]),
  pt (ad y.1) (PopO pb k t.q)]
def TakeT (T : TypeId) (u pb : Nat) (k : Sk) (t : TakeS) (a : OA) : As := bif t.done then exs (takeDL T u t a) else bif Nat.beq t.at_ 0 then exs (takeLL T u t a) else exs (takePL T u pb k t a)
abbrev TakeO := TakeT 274
theorem TakeO.d {T : TypeId} {u pb : Nat} {k : Sk} {t : TakeS} {a : OA} (h : t.done = true) : TakeT T u pb k t a = exs (takeDL T u t a) := by unfold TakeT; rw [h]; rfl
theorem TakeO.l {T : TypeId} {u pb : Nat} {k : Sk} {t : TakeS} {a : OA} (h : t.done = false) (h0 : t.at_ = 0) : TakeT T u pb k t a = exs (takeLL T u t a) := by unfold TakeT; rw [h, h0]; rfl
theorem TakeO.p {T : TypeId} {u pb : Nat} {k : Sk} {t : TakeS} {a : OA} (h : t.done = false) (h0 : t.at_ ≠ 0) : TakeT T u pb k t a = exs (takePL T u pb k t a) := by
 unfold TakeT
 have : Nat.beq t.at_ 0 = false := by
  cases hb : Nat.beq t.at_ 0 with
  | false => rfl
  | true => exact absurd (bq hb) h0
 rw [h, this]; rfl
theorem TakeO.closeD {b u pb : Nat} {k : Sk} (t : TakeS) (h : t.done = true) {n1 n2 n3 pp : Value} {cnt chunk seen : Int} {is_ : Bool} (hc : chunk = t.chunk) (hs : seen = t.seen) (hi : is_ = t.is_) : Ent (tkB b u .nilFunc n1 n2 n3 cnt pp chunk seen is_ :: G) (pt (ad b) (TakeO u pb k t) :: G) := by
 subst hc; subst hs; subst hi
 exact Ent.close (f := takeDL 274 u t (ad b)) (TakeO.d h) (n1, n2, n3, pp, cnt)
theorem TakeO.closeL {b u pb : Nat} {k : Sk} (t : TakeS) (h : t.done = false) (h0 : t.at_ = 0) {n1 n2 n3 pp : Value} {cnt chunk seen : Int} {is_ : Bool} (hc : chunk = t.chunk) (hs : seen = t.seen) (hi : is_ = t.is_) :
  Ent (tkB b u (mth 218 b) n1 n2 n3 cnt pp chunk seen is_ :: G) (pt (ad b) (TakeO u pb k t) :: G) := by
 subst hc; subst hs; subst hi
 exact Ent.close (f := takeLL 274 u t (ad b)) (TakeO.l h h0) (n1, n2, n3, pp, cnt)
theorem TakeO.closeP {b u pb p : Nat} {k : Sk} (t : TakeS) (h : t.done = false) (h0 : t.at_ ≠ 0) {cnt chunk seen : Int} {is_ : Bool} {q : PopS} (hc : chunk = t.chunk) (hs : seen = t.seen) (hi : is_ = t.is_) (hq : q = t.q) :
  Ent (tkB b u (mth 232 b) (mth 163 p) (mth 164 p) (mth 249 b) cnt (zp p) chunk seen is_ :: pt (ad p) (PopO pb k q) :: G) (pt (ad b) (TakeO u pb k t) :: G) := by
 subst hc; subst hs; subst hi; subst hq
 exact Ent.close (f := takePL 274 u pb k t (ad b)) (TakeO.p h h0) (p, cnt)
abbrev tkV (u : Nat) (nx n1 n2 n3 : Value) (cnt : Int) (pp : Value) (chunk seen : Int) (is_ : Bool) : OA → As :=
 Blk 274 [nx, n1, n2, n3, ii cnt, zp u, pp, ii chunk, ii seen, .bool is_]
theorem takeKept {b u mp pb : Nat} {x : Cn} {s : SupS} {nx n1 n2 n3 pp : Value} {cnt chunk seen : Int} {is_ : Bool} {F1 : St} (hb : s.xs.length ≤ 1000000000) [t1 : Take L (ad b) (tkV u nx n1 n2 n3 cnt pp chunk seen is_) F1] [t2 : Take F1 (ad u) (SupO mp pb x s) G] :
  FX 216 [zp b] L
   (fun v L' => v = .bool (decide (s.xs ≠ [])) ∧ L' = tkB b u nx n1 n2 n3 cnt pp (lastI s.xs) seen (decide (s.xs ≠ [])) :: pt (ad u) (SupO mp pb x s.kept) :: G) := by
 refine Fm Tryz.func216 k216 ?_
 dsimp only [c216, eL]
 refine Xe (Et (Eo t1.out) (Ec (Eo t2.out))) ?_
 refine Xo (a := ad u) rfl ?_
 rintro ⟨sh, lm⟩
 simp only [supL, lc, ln]
 refine go ?_
 refine Sa rfl (stashTakeI (b := sh) s.xs hb) ?_
 rintro v L' ⟨rfl, rfl⟩
 refine go ?_
 refine Ko rfl ?_ ⟨rfl, rfl⟩
 refine Ec ?_
 exact SupO.close (a := ad u) (sh := sh) (lm := lm) (mp := mp) (pb := pb) (x := x) s.kept rfl rfl rfl
theorem takeAsk {b u mp pb : Nat} {x : Cn} {s : SupS} {n1 n2 n3 pp : Value} {cnt chunk seen : Int} {is_ : Bool} {F1 : St} (hx : x.ok) [t1 : Take L (ad b) (tkV u .nilFunc n1 n2 n3 cnt pp chunk seen is_) F1] [t2 : Take F1 (ad u) (SupO mp pb x s) G] :
  FX 219 [zp b] L
   (fun v L' => L' = pt (ad b) (TakeO u pb x.pool ⟨1, chunk, is_, seen, PopS.init x.ba, false⟩) :: pt (ad u) (SupO mp pb x s) :: G) := by
 refine Fm Tryz.func219 k219 ?_
 dsimp only [c219, eL]
 refine Xe (Et (Eo t1.out) (Ec (Eo t2.out))) ?_
 refine Xo (a := ad u) rfl ?_
 rintro ⟨sh, lm⟩
 simp only [supL, lc, ln]
 refine go ?_
 refine Xd rfl kr_ (ge ?_)
 refine Ea kr_ rfl rfl (stackPop (sb := pb) (k := x.pool) (x.ba : Int) (by have := hx.2.1; show 1 ≤ x.c; omega)) (Pd kr_) ?_
 rintro v L' ⟨p, rfl, rfl⟩
 refine ge ?_
 refine Es (b := b) kr_ rfl rfl rfl rfl rfl (by rfl) rfl (Pd kr_) (ge ?_)
 refine Cx.orde rfl kr_ (ge ?_)
 refine Ea kr_ rfl rfl (machThrough (b := b) (machOnNo (b := b) kr_ (popDoneC (b := p) (sb := pb) (k := x.pool) (q := PopS.init x.ba)))) (Pd kr_) ?_
 rintro v L' ⟨rfl, w, rfl, rfl⟩
 refine ge ?_
 refine Kr.none (.inl rfl) ?_ rfl
 refine Et (Ec ?_) (TakeO.closeP (p := p) ⟨1, chunk, is_, seen, PopS.init x.ba, false⟩ rfl (by simp) rfl rfl rfl rfl)
 refine Ec ?_
 exact SupO.close (a := ad u) (sh := sh) (lm := lm) (mp := mp) (pb := pb) (x := x) s rfl rfl rfl
theorem epochCut (w : Nat) (hw : w < 18446744073709551616) : FX 233 [wd w] L (fun v L' => v = ii (cutE w) ∧ L = L') := by
 refine Fm Tryz.func233 k233 ?_
 dsimp only [c233, eL]
 refine go ?_
 refine Ko rfl (Er _) ⟨congrArg (Value.int .i64) ?_, rfl⟩
 rw [cond_false]
 unfold cutE
 refine Eq.trans (congrArg IntKind.i64.wrap (show _ = min (w : Int) 4611686018427387903 by split <;> omega)) ?_
 exact w64 (by omega) (by omega)
theorem takeLook {b u mp pb : Nat} {x : Cn} {s : SupS} {m : Mm} {t : TakeS} {n1 n2 n3 pp : Value} {cnt : Int} {F1 F2 : St} (hx : x.ok) (hm : m.ok) (hl : 2 < m.ws.length) (hd : t.done = false) (h0 : t.at_ = 0) (hi : t.chunk = 0 ∧ t.is_ = false)
  (hb : s.xs.length + s.lm.size ≤ 1000000) [t1 : Take L (ad b) (tkV u .nilFunc n1 n2 n3 cnt pp t.chunk t.seen t.is_) F1] [t2 : Take F1 (ad u) (SupO mp pb x s) F2] [t3 : Take F2 (ad mp) (MemO m) G] :
  FX 218 [zp b] L
   (fun v L' => L' = pt (ad b) (TakeO u pb x.pool (takeStep x.pool x.ba m s t).2.2) :: pt (ad u) (SupO mp pb x (takeStep x.pool x.ba m s t).2.1) :: pt (ad mp) (MemO (takeStep x.pool x.ba m s t).1) :: G) := by
 have hlt := Ml hm 2
 have hz := size_ready (cutE (m.at_ 2)) s.lm
 have hcut : cutE (m.at_ 2) ≤ 9223372036854775807 := by unfold cutE; omega
 refine Fm Tryz.func218 k218 ?_
 dsimp only [c218, eL]
 refine Xe (Et (Eo t1.out) (Ec (Et (Eo t2.out) (Ec (Eo t3.out))))) ?_
 refine Xo (a := ad u) rfl ?_
 rintro ⟨sh, lm⟩
 simp only [supL, lc, ln]
 refine go ?_
 refine Sa rfl (cellsLoad (b := mp) (m := m) 2 hl) ?_
 rintro v L' ⟨rfl, rfl⟩
 refine go ?_
 refine Sa rfl (epochCut (m.at_ 2) hlt) ?_
 rintro v L' ⟨rfl, rfl⟩
 refine go ?_
 refine Xe (SupO.close (a := ad u) (sh := sh) (lm := lm) (mp := mp) (pb := pb) (x := x) s rfl rfl rfl) ?_
 refine Xd rfl kr_ (ge ?_)
 refine Ea kr_ rfl rfl (supReady (u := u) (mp := mp) (pb := pb) (x := x) (s := s) (now := cutE (m.at_ 2)) (by omega) (by omega) hcut) (Pd kr_) ?_
 rintro v L' ⟨rfl, rfl⟩
 refine ge ?_
 refine go ?_
 have hrl : (s.ready (cutE (m.at_ 2))).xs.length ≤ 1000000000 := by simp only [SupS.ready, List.length_append]; omega
 refine Sa rfl (takeKept (b := b) (u := u) (mp := mp) (pb := pb) (x := x) (s := s.ready (cutE (m.at_ 2))) hrl) ?_
 rintro v L' ⟨rfl, rfl⟩
 by_cases hxs : (s.ready (cutE (m.at_ 2))).xs = []
 ·have e : takeStep x.pool x.ba m s t = (m.tick, s.ready (cutE (m.at_ 2)), ⟨1, 0, false, cutE (m.at_ 2), PopS.init x.ba, false⟩) := by
   unfold takeStep
   rw [hd, h0]
   simp only [bf, if_false, keepT, if_pos hxs, hi.1, hi.2]
  have hk : (s.ready (cutE (m.at_ 2))).kept = s.ready (cutE (m.at_ 2)) := by unfold SupS.kept; rw [hxs]; simp only [List.dropLast_nil]; rw [← hxs]
  rw [e, dz (fun h : (s.ready (cutE (m.at_ 2))).xs ≠ [] => h hxs), hk, hxs]
  refine go ?_
  refine Sa rfl (takeAsk (b := b) (u := u) (mp := mp) (pb := pb) (x := x) (s := s.ready (cutE (m.at_ 2))) hx) ?_
  rintro v L' rfl
  refine go ?_
  exact Kr.none (.inl rfl) (Er _) rfl
 ·have e : takeStep x.pool x.ba m s t = (m.tick, (s.ready (cutE (m.at_ 2))).kept, ⟨0, lastI (s.ready (cutE (m.at_ 2))).xs, true, cutE (m.at_ 2), t.q, true⟩) := by
   unfold takeStep
   rw [hd, h0]
   simp only [bf, if_false, keepT, if_neg hxs]
  rw [e, dt (show (s.ready (cutE (m.at_ 2))).xs ≠ [] from hxs)]
  refine go ?_
  exact Kr.none (.inl rfl) (TakeO.closeD _ rfl rfl rfl rfl) rfl
theorem takePopped {b u mp pb p : Nat} {x : Cn} {s : SupS} {t : TakeS} {n1 n2 n3 : Value} {cnt : Int} {F1 F2 : St} {k : Sk} (hq : t.q.done = true) (hi : t.is_ = false) (hb : s.xs.length ≤ 1000000)
  [t1 : Take L (ad b) (tkV u .nilFunc n1 n2 n3 cnt (zp p) t.chunk t.seen t.is_) F1] [t2 : Take F1 (ad u) (SupO mp pb x s) F2] [t3 : Take F2 (ad p) (PopO pb k t.q) G] :
  FX 249 [zp b] L
   (fun v L' => L' = pt (ad b) (TakeO u pb k (popped s t).2) :: pt (ad u) (SupO mp pb x (popped s t).1) :: G) := by
 refine Fm Tryz.func249 k249 ?_
 dsimp only [c249, eL]
 refine Xe (Et (Eo t1.out) (Ec (Et (Eo t2.out) (Ec (Eo t3.out))))) ?_
 have hlen : ∀ h, holds (tkB b u .nilFunc n1 n2 n3 cnt (zp p) t.chunk t.seen t.is_ :: pt (ad u) (SupO mp pb x s) :: pt (ad p) (PopO pb k t.q) :: G) h → t.q.got.length ≤ 8 := by
  intro h hh
  have h1 := (inferInstance : Take (tkB b u .nilFunc n1 n2 n3 cnt (zp p) t.chunk t.seen t.is_ :: pt (ad u) (SupO mp pb x s) :: pt (ad p) (PopO pb k t.q) :: G) (ad p) (PopO pb k t.q) _).out h hh
  obtain ⟨y, hy⟩ := holds_ex.1 h1
  exact (holds_lift.1 hy).1.len
 refine Cx.pure hlen fun h8 => (go ?_)
 refine Sa rfl (popGot (b := p) (sb := pb) (k := k) (q := t.q) hq) ?_
 rintro v L' ⟨ro, co, rfl, rfl⟩
 refine go ?_
 cases hg : t.q.got with
 | nil =>
   have e : popped s t = (s, { t with done := true }) := by unfold popped; rw [hg]
   rw [e]
   refine go ?_
   refine Kr.none (.inl rfl) ?_ rfl
   refine Et ?_ (TakeO.closeD (n1 := n1) (n2 := n2) (n3 := n3) (cnt := cnt) (pp := zp p) { t with done := true } rfl rfl rfl rfl)
   exact ent
 | cons y l =>
   have e : popped s t = (s.give l, { t with chunk := y, is_ := true, done := true }) := by unfold popped; rw [hg]
   rw [e]
   rw [hg] at h8
   simp only [List.length_cons] at h8 ⊢
   refine Xy rfl (dt (by omega)) ?_
   refine Cx.rowkey (a := ro) fun hx0 hn0 hc0 hk0 => ?_
   obtain ⟨rg, rfl⟩ : ∃ g, ro = ad g := by
    rcases hk0 with h | h
    ·omega
    ·exact h
   refine go ?_
   refine Sv rfl ⟨by omega, by omega⟩ ?_
   refine Sx.ldr (b := rg) rfl (v := ii y) rfl (go ?_)
   refine Cx.orde rfl kr_ (ge ?_)
   refine Ea kr_ rfl rfl (supPut (u := u) (mp := mp) (pb := pb) (x := x) (s := s) (ys := l) (Rd.suffix_ (g := rg) (i := 1) hx0 hn0 (by omega)) (by omega)) (Pd kr_) ?_
   rintro v L' ⟨rfl, rfl⟩
   refine ge ?_
   refine Kr.none (.inl rfl) ?_ rfl
   refine Et ?_ (TakeO.closeD (n1 := n1) (n2 := n2) (n3 := n3) (cnt := cnt) (pp := zp p) { t with chunk := y, is_ := true, done := true } rfl rfl rfl rfl)
   exact ent
structure TakeS.ok (t : TakeS) : Prop where
 a : t.at_ ≤ 1
 i : t.done = false → t.chunk = 0 ∧ t.is_ = false
theorem takeStepC {b u mp pb : Nat} {x : Cn} {s : SupS} {m : Mm} {t : TakeS} {F1 F2 F3 : St} (hx : x.ok) (hl : x.len ≤ m.ws.length) (ht : t.ok) (hb : s.xs.length + s.lm.size ≤ 1000000)
  [t1 : Take L (ad b) (TakeO u pb x.pool t) F1] [t2 : Take F1 (ad u) (SupO mp pb x s) F2] [t3 : Take F2 (ad mp) (MemO m) F3] [t4 : Take F3 (ad pb) (SkO mp x.pool) G] :
  FX 159 [zp b] L
   (fun v L' => v = .bool (!t.done) ∧ L' = pt (ad b) (TakeO u pb x.pool (takeStep x.pool x.ba m s t).2.2) :: pt (ad u) (SupO mp pb x (takeStep x.pool x.ba m s t).2.1) :: pt (ad mp) (MemO (takeStep x.pool x.ba m s t).1) :: F3) := by
 have hl3 : 3 ≤ x.len := by unfold Cn.len; omega
 refine Fm Tryz.func159 k159 ?_
 dsimp only [c159, eL]
 refine Xe (Et (Eo t1.out) (Ec (Et (Eo t2.out) (Ec (Et (Eo t3.out) (Ec (Eo t4.out))))))) ?_
 refine Cx.pure (memKey (b := mp) (m := m)) fun hm => ?_
 cases hd : t.done with
 | true =>
   have e : takeStep x.pool x.ba m s t = (m, s, t) := by unfold takeStep; rw [hd]; rfl
   rw [e]
   refine Xo (a := ad b) (TakeO.d hd) ?_
   rintro ⟨n1, n2, n3, pp, cnt⟩
   simp only [takeDL, lc, ln]
   refine go ?_
   refine Sa rfl (machStepDone (b := b)) ?_
   rintro v L' ⟨rfl, rfl⟩
   refine go ?_
   exact Ko rfl (Et (TakeO.closeD t hd rfl rfl rfl) (Ec (Ec (Ec (Eo t4.back))))) ⟨rfl, rfl⟩
 | false =>
   have ha := ht.a
   rcases (show t.at_ = 0 ∨ t.at_ = 1 by omega) with h0 | h0
   ·refine Xo (a := ad b) (TakeO.l hd h0) ?_
    rintro ⟨n1, n2, n3, pp, cnt⟩
    simp only [takeLL, lc, ln]
    refine go ?_
    refine Sa rfl (machStep (b := b) kr_ (takeLook (b := b) (u := u) (mp := mp) (pb := pb) (x := x) (s := s) (m := m) (t := t) hx hm.1 (by omega) hd h0 (ht.i hd) hb)) ?_
    rintro v L' ⟨rfl, w, rfl⟩
    refine go ?_
    exact Ko rfl (Ec (Ec (Ec (Eo t4.back)))) ⟨rfl, rfl⟩
   ·refine Xo (a := ad b) (TakeO.p hd (by omega)) ?_
    rintro ⟨p, cnt⟩
    simp only [takePL, lc, ln]
    have hk := hx.pool (n := m.ws.length) hl hm.2
    cases hq : (popStep x.pool m t.q).1.done with
    | true =>
      have e : takeStep x.pool x.ba m s t = ((popStep x.pool m t.q).2, popped s { t with q := (popStep x.pool m t.q).1 }) := by
       unfold takeStep
       rw [hd, h0]
       simp only [bf, if_false, hq, if_true]
      rw [e]
      refine go ?_
      refine Sa rfl (machStep (b := b) kr_ (machGoes (b := b) kr_ (popStepC (b := p) (mp := mp) (sb := pb) (k := x.pool) (m := m) (q := t.q) hk) (R2 := fun v L' => v = .tuple #[] ∧ ∃ w : Value, L' = pt (ad b) (TakeO u pb x.pool (popped s { t with q := (popStep x.pool m t.q).1 }).2) :: pt (ad u) (SupO mp pb x (popped s { t with q := (popStep x.pool m t.q).1 }).1) :: pt (ad mp) (MemO (popStep x.pool m t.q).2) :: pt (ad pb) (SkO mp x.pool) :: G) ?_)) ?_
      ·rintro v L1 ⟨rfl, rfl⟩
       have hon := machOnYes (b := b) kr_ (fd := 164) (ft := 249) (w := zp p) (u := zp b) (L := pt (ad p) (PopO pb x.pool (popStep x.pool m t.q).1) :: pt (ad mp) (MemO (popStep x.pool m t.q).2) :: tkB b u .nilFunc (mth 163 p) (mth 164 p) (mth 249 b) (IntKind.i64.wrap (cnt + 1)) (zp p) t.chunk t.seen t.is_ :: pt (ad u) (SupO mp pb x s) :: pt (ad pb) (SkO mp x.pool) :: G)
        ((popDoneC (b := p) (sb := pb) (k := x.pool) (q := (popStep x.pool m t.q).1)).mono (by rintro v L' ⟨rfl, rfl⟩; exact ⟨by rw [hq], rfl⟩)) kr_
        (takePopped (b := b) (u := u) (mp := mp) (pb := pb) (p := p) (x := x) (s := s) (t := { t with q := (popStep x.pool m t.q).1 }) (k := x.pool) hq (ht.i hd).2 (by omega))
       refine hon.mono ?_
       rintro v L' ⟨rfl, w, rfl⟩
       exact ⟨rfl, w, rfl⟩
      ·rintro v L' ⟨rfl, w, _, w2, _, w3, rfl⟩
       refine go ?_
       exact Ko rfl (Ec (Ec (Ec (Eo t4.back)))) ⟨rfl, rfl⟩
    | false =>
      have e : takeStep x.pool x.ba m s t = ((popStep x.pool m t.q).2, s, { t with q := (popStep x.pool m t.q).1 }) := by
       unfold takeStep
       rw [hd, h0]
       simp only [bf, if_false, hq]
      rw [e]
      refine go ?_
      refine Sa rfl (machStep (b := b) kr_ (machGoes (b := b) kr_ (popStepC (b := p) (mp := mp) (sb := pb) (k := x.pool) (m := m) (q := t.q) hk) (R2 := fun v L' => v = .tuple #[] ∧ L' = tkB b u (mth 232 b) (mth 163 p) (mth 164 p) (mth 249 b) (IntKind.i64.wrap (cnt + 1)) (zp p) t.chunk t.seen t.is_ ::
       pt (ad p) (PopO pb x.pool (popStep x.pool m t.q).1) :: pt (ad mp) (MemO (popStep x.pool m t.q).2) :: pt (ad u) (SupO mp pb x s) :: pt (ad pb) (SkO mp x.pool) :: G) ?_)) ?_
      ·rintro v L1 ⟨rfl, rfl⟩
       have hon := machOnNo (b := b) kr_ (fd := 164) (w := zp p) (L := pt (ad p) (PopO pb x.pool (popStep x.pool m t.q).1) :: pt (ad mp) (MemO (popStep x.pool m t.q).2) :: tkB b u .nilFunc (mth 163 p) (mth 164 p) (mth 249 b) (IntKind.i64.wrap (cnt + 1)) (zp p) t.chunk t.seen t.is_ :: pt (ad u) (SupO mp pb x s) :: pt (ad pb) (SkO mp x.pool) :: G)
        ((popDoneC (b := p) (sb := pb) (k := x.pool) (q := (popStep x.pool m t.q).1)).mono (by rintro v L' ⟨rfl, rfl⟩; exact ⟨by rw [hq], rfl⟩))
       refine hon.mono ?_
       rintro v L' ⟨rfl, rfl⟩
       exact ⟨rfl, rfl⟩
      ·rintro v L' ⟨rfl, w, _, w2, _, rfl⟩
       refine go ?_
       refine Ko rfl ?_ ⟨rfl, rfl⟩
       refine Et (TakeO.closeP (p := p) { t with q := (popStep x.pool m t.q).1 } hd (by dsimp only; omega) rfl rfl rfl rfl) ?_
       refine Ec ?_
       refine Et ?_ (Ec (Ec (Eo t4.back)))
       exact ent
theorem takeStep_ok {k : Sk} {ba : Int} {m : Mm} {s : SupS} {t : TakeS} (h : t.ok) : (takeStep k ba m s t).2.2.ok := by
 unfold takeStep
 split
 ·exact h
 ·rename_i hd
  have hd' : t.done = false := by simpa using hd
  have hi := h.i hd'
  split
  ·unfold keepT
   dsimp only
   split
   ·rename_i hr
    split at hr
    ·cases hr
    ·cases hr; exact ⟨by show t.at_ ≤ 1; exact h.a, fun h => by cases h⟩
   ·exact ⟨by simp, fun _ => ⟨hi.1, hi.2⟩⟩
  ·dsimp only
   split
   ·unfold popped
    split
    ·exact ⟨h.a, fun h => by cases h⟩
    ·exact ⟨h.a, fun h => by cases h⟩
   ·exact ⟨h.a, fun _ => hi⟩
theorem takeInit_ok {ba : Int} {s : SupS} : (takeInit ba s).2.ok := by
 unfold takeInit keepT
 split
 ·rename_i r hr
  split at hr
  ·cases hr
  ·cases hr; exact ⟨by simp [TakeS.none_], fun h => by cases h⟩
 ·split
  ·exact ⟨by simp [TakeS.none_], fun _ => ⟨rfl, rfl⟩⟩
  ·exact ⟨by simp, fun _ => ⟨rfl, rfl⟩⟩
theorem takeDone {b u pb : Nat} {k : Sk} {t : TakeS} {F1 : St} (ht : t.ok) [t1 : Take L (ad b) (TakeO u pb k t) F1] : FX 160 [zp b] L (fun v L' => v = .bool t.done ∧ L = L') := by
 refine Fx.kept (t := t1) ?_
 refine Fm Tryz.func160 k160 ?_
 dsimp only [c160, eL]
 refine Xe (Eo t1.out) ?_
 cases hd : t.done with
 | true =>
   refine Xo (a := ad b) (TakeO.d hd) ?_
   rintro ⟨n1, n2, n3, pp, cnt⟩
   simp only [takeDL, lc, ln]
   refine go ?_
   refine Sa rfl (machDoneYes (b := b)) ?_
   rintro v L' ⟨rfl, rfl⟩
   refine go ?_
   exact Ko rfl (TakeO.closeD t hd rfl rfl rfl) ⟨rfl, rfl⟩
 | false =>
   have ha := ht.a
   rcases (show t.at_ = 0 ∨ t.at_ = 1 by omega) with h0 | h0
   ·refine Xo (a := ad b) (TakeO.l hd h0) ?_
    rintro ⟨n1, n2, n3, pp, cnt⟩
    simp only [takeLL, lc, ln]
    refine go ?_
    refine Sa rfl (machDoneNo (b := b)) ?_
    rintro v L' ⟨rfl, rfl⟩
    refine go ?_
    exact Ko rfl (TakeO.closeL t hd h0 rfl rfl rfl) ⟨rfl, rfl⟩
   ·refine Xo (a := ad b) (TakeO.p hd (by omega)) ?_
    rintro ⟨p, cnt⟩
    simp only [takePL, lc, ln]
    refine go ?_
    refine Sa rfl (machDoneNo (b := b)) ?_
    rintro v L' ⟨rfl, rfl⟩
    refine go ?_
    exact Ko rfl (TakeO.closeP (p := p) t hd (by omega) rfl rfl rfl rfl) ⟨rfl, rfl⟩
theorem takeChunk {b u pb : Nat} {k : Sk} {t : TakeS} {F1 : St} (ht : t.ok) [t1 : Take L (ad b) (TakeO u pb k t) F1] : FX 220 [zp b] L (fun v L' => v = .tuple #[ii t.chunk, .bool t.is_] ∧ L = L') := by
 refine Fx.kept (t := t1) ?_
 refine Fm Tryz.func220 k220 ?_
 dsimp only [c220, eL]
 refine Xe (Eo t1.out) (go ?_)
 refine Sa rfl (takeDone (b := b) (u := u) (pb := pb) (k := k) (t := t) ht) ?_
 rintro v L' ⟨rfl, rfl⟩
 cases hd : t.done with
 | false =>
   refine go ?_
   exact Kr.two (.inr rfl) rfl rfl (Er _) ⟨by rw [(ht.i hd).1, (ht.i hd).2], rfl⟩
 | true =>
   refine go ?_
   refine Xo (a := ad b) (TakeO.d hd) ?_
   rintro ⟨n1, n2, n3, pp, cnt⟩
   simp only [takeDL, lc, ln]
   refine Xd rfl kr_ (ge ?_)
   refine go ?_
   exact Kr.two (.inr rfl) rfl rfl (TakeO.closeD t hd rfl rfl rfl) ⟨rfl, rfl⟩
end
section
variable {L F G : St}
theorem refTakeI {b : Nat} {most : Int} (xs : List Int) {F : St} [t : Take L (ad b) (RefO most xs) F] (hb : xs.length ≤ 100000000) :
  FX 231 [zp b] L (fun v L' => v = .tuple #[ii (lastI xs), .bool (decide (xs ≠ []))] ∧ L' = pt (ad b) (RefO most xs.dropLast) :: F) := by
 rcases List.eq_nil_or_concat xs with rfl | ⟨ys, x, rfl⟩
 ·exact refTakeNone
 ·rw [List.concat_eq_append] at t hb ⊢
  refine (refTakeSome (t := t) (by simp at hb; omega)).mono ?_
  rintro v L' ⟨rfl, rfl⟩
  simp [lastI]
def rsupL (T : TypeId) (w : Nat) (S : SupS) (a : OA) (y : Nat × Nat) : St :=
 [pt a (Blk T [zp w, zp y.1, zp y.2]), pt (ad y.1) (RefO S.most S.xs), pt (ad y.2) (RLimboO S.lm)]
def RSupT (T : TypeId) (w : Nat) (S : SupS) (a : OA) : As := exs (rsupL T w S a)
abbrev RSupO := RSupT 183
theorem RSupO.close {T : TypeId} {w st lm : Nat} {a : OA} {m : Int} {xs : List Int} {l : Lm} {F0 F1 G : St} (S : SupS)
  [t : Take L a (Blk T [zp w, zp st, zp lm]) F0] [u : Take F0 (ad st) (RefO m xs) F1] [q : Take F1 (ad lm) (RLimboO l) G]
  (hm : m = S.most) (hx : xs = S.xs) (hl : l = S.lm) : Ent L (pt a (RSupT T w S) :: G) := by
 subst hm; subst hx; subst hl
 refine Et (Em (t := t) (Et (Eo u.out) (Ec (Eo q.out)))) ?_
 exact Ent.close (f := rsupL T w S a) rfl (st, lm)
theorem refSupRetire {s w : Nat} {S : SupS} {F : St} [t : Take L (ad s) (RSupO w S) F] {tag : Int} {ys : List Int} {ya : OA} {n c : Nat} (hr : Rd F 1 ya n (ints ys)) (hb : S.lm.size + n ≤ 100000000) (hx : S.xs.length ≤ 100000000) :
  FX 126 [zp s, ii tag, .slice ya n c] L (fun v L' =>
   (refused S.lm tag ys ∧ v = .bool false ∧ L' = pt (ad s) (RSupO w S) :: F) ∨
   (¬ refused S.lm tag ys ∧ v = .bool true ∧ L' = pt (ad s) (RSupO w ⟨S.most, S.xs ++ outM S.lm tag, retireM S.lm tag ys⟩) :: F)) := by
 have hz := size_retire S.lm tag ys
 refine Fm Tryz.func126 k126 ?_
 dsimp only [c126, eL]
 refine Xo (t := t) rfl ?_
 rintro ⟨st, lm⟩
 simp only [rsupL, lc, ln]
 refine go ?_
 refine Sa rfl (refRetire (b := lm) (m := S.lm) (ys := ys) (hr.ent (by repeat (first | exact Er _ | (refine Et Ed ?_)))) (by omega)) ?_
 rintro v L' (⟨h, rfl, rfl⟩ | ⟨h, ro, co, rfl, rfl⟩)
 ·refine go ?_
  refine Sa rfl (refGive (b := st) (ys := []) (Rd.nil _ _ _) (by omega)) ?_
  rintro v L' ⟨rfl, rfl⟩
  refine go ?_
  exact Ko rfl (RSupO.close (a := ad s) (st := st) (lm := lm) (w := w) S rfl (List.append_nil _) rfl) (.inl ⟨h, rfl, rfl⟩)
 ·refine Sx.rowkey (a := ro) fun hx0 hn0 _ hk0 => (go ?_)
  refine Sa rfl (refGive (b := st) (Rd.any (a := ro) hx0 (hk0.imp (fun h => h.2.1) id)) (by omega)) ?_
  rintro v L' ⟨rfl, rfl⟩
  refine go ?_
  refine Ko rfl (Et (RSupO.close (a := ad s) (st := st) (lm := lm) (w := w) ⟨S.most, S.xs ++ outM S.lm tag, retireM S.lm tag ys⟩ rfl rfl rfl) ?_) (.inr ⟨h, rfl, rfl⟩)
  exact ent
theorem refSupReady {s w : Nat} {S : SupS} {F : St} [t : Take L (ad s) (RSupO w S) F] {now : Int} (hb : S.lm.size ≤ 100000000) (hx : S.xs.length ≤ 100000000) (hn : now ≤ 9223372036854775807) :
  FX 181 [zp s, ii now] L (fun v L' => v = ii (readyAll now S.lm).1.length ∧ L' = pt (ad s) (RSupO w (S.ready now)) :: F) := by
 have hz := size_ready now S.lm
 refine Fm Tryz.func181 k181 ?_
 dsimp only [c181, eL]
 refine Xo (t := t) rfl ?_
 rintro ⟨st, lm⟩
 simp only [rsupL, lc, ln]
 refine go ?_
 refine Sa rfl (refReady (b := lm) (m := S.lm) (now := now) hb hn) ?_
 rintro v L' ⟨ro, co, rfl, rfl⟩
 refine Sx.rowkey (a := ro) fun hx0 hn0 _ hk0 => (go ?_)
 refine Sa rfl (refGive (b := st) (Rd.any (a := ro) hx0 (hk0.imp (fun h => h.2.1) id)) (by omega)) ?_
 rintro v L' ⟨rfl, rfl⟩
 refine go ?_
 refine Ko rfl (Et (RSupO.close (a := ad s) (st := st) (lm := lm) (w := w) (S.ready now) rfl rfl rfl) ?_) ⟨rfl, rfl⟩
 exact ent
def TakeS.ch (t : TakeS) : Int := if t.is_ then t.chunk else -1
abbrev rtkB (b s : Nat) (at_ : Nat) (ch seen : Int) (pp : Value) (d : Bool) : As := pt (ad b) (Blk 186 [zp s, ii (at_ : Nat), ii ch, ii seen, pp, .bool d])
def rtakeDL (T : TypeId) (s : Nat) (t : TakeS) (a : OA) (y : Nat × Value) : St := [pt a (Blk T [zp s, ii (y.1 : Nat), ii t.ch, ii t.seen, y.2, .bool true])]
def rtakeLL (T : TypeId) (s : Nat) (t : TakeS) (a : OA) (y : Value) : St := [pt a (Blk T [zp s, ii 0, ii (-1), ii t.seen, y, .bool false])]
def rtakePL (T : TypeId) (s rp : Nat) (t : TakeS) (a : OA) (y : Nat) : St := [pt a (Blk T [zp s, ii 1, ii (-1), ii t.seen, zp y, .bool false]), pt (ad y) (RPopO rp t.q)]
def RTakeT (T : TypeId) (s rp : Nat) (t : TakeS) (a : OA) : As := bif t.done then exs (rtakeDL T s t a) else bif Nat.beq t.at_ 0 then exs (rtakeLL T s t a) else exs (rtakePL T s rp t a)
abbrev RTakeO := RTakeT 186
theorem RTakeO.d {T : TypeId} {s rp : Nat} {t : TakeS} {a : OA} (h : t.done = true) : RTakeT T s rp t a = exs (rtakeDL T s t a) := by unfold RTakeT; rw [h]; rfl
theorem RTakeO.l {T : TypeId} {s rp : Nat} {t : TakeS} {a : OA} (h : t.done = false) (h0 : t.at_ = 0) : RTakeT T s rp t a = exs (rtakeLL T s t a) := by unfold RTakeT; rw [h, h0]; rfl
theorem RTakeO.p {T : TypeId} {s rp : Nat} {t : TakeS} {a : OA} (h : t.done = false) (h0 : t.at_ ≠ 0) : RTakeT T s rp t a = exs (rtakePL T s rp t a) := by
 unfold RTakeT
 have : Nat.beq t.at_ 0 = false := by
  cases hb : Nat.beq t.at_ 0 with
  | false => rfl
  | true => exact absurd (bq hb) h0
 rw [h, this]; rfl
theorem RTakeO.closeD {b s rp n : Nat} {ch seen : Int} {pp : Value} (t : TakeS) (h : t.done = true) (hc : ch = t.ch) (hs : seen = t.seen) : Ent (rtkB b s n ch seen pp true :: G) (pt (ad b) (RTakeO s rp t) :: G) := by
 subst hc; subst hs
 exact Ent.close (f := rtakeDL 186 s t (ad b)) (RTakeO.d h) (n, pp)
theorem RTakeO.closeL {b s rp : Nat} {seen : Int} {pp : Value} (t : TakeS) (h : t.done = false) (h0 : t.at_ = 0) (hs : seen = t.seen) : Ent (rtkB b s 0 (-1) seen pp false :: G) (pt (ad b) (RTakeO s rp t) :: G) := by
 subst hs
 exact Ent.close (f := rtakeLL 186 s t (ad b)) (RTakeO.l h h0) pp
theorem RTakeO.closeP {b s rp p : Nat} {seen : Int} {q : PopS} (t : TakeS) (h : t.done = false) (h0 : t.at_ ≠ 0) (hs : seen = t.seen) (hq : q = t.q) : Ent (rtkB b s 1 (-1) seen (zp p) false :: pt (ad p) (RPopO rp q) :: G) (pt (ad b) (RTakeO s rp t) :: G) := by
 subst hs; subst hq
 exact Ent.close (f := rtakePL 186 s rp t (ad b)) (RTakeO.p h h0) p
abbrev rtkV (s : Nat) (at_ : Nat) (ch seen : Int) (pp : Value) (d : Bool) : OA → As := Blk 186 [zp s, ii (at_ : Nat), ii ch, ii seen, pp, .bool d]
theorem refKept {b s w n : Nat} {S : SupS} {seen : Int} {pp : Value} {F1 : St} (hb : S.xs.length ≤ 100000000) [t1 : Take L (ad b) (rtkV s n (-1) seen pp false) F1] [t2 : Take F1 (ad s) (RSupO w S) G] :
  FX 182 [zp b] L
   (fun v L' => v = .tuple #[] ∧ L' = rtkB b s n (if S.xs = [] then -1 else lastI S.xs) seen pp (decide (S.xs ≠ [])) :: pt (ad s) (RSupO w S.kept) :: G) := by
 refine Fm Tryz.func182 k182 ?_
 dsimp only [c182, eL]
 refine Xe (Et (Eo t1.out) (Ec (Eo t2.out))) ?_
 refine Xo (a := ad s) rfl ?_
 rintro ⟨st, lm⟩
 simp only [rsupL, lc, ln]
 refine go ?_
 refine Sa rfl (refTakeI (b := st) S.xs hb) ?_
 rintro v L' ⟨rfl, rfl⟩
 by_cases hx : S.xs = []
 ·rw [dz (fun h => h hx), if_pos hx]
  refine go ?_
  refine Kr.none (.inl rfl) ?_ ⟨rfl, rfl⟩
  refine Et ?_ Ent.swap
  refine Et (RSupO.close (a := ad s) (st := st) (lm := lm) (w := w) S.kept rfl rfl rfl) (Ec ?_)
  exact ent
 ·rw [dt hx, if_neg hx]
  refine go ?_
  refine Kr.none (.inl rfl) ?_ ⟨rfl, rfl⟩
  refine Et ?_ Ent.swap
  refine Et (RSupO.close (a := ad s) (st := st) (lm := lm) (w := w) S.kept rfl rfl rfl) (Ec ?_)
  exact ent
theorem refTakePop {b s w rm rp rs re n : Nat} {x : Cn} {S : SupS} {ch seen : Int} {pp : Value} {F1 F2 F3 : St} (hb : x.ba ≤ 8) [t1 : Take L (ad b) (rtkV s n ch seen pp false) F1] [t2 : Take F1 (ad s) (RSupO w S) F2] [t3 : Take F2 (ad w) (RWO x rm rp rs re) F3] [t4 : Take F3 (ad rp) (RSkO rm x.pool) G] :
  FX 183 [zp b] L
   (fun v L' => ∃ p, v = .tuple #[] ∧ L' = rtkB b s 1 ch seen (zp p) false :: pt (ad p) (RPopO rp (PopS.init x.ba)) :: pt (ad s) (RSupO w S) :: F2) := by
 refine Fm Tryz.func183 k183 ?_
 dsimp only [c183, eL]
 refine Xe (Et (Eo t1.out) (Ec (Et (Eo t2.out) (Ec (Et (Eo t3.out) (Ec (Eo t4.out))))))) ?_
 refine Xo (a := ad s) rfl ?_
 rintro ⟨st, lm⟩
 simp only [rsupL, lc, ln]
 refine Cx.orde rfl kr_ (ge ?_)
 refine Ea kr_ rfl rfl (refPopNew (sb := rp) (rm := rm) (k := x.pool) (x.ba : Int)) (Pd kr_) ?_
 rintro v L' ⟨p, rfl, rfl⟩
 refine ge ?_
 refine Es (b := b) kr_ rfl rfl rfl rfl rfl (by rfl) rfl (Pd kr_) (ge ?_)
 refine Es (b := b) kr_ rfl rfl rfl rfl rfl (by rfl) rfl (Pd kr_) (ge ?_)
 refine Kr.none (.inl rfl) ?_ ⟨p, rfl, rfl⟩
 refine Et (Ek (a := ad b)) (Ec ?_)
 refine Et (Ek (a := ad p)) (Ec ?_)
 refine Et (RSupO.close (a := ad s) (st := st) (lm := lm) (w := w) S rfl rfl rfl) (Ec ?_)
 refine Et ?_ (Eo t3.back)
 refine Et ?_ (Ec (Eo t4.back))
 exact ent
end
theorem holds_perm {L M : St} (p : L.Perm M) : ∀ {h : Hp}, holds L h → holds M h := by
 induction p with
 | nil => exact fun H => H
 | cons x _ ih => exact fun H => holds_cons (fun _ => ih) H
 | swap x y l => exact fun H => holds_swap H
 | trans _ _ ih1 ih2 => exact fun H => ih2 (ih1 H)
theorem Ent.perm {L M : St} (p : L.Perm M) : Ent L M := .of fun _ => holds_perm p
def many (n : Nat) (f : Nat → St) : St := (List.range n).flatMap f
def updS (f : Nat → St) (i : Nat) (s : St) : Nat → St := fun j => if j = i then s else f j
theorem Ent.deep {M N G : St} : Ent (N ++ (M ++ G)) (M ++ (N ++ G)) := by
 rw [← List.append_assoc, ← List.append_assoc]; exact .perm (List.perm_append_comm.append_right _)
theorem many_zero (f : Nat → St) : many 0 f = [] := rfl
theorem many_succ (n : Nat) (f : Nat → St) : many (n + 1) f = many n f ++ f n := by simp [many, List.range_succ]
theorem many_congr {n : Nat} {f g : Nat → St} (h : ∀ i, i < n → f i = g i) : many n f = many n g := by
 induction n with
 | zero => rfl
 | succ n ih => rw [many_succ, many_succ, ih fun i hi => h i (by omega), h n (by omega)]
theorem updS_same (f : Nat → St) (i : Nat) (s : St) : updS f i s i = s := if_pos rfl
theorem updS_ne (f : Nat → St) {i j : Nat} (s : St) (h : j ≠ i) : updS f i s j = f j := if_neg h
theorem updS_updS (f : Nat → St) (i : Nat) (s t : St) : updS (updS f i s) i t = updS f i t := by
 funext j; unfold updS; split <;> rfl
theorem many_perm {n : Nat} {f : Nat → St} : ∀ {i : Nat}, i < n → (many n f).Perm (f i ++ many n (updS f i [])) := by
 induction n with
 | zero => intro i h; omega
 | succ n ih =>
   intro i h
   rw [many_succ, many_succ]
   by_cases e : i = n
   ·subst e
    rw [updS_same, List.append_nil, many_congr (g := f) fun j hj => updS_ne f [] (by omega)]
    exact List.perm_append_comm
   ·rw [updS_ne f [] (show n ≠ i by omega), ← List.append_assoc]
    exact (ih (by omega)).append_right _
theorem Ent.one {n i : Nat} {f : Nat → St} {G : St} (h : i < n) : Ent (many n f ++ G) (f i ++ (many n (updS f i []) ++ G)) := by
 rw [← List.append_assoc]; exact .perm ((many_perm h).append_right _)
theorem Ent.oneBack {n i : Nat} {f : Nat → St} {s : St} {G : St} (h : i < n) : Ent (s ++ (many n (updS f i []) ++ G)) (many n (updS f i s) ++ G) := by
 have := (many_perm (f := updS f i s) h).append_right G
 rw [updS_same, updS_updS, List.append_assoc] at this
 exact .perm this.symm
theorem Ent.app {A B X : St} (h : Ent A B) : Ent (X ++ A) (X ++ B) := by
 induction X with
 | nil => exact h
 | cons P X ih => exact Ec ih
theorem Ent.dropA {A B : St} : Ent (A ++ B) B := by
 induction A with
 | nil => exact Er _
 | cons P X ih => exact Et Ed ih
class Many (L : St) (n : outParam Nat) (f : outParam (Nat → St)) (N G : outParam St) : Prop where
 eq : L = N ++ (many n f ++ G)
instance (priority := high) Many.here (n : Nat) (f : Nat → St) (G : St) : Many (many n f ++ G) n f [] G := ⟨rfl⟩
instance Many.there (P : As) (L : St) (n : Nat) (f : Nat → St) (N G : St) [t : Many L n f N G] : Many (P :: L) n f (P :: N) G := ⟨by rw [t.eq]; rfl⟩
theorem Ent.ith {L : St} {n : Nat} {f : Nat → St} {N G : St} [t : Many L n f N G] (i : Nat) (h : i < n) : Ent L (f i ++ (N ++ (many n (updS f i []) ++ G))) := by
 rw [t.eq]
 exact Et Ent.deep (Et (Ent.one h) (Ent.app Ent.deep))
theorem Ent.ithBack {n : Nat} {f : Nat → St} {N G s : St} {i : Nat} (h : i < n) : Ent (s ++ (N ++ (many n (updS f i []) ++ G))) (N ++ (many n (updS f i s) ++ G)) :=
 Et (Ent.app Ent.deep) (Et (Ent.oneBack h) Ent.deep)
theorem entm {L M : St} (h : Ent L M := by repeat (first | exact Er _ | (refine Em ?_) | (refine Et Ed ?_) | (refine Et Ent.dropA ?_))) : Ent L M := h
theorem updS_id (f : Nat → St) (i : Nat) : updS f i (f i) = f := by
 funext j; unfold updS; split
 ·rename_i h; rw [h]
 ·rfl
def ptrs (n : Nat) (U : Nat → Nat) : List Value := (List.range n).map fun i => .pointer (some ⟨U i, 0, none⟩)
theorem ptrs_succ (n : Nat) (U : Nat → Nat) : ptrs (n + 1) U = ptrs n U ++ [.pointer (some ⟨U n, 0, none⟩)] := by simp [ptrs, List.range_succ]
theorem ptrs_get {n i : Nat} {U : Nat → Nat} (h : i < n) : (ptrs n U)[i]? = some (.pointer (some ⟨U i, 0, none⟩)) := by simp [ptrs, h]
theorem ptrs_congr {n : Nat} {U V : Nat → Nat} (h : ∀ i, i < n → U i = V i) : ptrs n U = ptrs n V := by
 unfold ptrs
 refine List.map_congr_left fun i hi => ?_
 rw [h i (List.mem_range.1 hi)]
structure Who where
 u : Nat
 pb : Nat
 s : Nat
section
variable {L F G : St}
def whoL (mp w : Nat) (x : Cn) (q : Who) (S S2 : SupS) : St :=
 [pt (ad q.u) (SupO mp q.pb x S), pt (ad q.pb) (SkO mp x.pool), pt (ad q.s) (RSupO w S2)]
end
end
structure Rt where
 gen : Nat
 mrk : Nat
 cl : Nat
 off : Nat
def rtOf (w : Nat) : Rt := ⟨w / 4294967296, w / 65536 % 65536, w / 4096 % 16, w % 4096⟩
def Rt.w (r : Rt) : Nat := r.gen * 4294967296 + r.mrk * 65536 + r.cl * 4096 + r.off
structure Rt.ok (r : Rt) : Prop where
 g : r.gen < 4294967296
 m : r.mrk ≤ 4097
 c : r.cl ≤ 3
 o : r.off ≤ 1024
theorem rtOf_w {r : Rt} (h : r.ok) : rtOf r.w = r := by
 obtain ⟨g, m, c, o⟩ := r
 obtain ⟨h1, h2, h3, h4⟩ := h
 dsimp only at h1 h2 h3 h4
 unfold rtOf Rt.w
 dsimp only
 rw [show (g * 4294967296 + m * 65536 + c * 4096 + o) / 4294967296 = g by omega, show (g * 4294967296 + m * 65536 + c * 4096 + o) / 65536 % 65536 = m by omega,
  show (g * 4294967296 + m * 65536 + c * 4096 + o) / 4096 % 16 = c by omega, show (g * 4294967296 + m * 65536 + c * 4096 + o) % 4096 = o by omega]
theorem Rt.w_lt {r : Rt} (h : r.ok) : r.w < 18446744073709551616 := by
 obtain ⟨h1, h2, h3, h4⟩ := h
 unfold Rt.w; omega
theorem rtOf_gen {w : Nat} (h : w < 18446744073709551616) : (rtOf w).gen < 4294967296 := by show w / 4294967296 < _; omega
theorem rtOf_mrk (w : Nat) : (rtOf w).mrk < 65536 := by show w / 65536 % 65536 < _; omega
theorem rtOf_cl (w : Nat) : (rtOf w).cl < 16 := by show w / 4096 % 16 < _; omega
theorem rtOf_off (w : Nat) : (rtOf w).off < 4096 := by show w % 4096 < _; omega
theorem rt_zero_ok : (rtOf 0).ok := ⟨by decide, by decide, by decide, by decide⟩
def Rt.live (r : Rt) (gen : Int) : Prop := 1 ≤ r.mrk ∧ (r.gen : Int) = gen
instance (r : Rt) (gen : Int) : Decidable (r.live gen) := by unfold Rt.live; infer_instance
def Rt.chunk (r : Rt) : Int := if r.mrk < 2 then -1 else (r.mrk : Int) - 2
def roundS (cl n : Nat) : Nat := (n + 2 ^ cl - 1) / 2 ^ cl * 2 ^ cl
def fitsS (wd off need : Nat) : Prop := 2 * need ≤ wd ∧ off + need ≤ wd
instance (wd off need : Nat) : Decidable (fitsS wd off need) := by unfold fitsS; infer_instance
def afterS (wd need : Nat) : Nat := if wd < 2 * need then wd else need
theorem roundS_cases {cl n : Nat} (h : cl ≤ 3) : (cl = 0 ∧ roundS cl n = n) ∨ (cl = 1 ∧ roundS cl n = (n + 1) / 2 * 2) ∨ (cl = 2 ∧ roundS cl n = (n + 3) / 4 * 4) ∨ (cl = 3 ∧ roundS cl n = (n + 7) / 8 * 8) := by
 rcases (show cl = 0 ∨ cl = 1 ∨ cl = 2 ∨ cl = 3 by omega) with rfl | rfl | rfl | rfl
 ·exact .inl ⟨rfl, by unfold roundS; omega⟩
 ·exact .inr (.inl ⟨rfl, by unfold roundS; omega⟩)
 ·exact .inr (.inr (.inl ⟨rfl, by unfold roundS; omega⟩))
 ·exact .inr (.inr (.inr ⟨rfl, by unfold roundS; omega⟩))
theorem roundS_le {cl n wd : Nat} (h : cl ≤ 3) (hn : n ≤ wd) (hw : wd % 8 = 0) : roundS cl n ≤ wd := by
 rcases roundS_cases (n := n) h with h | h | h | h <;> omega
theorem roundS_ge {cl n : Nat} (h : cl ≤ 3) : n ≤ roundS cl n := by
 rcases roundS_cases (n := n) h with h | h | h | h <;> omega
theorem roundS_lt {cl n : Nat} (h : cl ≤ 3) : roundS cl n < n + 8 := by
 rcases roundS_cases (n := n) h with h | h | h | h <;> omega
theorem afterS_le {wd need : Nat} (h : need ≤ wd) : afterS wd need ≤ wd := by unfold afterS; split <;> omega
structure CreS where
 at_ : Nat
 cnt : Nat
 slot : Int
 point : Nat
 was : Nat
 code : Nat
 q : PopS
 done : Bool
def CreS.init : CreS := ⟨0, 0, -1, 0, 0, 0, PopS.init 1, false⟩
def nextRt (cl w : Nat) : Rt := ⟨laterT (rtOf w).gen, 1, cl, 0⟩
theorem nextRt_ok {cl w : Nat} (h : w < 18446744073709551616) (hc : cl ≤ 3) : (nextRt cl w).ok := ⟨laterT_lt (rtOf_gen h), by show 1 ≤ 4097; omega, hc, by show 0 ≤ 1024; omega⟩
def crPopped (c : CreS) : CreS :=
 match c.q.got with
 | [] => { c with point := c.cnt, code := 7, done := true }
 | s :: _ => { c with point := c.cnt, slot := s, at_ := 1 }
def crStep (k : Sk) (ro cl : Nat) (m : Mm) (c : CreS) : CreS × Mm :=
 if c.done then (c, m) else
 match c.at_ with
 | 0 => if (popStep k m c.q).1.done then (crPopped { c with cnt := c.cnt + 1, q := (popStep k m c.q).1 }, (popStep k m c.q).2) else ({ c with cnt := c.cnt + 1, q := (popStep k m c.q).1 }, (popStep k m c.q).2)
 | 1 => ({ c with cnt := c.cnt + 1, was := m.at_ (ro + c.slot.toNat), at_ := 2 }, m.tick)
 | _ => ({ c with cnt := c.cnt + 1, done := true }, m.put (ro + c.slot.toNat) (nextRt cl c.was).w)
structure CreS.ok (k : Sk) (c : CreS) : Prop where
 a : c.at_ ≤ 2
 q : c.q.ok k
 w : c.was < 18446744073709551616
 s : c.at_ ≠ 0 → 0 ≤ c.slot ∧ c.slot < k.n
 n : c.cnt ≤ 1000000
def crIt (k : Sk) (ro cl : Nat) : Nat → CreS × Mm → CreS × Mm
 | 0, r => r
 | j + 1, r => crStep k ro cl (crIt k ro cl j r).2 (crIt k ro cl j r).1
structure EndS where
 at_ : Nat
 cnt : Nat
 was : Nat
 code : Nat
 chunk : Int
 point : Nat
 done : Bool
def EndS.init : EndS := ⟨0, 0, 0, 0, -1, 0, false⟩
def endStep (a : Nat) (gen : Int) (m : Mm) (e : EndS) : EndS × Mm :=
 if e.done then (e, m) else
 match e.at_ with
 | 0 => (if (rtOf (m.at_ a)).live gen then { e with cnt := e.cnt + 1, was := m.at_ a, at_ := 1 } else { e with cnt := e.cnt + 1, was := m.at_ a, code := 3, point := e.cnt + 1, done := true }, m.tick)
 | _ => (if m.at_ a = e.was then { e with cnt := e.cnt + 1, chunk := (rtOf e.was).chunk, point := e.cnt + 1, done := true } else { e with cnt := e.cnt + 1, at_ := 0 }, m.cas a e.was (Rt.w ⟨(rtOf e.was).gen, 0, 0, 0⟩))
structure Hd where
 slot : Int
 gen : Int
 chunk : Int
 off : Int
 len : Int
def Hd.zero : Hd := ⟨0, 0, 0, 0, 0⟩
structure AlV where
 cnt : Nat
 hand : Int
 zat : Nat
 asked : Bool
 ends : Bool
 need : Nat
 point : Nat
 was : Nat
 code : Nat
 obj : Hd
structure AlS where
 at_ : Nat
 v : AlV
 t : TakeS
 g : PushS
 done : Bool
def AlV.init : AlV := ⟨0, -1, 0, false, false, 0, 0, 0, 0, Hd.zero⟩
section
open Go
attribute [local irreducible] Sx Cx Rx Fx Krg Ksq Kbl Klp Kr
section
variable {L F G : St}
abbrev rtL (r : Rt) : List Value := [ii (r.gen : Nat), ii (r.mrk : Nat), ii (r.cl : Nat), ii (r.off : Nat)]
abbrev rtV (r : Rt) : Value := .agg #[ii (r.gen : Nat), ii (r.mrk : Nat), ii (r.cl : Nat), ii (r.off : Nat)]
theorem getRoot (w : Nat) (hw : w < 18446744073709551616) : FX 93 [wd w] L (fun v L' => v = rtV (rtOf w) ∧ L = L') := by
 refine Fm Tryz.func93 k93 ?_
 dsimp only [c93, eL]
 refine Cx.sq ?_
 refine Cx.rg ?_
 refine Sx.al fun g => (go ?_)
 refine Sa rfl (bitsGet w 32 32 hw (by omega) (by omega)) ?_
 rintro v L' ⟨rfl, rfl⟩
 refine go ?_
 refine Sa rfl (bitsGet w 16 16 hw (by omega) (by omega)) ?_
 rintro v L' ⟨rfl, rfl⟩
 refine go ?_
 refine Sa rfl (bitsGet w 12 4 hw (by omega) (by omega)) ?_
 rintro v L' ⟨rfl, rfl⟩
 refine go ?_
 refine Sa rfl (bitsGet w 0 12 hw (by omega) (by omega)) ?_
 rintro v L' ⟨rfl, rfl⟩
 refine go ?_
 have e1 : w / 2 ^ 32 % 2 ^ 32 = (rtOf w).gen := by show _ = w / 4294967296; omega
 have e2 : w / 2 ^ 16 % 2 ^ 16 = (rtOf w).mrk := rfl
 have e3 : w / 2 ^ 12 % 2 ^ 4 = (rtOf w).cl := rfl
 have e4 : w / 2 ^ 0 % 2 ^ 12 = (rtOf w).off := by show _ = w % 4096; omega
 have h1 := rtOf_gen hw
 have h2 := rtOf_mrk w
 have h3 := rtOf_cl w
 have h4 := rtOf_off w
 rw [e1, e2, e3, e4, w64 (n := ((rtOf w).gen : Int)) (by omega) (by omega), w64 (n := ((rtOf w).mrk : Int)) (by omega) (by omega), w64 (n := ((rtOf w).cl : Int)) (by omega) (by omega), w64 (n := ((rtOf w).off : Int)) (by omega) (by omega)]
 refine Sx.st (b := g) rfl rfl rfl rfl rfl rfl ?_
 dsimp only [lay]
 refine go ?_
 exact Kr_cell (b := g) (.inr rfl) rfl rfl (L' := L) Ed ⟨rfl, rfl⟩
set_option maxHeartbeats 1000000 in
theorem putRoot (r : Rt) (h : r.ok) : FX 227 [rtV r] L (fun v L' => v = .tuple #[wd r.w, .bool true] ∧ L = L') := by
 obtain ⟨h1, h2, h3, h4⟩ := h
 refine Fm Tryz.func227 k227 ?_
 dsimp only [c227, eL]
 refine Cx.sq ?_
 refine Cx.rg ?_
 refine Sx.bx rfl rfl fun g => (go ?_)
 iterate 4
  refine Sa rfl (wordWithin _ _ _ (by omega) (by omega)) ?_
  rintro v L' ⟨rfl, rfl⟩
  refine go ?_
 rw [wrap64 (n := r.off) (by omega)]
 refine Sa rfl (bitsPut 0 0 12 r.off (by omega) (by omega) (by omega) (by omega)) ?_
 rintro v L' ⟨rfl, rfl⟩
 refine go ?_
 rw [wrap64 (n := r.cl) (by omega)]
 refine Sa rfl (bitsPut (r.off * 2 ^ 0 + 0) 12 4 r.cl (by omega) (by omega) (by omega) (by omega)) ?_
 rintro v L' ⟨rfl, rfl⟩
 refine go ?_
 rw [wrap64 (n := r.mrk) (by omega)]
 refine Sa rfl (bitsPut (r.cl * 2 ^ 12 + (r.off * 2 ^ 0 + 0)) 16 16 r.mrk (by omega) (by omega) (by omega) (by omega)) ?_
 rintro v L' ⟨rfl, rfl⟩
 refine go ?_
 rw [wrap64 (n := r.gen) (by omega)]
 refine Sa rfl (bitsPut (r.mrk * 2 ^ 16 + (r.cl * 2 ^ 12 + (r.off * 2 ^ 0 + 0))) 32 32 r.gen (by omega) (by omega) (by omega) (by omega)) ?_
 rintro v L' ⟨rfl, rfl⟩
 refine go ?_
 refine Kr.two (.inr rfl) rfl rfl Ed ⟨?_, rfl⟩
 rw [show r.gen * 2 ^ 32 + (r.mrk * 2 ^ 16 + (r.cl * 2 ^ 12 + (r.off * 2 ^ 0 + 0))) = r.w by unfold Rt.w; omega]
theorem wordLive (r : Rt) (gen : Int) : FX 152 [rtV r, ii gen] L (fun v L' => v = .bool (decide (r.live gen)) ∧ L = L') := by
 refine Fm Tryz.func152 k152 ?_
 dsimp only [c152, eL]
 refine Cx.sq ?_
 refine Cx.rg ?_
 refine Sx.bx rfl rfl fun g => (go ?_)
 refine Sx.ifp rfl (fun h => ?_) (fun h => ?_)
 ·refine go ?_
  refine Ko rfl Ed ⟨congrArg Value.bool (decide_eq_decide.2 ?_), rfl⟩
  unfold Rt.live
  omega
 ·refine go ?_
  refine Ko rfl Ed ⟨congrArg Value.bool (dz (fun hh => h ?_)).symm, rfl⟩
  have := hh.1
  omega
theorem wordChunk (r : Rt) (h : r.mrk < 65536) : FX 213 [rtV r] L (fun v L' => v = ii r.chunk ∧ L = L') := by
 refine Fm Tryz.func213 k213 ?_
 dsimp only [c213, eL]
 refine Cx.sq ?_
 refine Cx.rg ?_
 refine Sx.bx rfl rfl fun g => (go ?_)
 refine Xi rfl (fun h => ?_) (fun h => ?_)
 ·refine go ?_
  refine Ko rfl Ed ⟨congrArg (Value.int .i64) ?_, rfl⟩
  unfold Rt.chunk
  rw [if_pos (by omega)]
 ·refine go ?_
  rw [w64 (n := (r.mrk : Int) - 2) (by omega) (by omega)]
  refine Ko rfl Ed ⟨congrArg (Value.int .i64) ?_, rfl⟩
  unfold Rt.chunk
  rw [if_neg (by omega)]
theorem sizeRound (cl n : Nat) (hc : cl ≤ 3) (hn : 1 ≤ n) (hn2 : n ≤ 1024) : FX 154 [ii cl, ii n] L (fun v L' => v = ii (roundS cl n : Nat) ∧ L = L') := by
 refine Fm Tryz.func154 k154 ?_
 dsimp only [c154, eL]
 have hr := roundS_cases (n := n) hc
 refine go ?_
 refine Sx.gyes rfl (dz (by omega)) (go ?_)
 refine Xn rfl (dz (by omega)) (go ?_)
 have e1 : (bif true then (if (cl : Int) < 0 then (0 : Int) else (cl : Int)) else (if (0 : Int) < (cl : Int) then (0 : Int) else (cl : Int))) = cl := by
  rw [cond_true, if_neg (by omega)]
 have e2 : (bif false then (if (cl : Int) < 3 then (3 : Int) else (cl : Int)) else (if (3 : Int) < (cl : Int) then (3 : Int) else (cl : Int))) = cl := by
  rw [cond_false, if_neg (by omega)]
 rw [e1, e2]
 refine Sv rfl (by omega) ?_
 have hp : 1 ≤ 2 ^ cl ∧ 2 ^ cl ≤ 8 := by rcases (show cl = 0 ∨ cl = 1 ∨ cl = 2 ∨ cl = 3 by omega) with rfl | rfl | rfl | rfl <;> decide
 have e3 : min (cl : Int).toNat IntKind.i64.bits = cl := by rw [tn]; exact Nat.min_eq_left (by show cl ≤ 64; omega)
 obtain ⟨P, hP⟩ : ∃ P, P = 2 ^ cl := ⟨_, rfl⟩
 rw [← hP] at hp
 rw [e3, show (1 : Int) * 2 ^ cl = ((2 ^ cl : Nat) : Int) by push_cast; omega, ← hP, w64 (n := (P : Int)) (by omega) (by omega)]
 refine go ?_
 rw [w64 (n := (n : Int) + P) (by omega) (by omega), w64 (n := (n : Int) + P - 1) (by omega) (by omega)]
 refine Sv rfl (by omega) ?_
 have e4 : Int.tdiv ((n : Int) + P - 1) P = (((n + P - 1) / P : Nat) : Int) := by
  rw [show (n : Int) + P - 1 = ((n + P - 1 : Nat) : Int) by omega]; rfl
 have e5 : (n + P - 1) / P * P ≤ n + P - 1 := Nat.div_mul_le_self _ _
 have e6 : (n + P - 1) / P ≤ n + P - 1 := Nat.div_le_self _ _
 have e7 : roundS cl n = (n + P - 1) / P * P := by unfold roundS; rw [hP]
 have e8 : (((n + P - 1) / P : Nat) : Int) * (P : Int) = (((n + P - 1) / P * P : Nat) : Int) := by push_cast; rfl
 obtain ⟨D, hD⟩ : ∃ D, (n + P - 1) / P = D := ⟨_, rfl⟩
 rw [hD] at e4 e5 e6 e7 e8
 obtain ⟨E, hE⟩ : ∃ E, D * P = E := ⟨_, rfl⟩
 rw [hE] at e5 e7 e8
 rw [e4, w64 (n := (D : Int)) (by omega) (by omega)]
 refine go ?_
 rw [e8, w64 (n := (E : Int)) (by omega) (by omega), ← e7]
 exact Ko rfl (Er _) ⟨rfl, rfl⟩
theorem sizeRight (wd need : Nat) (hw : 1 ≤ wd) (hw2 : wd ≤ 1024) (hn : 1 ≤ need) (hn2 : need ≤ wd) : FX 210 [ii wd, ii need] L (fun v L' => v = .bool true ∧ L = L') := by
 refine Fm Tryz.func210 k210 ?_
 dsimp only [c210, eL]
 refine go ?_
 iterate 3 (refine Sx.gyes rfl (dt (by omega)) ?_; refine go ?_)
 refine Ko rfl (Er _) ⟨congrArg Value.bool (dt (by omega)), rfl⟩
theorem sizeAlone (wd need : Nat) (hw : 1 ≤ wd) (hw2 : wd ≤ 1024) (hn : 1 ≤ need) (hn2 : need ≤ wd) : FX 211 [ii wd, ii need] L (fun v L' => v = .bool (decide (wd < 2 * need)) ∧ L = L') := by
 refine Fm Tryz.func211 k211 ?_
 dsimp only [c211, eL]
 refine go ?_
 refine Sa rfl (sizeRight wd need hw hw2 hn hn2) ?_
 rintro v L' ⟨rfl, rfl⟩
 refine go ?_
 rw [w64 (n := 2 * (need : Int)) (by omega) (by omega)]
 refine Ko rfl (Er _) ⟨congrArg Value.bool (decide_eq_decide.2 (by omega)), rfl⟩
theorem sizeFits (wd off need : Nat) (hw : 1 ≤ wd) (hw2 : wd ≤ 1024) (hn : 1 ≤ need) (hn2 : need ≤ wd) : FX 155 [ii wd, ii off, ii need] L (fun v L' => v = .bool (decide (fitsS wd off need)) ∧ L = L') := by
 refine Fm Tryz.func155 k155 ?_
 dsimp only [c155, eL]
 refine go ?_
 refine Sa rfl (sizeRight wd need hw hw2 hn hn2) ?_
 rintro v L' ⟨rfl, rfl⟩
 refine go ?_
 refine Sa rfl (sizeAlone wd need hw hw2 hn hn2) ?_
 rintro v L' ⟨rfl, rfl⟩
 by_cases h : wd < 2 * need
 ·rw [dt h]
  refine go ?_
  refine Ko rfl (Er _) ⟨congrArg Value.bool (dz (fun hh => ?_)).symm, rfl⟩
  have := hh.1; omega
 ·rw [dz h]
  refine go ?_
  rw [w64 (n := (wd : Int) - need) (by omega) (by omega)]
  refine Ko rfl (Er _) ⟨congrArg Value.bool (decide_eq_decide.2 ?_), rfl⟩
  unfold fitsS; omega
theorem sizeAfter (wd need : Nat) (hw : 1 ≤ wd) (hw2 : wd ≤ 1024) (hn : 1 ≤ need) (hn2 : need ≤ wd) : FX 247 [ii wd, ii need] L (fun v L' => v = ii (afterS wd need : Nat) ∧ L = L') := by
 refine Fm Tryz.func247 k247 ?_
 dsimp only [c247, eL]
 refine go ?_
 refine Sa rfl (sizeRight wd need hw hw2 hn hn2) ?_
 rintro v L' ⟨rfl, rfl⟩
 refine go ?_
 refine Sa rfl (sizeAlone wd need hw hw2 hn hn2) ?_
 rintro v L' ⟨rfl, rfl⟩
 by_cases h : wd < 2 * need
 ·rw [dt h]
  refine go ?_
  refine Ko rfl (Er _) ⟨by unfold afterS; rw [if_pos h], rfl⟩
 ·rw [dz h]
  refine go ?_
  refine Ko rfl (Er _) ⟨by unfold afterS; rw [if_neg h], rfl⟩
def Cn.root (x : Cn) : Nat := 3 + x.w
def Cn.word (x : Cn) : Nat := 3 + x.w + x.sl + x.sl + x.c
theorem layRootN {x : Cn} (h : x.ok) (n : Nat) (hn : n < x.sl) : FX 94 [x.v, ii n] L (fun v L' => v = ii ((x.root + n : Nat) : Int) ∧ L = L') := by
 refine (layRoot _ _ _ _ _ _ h (n : Int)).mono ?_
 rintro v L' ⟨rfl, rfl⟩
 refine ⟨congrArg (Value.int .i64) ?_, rfl⟩
 unfold cellC
 rw [if_pos ⟨by omega, by simp only [manyC]; omega⟩]
 simp only [startC, Cn.root]
 push_cast; rfl
theorem laySlotN {x : Cn} (h : x.ok) (n : Nat) (hn : n < x.sl) : FX 140 [x.v, ii n] L (fun v L' => v = ii ((x.slot + n : Nat) : Int) ∧ L = L') := by
 refine (laySlot _ _ _ _ _ _ h (n : Int)).mono ?_
 rintro v L' ⟨rfl, rfl⟩
 refine ⟨congrArg (Value.int .i64) ?_, rfl⟩
 unfold cellC
 rw [if_pos ⟨by omega, by simp only [manyC]; omega⟩]
 simp only [startC, Cn.slot]
 push_cast; rfl
theorem layWordN {x : Cn} (h : x.ok) (k j : Nat) (hk : k < x.c) (hj : j < x.wd) : FX 24 [x.v, ii k, ii j] L (fun v L' => v = ii ((x.word + k * x.wd + j : Nat) : Int) ∧ L = L') := by
 have hmay : MayC (x.w : Int) x.c x.wd x.sl x.ca x.ba := h
 have hm := MayC.mul hmay
 have hlt : k * x.wd + j < x.c * x.wd := by
  have h1 : (k + 1) * x.wd ≤ x.c * x.wd := Nat.mul_le_mul_right _ hk
  rw [Nat.succ_mul] at h1
  omega
 have hcast : ((x.c * x.wd : Nat) : Int) = (x.c : Int) * x.wd := by push_cast; rfl
 have hcast2 : ((k * x.wd : Nat) : Int) = (k : Int) * x.wd := by push_cast; rfl
 refine Fm Tryz.func24 k24 ?_
 dsimp only [c24, eL]
 refine Cx.sq ?_
 refine Cx.rg ?_
 refine Sx.bx rfl rfl fun g => (go ?_)
 obtain ⟨b1, b2, b3, b4, b5, b6, b7⟩ := hmay
 rw [w64 (n := (x.c : Int) - 1) (by omega) (by omega)]
 refine Sa rfl (within_ (k : Int) 0 ((x.c : Int) - 1)) ?_
 rintro v L' ⟨rfl, rfl⟩
 rw [dt (show (0 : Int) ≤ k ∧ (k : Int) ≤ (x.c : Int) - 1 by omega)]
 refine go ?_
 rw [w64 (n := (x.wd : Int) - 1) (by omega) (by omega)]
 refine Sa rfl (within_ (j : Int) 0 ((x.wd : Int) - 1)) ?_
 rintro v L' ⟨rfl, rfl⟩
 rw [dt (show (0 : Int) ≤ j ∧ (j : Int) ≤ (x.wd : Int) - 1 by omega)]
 refine go ?_
 refine Sa rfl (may_ (x.w : Int) x.c x.wd x.sl x.ca x.ba) ?_
 rintro v L' ⟨rfl, rfl⟩
 rw [dt (show MayC (x.w : Int) x.c x.wd x.sl x.ca x.ba from h)]
 refine go ?_
 rw [w64 (n := (k : Int) * x.wd) (by omega) (by omega), w64 (n := (k : Int) * x.wd + j) (by omega) (by omega)]
 refine Sa rfl (layCell _ _ _ _ _ _ h 4 (by omega) ((k : Int) * x.wd + j) _ (by omega)) ?_
 rintro v L' ⟨rfl, rfl⟩
 refine go ?_
 refine Ko rfl Ed ⟨congrArg (Value.int .i64) ?_, rfl⟩
 unfold cellC
 rw [if_pos ⟨by omega, by simp only [manyC]; omega⟩]
 simp only [startC, Cn.word]
 push_cast; omega
end
end
section
open Go
section
variable {P : Program} {N : Nat} {e : En} {L F : St}
theorem cRs_tc {rs : List ResultVar} {t u n : Nat} {g : Bool} (h : cRs P rs = some [.t t, .c u n g]) : ∃ ty, rs = [.tmp t, .cell u ty] ∧ szT P ty = some n ∧ isAggT P ty = some g := by
 match rs with
 | [] => simp [cRs] at h
 | r :: l =>
   simp only [cRs] at h
   split at h
   ·rename_i r' hr
    split at h
    ·rename_i l' hl
     simp only [Option.some.injEq, List.cons.injEq] at h
     obtain ⟨rfl, rfl⟩ := h
     obtain ⟨ty, rfl, h1, h2⟩ := cRs_cell hl
     cases r with
     | tmp t' => simp [cR] at hr; exact ⟨ty, by rw [hr], h1, h2⟩
     | cell a t' => simp only [cR] at hr; split at hr <;> cases hr
    ·cases h
   ·cases h
theorem Rv_tc {t u n b off : Nat} {x : Value} {vs : List Value} (hx : e.get t = some x) (h : e.get u = some (.pointer (some ⟨b, off, none⟩))) (hh : Has L b off vs) (hn : Nat.beq vs.length n = true) : Rv P N [.t t, .c u n true] e L (.tuple #[x, .agg vs.toArray]) := by
 intro fn a w0 w hr ok s
 obtain ⟨ty, hres, hs, hg⟩ := cRs_tc hr
 have hr2 : fn.results = #[.tmp t, .cell u ty] := by apply Array.ext'; simpa using hres
 have ht := ok.get _ _ h
 have ht2 := ok.get _ _ hx
 have hc := hh w0 w s
 have hn := bq hn
 have hl := run_loadCells_list (P := P) w ⟨b, off, none⟩ vs (fun j v hj => by rw [partPlace]; exact hc j v hj)
 rw [hn] at hl
 simp [results, hr2, ht, ht2, loadVar, isAggT_eq hg, szT_eq hs, hl, asAddr]
theorem Kr_tc {R : Value → St → Prop} {t u n b : Nat} {v : Value} {T : TypeId} {cs : List Value} {x : Ex} [i : Take L (ad b) (Blk T cs) F] (hx : x = .nm ∨ x = .rt) (hv : e.get t = some v) (h : e.get u = some (zp b)) (hn : Nat.beq cs.length n = true)
  {L' : St} (hL : Ent L L') (hR : R (.tuple #[v, .agg cs.toArray]) L') : Kr P N [.t t, .c u n true] R x e L := by
 have hn' := bq hn
 have e1 : (cs.drop 0).take n = cs := by simp [← hn']
 have hb : Has L b 0 cs := by
  have := Has.blk (T := T) (cs := cs) (n := n) (off := 0) (L := L) (b := b)
  rw [e1] at this; exact this
 exact ⟨hx, _, L', Rv_tc hv h hb hn, hL, hR⟩
end
section
variable {P : Program} {N : Nat} {Kf : En → St → Prop} {r : List It} {ms : List (Nat × (St → Prop))} {e : En} {L F : St} {i ds : Nat} {rs : List Nat} {d : Option Nat} {g : Option (Nat × Bool)}
theorem Ev.stnH {x v : X} {b off n : Nat} {T : TypeId} {cs vs : List Value} (ds' : List Value) {u : Value} [t : Take L (ad b) (Blk T cs) F] (hd : lastly i r = true) (hg : gon (e.only rs) g = true)
  (hx : x.get (e.only rs) = some (.pointer (some ⟨b, off, none⟩))) (hv : v.get (e.only rs) = some u) (hu : cellsOf u = some vs) (hn : vs.length = n) (h1 : ones vs = true) (hl : Nat.ble (off + n) cs.length = true) (hds : lay cs off vs = ds')
  (hp : Pres ds (fun v L' => v = undef ∧ L' = pt (ad b) (Blk T ds') :: F) ms)
  (k : Ev P N Kf r ms (e.put d undef) (pt (ad b) (Blk T ds') :: F)) : Ev P N Kf (⟨i, ds, rs, ⟨d, g, .st x v n⟩⟩ :: r) ms e L := by
 subst hds
 exact .genH hd hp hg (fun e' hs K kk => Sx.st (t := t) (X.get_sub hx hs) (X.get_sub hv hs) hu hn h1 hl (Sx.nil (kk _ _ ⟨rfl, rfl⟩)))
  (fun v L' ⟨e1, e2⟩ => by subst e1; subst e2; exact k)
end
end
section
open Go
attribute [local irreducible] Sx Cx Rx Fx Krg Ksq Kbl Klp Kr
section
variable {L F G : St}
theorem machCount {b : Nat} {T : TypeId} {nx z1 z2 z3 : Value} {cnt : Int} {rest : List Value} [t : Take L (ad b) (Blk T (nx :: z1 :: z2 :: z3 :: ii cnt :: rest)) F] : FX 175 [zp b] L (fun v L' => v = ii cnt ∧ L = L') := by
 refine Fm Tryz.func175 k175 ?_
 dsimp only [c175, eL]
 refine go ?_
 exact Ko rfl (Er _) ⟨rfl, rfl⟩
abbrev RoO (mp sb : Nat) (x : Cn) : OA → As := Blk 167 (zp mp :: x.l ++ [zp sb])
set_option maxHeartbeats 1000000 in
theorem rootsNew {mp : Nat} {m : Mm} {x : Cn} (hx : x.ok) (hl : x.len ≤ m.ws.length) [t : Take L (ad mp) (MemO m) F] :
  FX 70 [zp mp, x.v] L (fun v L' => ∃ g sb, v = .tuple #[zp g, ii 0] ∧ L' = pt (ad g) (RoO mp sb x) :: pt (ad sb) (SkO mp x.spare) :: L) := by
 refine Fm Tryz.func70 k70 ?_
 dsimp only [c70, eL]
 refine Cx.pure (memKey (b := mp) (m := m)) fun hm => ?_
 refine Cx.sq ?_
 refine Cx.rg ?_
 refine Sx.bx rfl rfl fun g => (go ?_)
 refine Xd rfl kr_ (ge ?_)
 refine Eb kr_ rfl rfl (may_ (x.w : Int) x.c x.wd x.sl x.ca x.ba) ?_
 rw [dt (show MayC (x.w : Int) x.c x.wd x.sl x.ca x.ba from hx)]
 refine ge ?_
 refine Eb kr_ rfl rfl (cellsLen (b := mp) (m := m)) (ge ?_)
 refine Eb kr_ rfl rfl (layLen (x.w : Int) x.c x.wd x.sl x.ca x.ba hx) ?_
 rw [x.lenC]
 refine ge ?_
 refine Xn rfl (dz (by omega)) (go ?_)
 refine Xd rfl kr_ (ge ?_)
 refine Eb kr_ rfl rfl (laySlotN hx 0 (by have := hx.2.2.2.2.1; omega)) (ge ?_)
 refine Ea kr_ rfl rfl (stackNew (mp := mp) (m := m) (k := x.spare) (hx.spare hl hm.2)) (Pd kr_) ?_
 rintro v L' ⟨sb, rfl, rfl⟩
 refine ge ?_
 refine go ?_
 refine Sx.bx rfl rfl fun q => (go ?_)
 exact Kr.two (.inr rfl) rfl rfl (Ec (Ec Ed)) ⟨q, sb, rfl, rfl⟩
def zeroRt (x : Cn) (m : Mm) : Nat → Mm
 | 0 => m
 | i + 1 => (zeroRt x m i).lay (x.root + i) 0
theorem zeroRt_len (x : Cn) (m : Mm) : ∀ i, (zeroRt x m i).ws.length = m.ws.length
 | 0 => rfl
 | i + 1 => by simp only [zeroRt, Mm.len_lay]; exact zeroRt_len x m i
theorem lay_same {m : Mm} {i v : Nat} (h : i < m.ws.length) (e : m.at_ i = v) : m.lay i v = m := by
 have hg := Mm.get h
 unfold Mm.lay
 rw [← e]
 congr 1
 rw [List.getElem?_eq_getElem h] at hg
 have e2 : m.at_ i = m.ws[i] := by simpa using hg.symm
 rw [e2]
 exact List.set_getElem_self h
theorem zeroRt_same {x : Cn} {m : Mm} (hl : x.root + x.sl ≤ m.ws.length) (h : ∀ i, i < x.sl → m.at_ (x.root + i) = 0) : ∀ i, i ≤ x.sl → zeroRt x m i = m
 | 0, _ => rfl
 | i + 1, hi => by
   simp only [zeroRt]
   rw [zeroRt_same hl h i (by omega)]
   exact lay_same (by omega) (h i (by omega))
set_option maxHeartbeats 1000000 in
theorem rootsFill {g mp sb : Nat} {x : Cn} {m : Mm} {F G H : St} (hx : x.ok) (hl : x.len ≤ m.ws.length) [t : Take L (ad mp) (MemO m) F] [s : Take F (ad sb) (SkO mp x.spare) G] [c : Take G (ad g) (RoO mp sb x) H] :
  FX 73 [zp g] L (fun v L' => L' = pt (ad mp) (MemO (zeroRt x (fillM x.spare m) x.sl)) :: F) := by
 obtain ⟨b1, b2, b3, b4, b5, b6, b7⟩ := show MayC (x.w : Int) x.c x.wd x.sl x.ca x.ba from hx
 have hsz : x.root + x.sl ≤ x.len := by unfold Cn.root Cn.len; omega
 refine Fm Tryz.func73 k73 ?_
 dsimp only [c73, eL]
 refine Xe (Et (Eo t.out) (Ec (Et (Eo s.out) (Ec (Eo c.out))))) ?_
 refine Cx.pure (memKey (b := mp) (m := m)) fun hm => (go ?_)
 refine Sa rfl (stackFill (sb := sb) (mp := mp) (k := x.spare) (m := m) (hx.spare hl hm.2)) ?_
 rintro v L' rfl
 refine go ?_
 refine Cx.lp (α := {i : Nat // i ≤ x.sl}) (fun i => [(0, zp g), (12, ii (x.sl : Nat)), (13, ii i.1)])
  (fun i => pt (ad mp) (MemO (zeroRt x (fillM x.spare m) i.1)) :: pt (ad sb) (SkO mp x.spare) :: pt (ad g) (RoO mp sb x) :: H) (fun i => x.sl - i.1) ⟨0, by omega⟩ sb3 (Er _) ?_
 rintro ⟨i, hi⟩
 have hzl := zeroRt_len x (fillM x.spare m) i
 rw [fillM_len] at hzl
 dsimp only
 refine go ?_
 refine Xi rfl (fun h => ?_) (fun h => ?_)
 ·refine go ?_
  refine Cx.orde rfl kr_ (ge ?_)
  refine Eb kr_ rfl rfl (layRootN hx i (by omega)) (ge ?_)
  refine Ea kr_ rfl rfl (cellsLay (b := mp) (m := zeroRt x (fillM x.spare m) i) (x.root + i) 0 (by omega) (by omega)) (Pd kr_) ?_
  rintro v L' ⟨rfl, rfl⟩
  refine ge ?_
  refine go ?_
  rw [w64 (n := (i : Int) + 1) (by omega) (by omega)]
  exact Kn ⟨i + 1, by omega⟩ sb3 (Er _) (by dsimp only; omega)
 ·obtain rfl : i = x.sl := by omega
  refine go ?_
  exact Kr.none (.inl rfl) (Ec (Et (Ec (Eo c.back)) (Eo s.back))) rfl
abbrev GrO (mp : Nat) (x : Cn) : OA → As := Blk 146 (zp mp :: x.l)
theorem grantNew {mp : Nat} {m : Mm} {x : Cn} (hx : x.ok) (hl : x.len ≤ m.ws.length) [t : Take L (ad mp) (MemO m) F] :
  FX 18 [zp mp, x.v] L (fun v L' => ∃ g, v = .tuple #[zp g, ii 0] ∧ L' = pt (ad g) (GrO mp x) :: L) := by
 refine Fm Tryz.func18 k18 ?_
 dsimp only [c18, eL]
 refine Cx.sq ?_
 refine Cx.rg ?_
 refine Sx.bx rfl rfl fun g => (go ?_)
 refine Sa rfl (rootsNew (mp := mp) (m := m) hx hl) ?_
 rintro v L' ⟨r, sb, rfl, rfl⟩
 refine go ?_
 refine Sx.bx rfl rfl fun q => (go ?_)
 exact Kr.two (.inr rfl) rfl rfl (Ec (Et Ed (Et Ed Ed))) ⟨q, rfl, rfl⟩
end
section
variable {L F G : St}
theorem Sx.re {P : Program} {N : Nat} {l : List Go.Proofs.YtflalhdofhobmaaGreat.G} {e : En} {K : En → St → Prop} {b : OA} {T : TypeId} {vs : List Value} {L : St} (vs' : List Value) (h : vs = vs') (k : Sx P N l e K (pt b (Blk T vs') :: L)) : Sx P N l e K (pt b (Blk T vs) :: L) := h ▸ k
abbrev Sr := @Sx.re
theorem cntW {n : Nat} (h : n ≤ 1000000) : IntKind.i64.wrap ((n : Int) + 1) = ((n + 1 : Nat) : Int) := by rw [w64 (by omega) (by omega)]; push_cast; rfl
theorem rootsLoad {g mp sb : Nat} {x : Cn} {m : Mm} {F1 : St} (n : Nat) (hn : n < x.sl) (hx : x.ok) (hm : m.ok) (hl : x.len ≤ m.ws.length) [t : Take L (ad mp) (MemO m) F1] [c : Take F1 (ad g) (RoO mp sb x) G] :
  FX 174 [zp g, ii n] L (fun v L' => v = .tuple #[wd (m.at_ (x.root + n)), rtV (rtOf (m.at_ (x.root + n)))] ∧ L' = pt (ad mp) (MemO m.tick) :: F1) := by
 have hsz : x.root + x.sl ≤ x.len := by unfold Cn.root Cn.len; omega
 refine Fm Tryz.func174 k174 ?_
 dsimp only [c174, eL]
 refine Xe (Et (Eo t.out) (Ec (Eo c.out))) (go ?_)
 refine Sx.al fun q => (go ?_)
 refine Xd rfl kr_ (ge ?_)
 refine Eb kr_ rfl rfl (layRootN hx n hn) (ge ?_)
 refine Ea kr_ rfl rfl (cellsLoad (b := mp) (m := m) (x.root + n) (by omega)) (Pd kr_) ?_
 rintro v L' ⟨rfl, rfl⟩
 refine ge ?_
 refine go ?_
 refine Sa rfl (getRoot (m.at_ (x.root + n)) (Ml hm _)) ?_
 rintro v L' ⟨rfl, rfl⟩
 refine go ?_
 refine Sx.st (b := q) rfl rfl rfl rfl rfl rfl ?_
 dsimp only [lay]
 refine go ?_
 refine Kr_tc (b := q) (.inr rfl) rfl rfl rfl ?_ ⟨rfl, rfl⟩
 exact Et Ed (Ec (Eo c.back))
def CreS.rt (cl : Nat) (c : CreS) : Rt := if c.at_ = 2 then nextRt cl c.was else ⟨0, 0, 0, 0⟩
abbrev crB (b r : Nat) (nx n1 n2 n3 pp : Value) (cl : Nat) (cnt slot : Int) (point : Nat) (rt : Rt) (code : Nat) : As :=
 pt (ad b) (Blk 232 [nx, n1, n2, n3, ii cnt, zp r, ii cl, pp, ii slot, ii (point : Nat), ii (rt.gen : Nat), ii (rt.mrk : Nat), ii (rt.cl : Nat), ii (rt.off : Nat), ii (code : Nat)])
def crPL (T : TypeId) (r sp : Nat) (k : Sk) (cl : Nat) (c : CreS) (a : OA) (y : Nat) : St :=
 [pt a (Blk T [.func (.func 232) #[.pointer a] #[], mth 163 y, mth 164 y, .func (.func 165) #[.pointer a] #[], ii (c.cnt : Nat), zp r, ii cl, zp y, ii c.slot, ii (c.point : Nat), ii ((c.rt cl).gen : Nat), ii ((c.rt cl).mrk : Nat), ii ((c.rt cl).cl : Nat), ii ((c.rt cl).off : Nat), ii (c.code : Nat)]),
  pt (ad y) (PopO sp k c.q)]
def crSL (nx : Value) (T : TypeId) (r : Nat) (cl : Nat) (c : CreS) (a : OA) (y : Value × Value × Value × Value) : St :=
 [pt a (Blk T [nx, y.1, y.2.1, y.2.2.1, ii (c.cnt : Nat), zp r, ii cl, y.2.2.2, ii c.slot, ii (c.point : Nat), ii ((c.rt cl).gen : Nat), ii ((c.rt cl).mrk : Nat), ii ((c.rt cl).cl : Nat), ii ((c.rt cl).off : Nat), ii (c.code : Nat)])]
def CreT (T : TypeId) (r sp : Nat) (k : Sk) (cl : Nat) (c : CreS) (a : OA) : As := bif c.done then exs (crSL .nilFunc T r cl c a) else match c.at_ with
 | 0 => exs (crPL T r sp k cl c a) | 1 => exs (crSL (.func (.func 224) #[.pointer a] #[]) T r cl c a) | _ => exs (crSL (.func (.func 252) #[.pointer a] #[]) T r cl c a)
abbrev CreO := CreT 232
theorem CreO.p {T : TypeId} {r sp : Nat} {k : Sk} {cl : Nat} {c : CreS} {a : OA} (h : c.done = false) (h0 : c.at_ = 0) : CreT T r sp k cl c a = exs (crPL T r sp k cl c a) := by unfold CreT; rw [h, h0]; rfl
theorem CreO.l {T : TypeId} {r sp : Nat} {k : Sk} {cl : Nat} {c : CreS} {a : OA} (h : c.done = false) (h0 : c.at_ = 1) : CreT T r sp k cl c a = exs (crSL (.func (.func 224) #[.pointer a] #[]) T r cl c a) := by unfold CreT; rw [h, h0]; rfl
theorem CreO.s {T : TypeId} {r sp : Nat} {k : Sk} {cl : Nat} {c : CreS} {a : OA} (h : c.done = false) (h0 : c.at_ = 2) : CreT T r sp k cl c a = exs (crSL (.func (.func 252) #[.pointer a] #[]) T r cl c a) := by unfold CreT; rw [h, h0]; rfl
theorem CreO.d {T : TypeId} {r sp : Nat} {k : Sk} {cl : Nat} {c : CreS} {a : OA} (h : c.done = true) : CreT T r sp k cl c a = exs (crSL .nilFunc T r cl c a) := by unfold CreT; rw [h]; rfl
theorem CreO.closeP {b r sp p : Nat} {k : Sk} {cl : Nat} (c : CreS) (h : c.done = false) (h0 : c.at_ = 0) {cnt slot : Int} {point code : Nat} {rt : Rt} {q : PopS} (e1 : cnt = (c.cnt : Nat)) (e2 : slot = c.slot) (e3 : point = c.point) (e4 : rt = c.rt cl) (e5 : code = c.code) (e6 : q = c.q) :
  Ent (crB b r (mth 232 b) (mth 163 p) (mth 164 p) (mth 165 b) (zp p) cl cnt slot point rt code :: pt (ad p) (PopO sp k q) :: G) (pt (ad b) (CreO r sp k cl c) :: G) := by
 subst e1 e2 e3 e4 e5 e6
 exact Ent.close (f := crPL 232 r sp k cl c (ad b)) (CreO.p h h0) p
theorem CreO.closeL {b r sp : Nat} {k : Sk} {cl : Nat} {n1 n2 n3 pp : Value} (c : CreS) (h : c.done = false) (h0 : c.at_ = 1) {cnt slot : Int} {point code : Nat} {rt : Rt} (e1 : cnt = (c.cnt : Nat)) (e2 : slot = c.slot) (e3 : point = c.point) (e4 : rt = c.rt cl) (e5 : code = c.code) :
  Ent (crB b r (mth 224 b) n1 n2 n3 pp cl cnt slot point rt code :: G) (pt (ad b) (CreO r sp k cl c) :: G) := by
 subst e1 e2 e3 e4 e5
 exact Ent.close (f := crSL (mth 224 b) 232 r cl c (ad b)) (CreO.l h h0) (n1, n2, n3, pp)
theorem CreO.closeS {b r sp : Nat} {k : Sk} {cl : Nat} {n1 n2 n3 pp : Value} (c : CreS) (h : c.done = false) (h0 : c.at_ = 2) {cnt slot : Int} {point code : Nat} {rt : Rt} (e1 : cnt = (c.cnt : Nat)) (e2 : slot = c.slot) (e3 : point = c.point) (e4 : rt = c.rt cl) (e5 : code = c.code) :
  Ent (crB b r (mth 252 b) n1 n2 n3 pp cl cnt slot point rt code :: G) (pt (ad b) (CreO r sp k cl c) :: G) := by
 subst e1 e2 e3 e4 e5
 exact Ent.close (f := crSL (mth 252 b) 232 r cl c (ad b)) (CreO.s h h0) (n1, n2, n3, pp)
theorem CreO.closeD {b r sp : Nat} {k : Sk} {cl : Nat} {n1 n2 n3 pp : Value} (c : CreS) (h : c.done = true) {cnt slot : Int} {point code : Nat} {rt : Rt} (e1 : cnt = (c.cnt : Nat)) (e2 : slot = c.slot) (e3 : point = c.point) (e4 : rt = c.rt cl) (e5 : code = c.code) :
  Ent (crB b r .nilFunc n1 n2 n3 pp cl cnt slot point rt code :: G) (pt (ad b) (CreO r sp k cl c) :: G) := by
 subst e1 e2 e3 e4 e5
 exact Ent.close (f := crSL .nilFunc 232 r cl c (ad b)) (CreO.d h) (n1, n2, n3, pp)
set_option maxHeartbeats 2000000 in
theorem rootsCreate {g mp sb : Nat} {x : Cn} (cl : Nat) (hcl : cl ≤ 3) (hx : x.ok) [c : Take L (ad g) (RoO mp sb x) F] {F2 : St} [s : Take F (ad sb) (SkO mp x.spare) F2] :
  FX 84 [zp g, ii cl] L (fun v L' => ∃ b, v = zp b ∧ L' = pt (ad b) (CreO g sb x.spare cl CreS.init) :: L) := by
 obtain ⟨b1, b2, b3, b4, b5, b6, b7⟩ := show MayC (x.w : Int) x.c x.wd x.sl x.ca x.ba from hx
 refine Fm Tryz.func84 k84 ?_
 dsimp only [c84, eL]
 refine Xe (Et (Eo c.out) (Ec (Eo s.out))) (go ?_)
 have e1 : (bif true then (if (cl : Int) < 0 then (0 : Int) else (cl : Int)) else (if (0 : Int) < (cl : Int) then (0 : Int) else (cl : Int))) = cl := by
  rw [cond_true, if_neg (by omega)]
 have e2 : (bif false then (if (cl : Int) < 3 then (3 : Int) else (cl : Int)) else (if (3 : Int) < (cl : Int) then (3 : Int) else (cl : Int))) = cl := by
  rw [cond_false, if_neg (by omega)]
 rw [e1, e2]
 refine Sa rfl (stackPop (sb := sb) (k := x.spare) 1 (by show 1 ≤ x.sl; omega)) ?_
 rintro v L' ⟨p, rfl, rfl⟩
 refine go ?_
 refine Sx.bx rfl rfl fun b => ?_
 refine Sr [.nilFunc, .nilFunc, .nilFunc, .nilFunc, ii 0, zp g, ii cl, zp p, ii (-1), ii 0, ii 0, ii 0, ii 0, ii 0, ii 0] rfl (go ?_)
 refine Xd rfl kr_ (ge ?_)
 refine Ea kr_ rfl rfl (machThrough (b := b) (machOnNo (b := b) kr_ (popDoneC (b := p) (sb := sb) (k := x.spare) (q := PopS.init 1)))) (Pd kr_) ?_
 rintro v L' ⟨rfl, w, rfl, rfl⟩
 refine ge ?_
 refine go ?_
 refine Ko rfl ?_ ⟨b, rfl, rfl⟩
 refine Et (CreO.closeP (b := b) (r := g) (sp := sb) (p := p) (k := x.spare) (cl := cl) (rt := ⟨0, 0, 0, 0⟩) CreS.init rfl rfl rfl rfl rfl rfl rfl rfl) (Ec ?_)
 exact Et (Ec (Eo s.back)) (Eo c.back)
theorem crNext {b r : Nat} {nx n1 n2 n3 pp : Value} {cl : Nat} {cnt slot : Int} {point code : Nat} {rt : Rt} (w : Rt) (hg : w.gen < 4294967296) [tk : Take L (ad b) (Blk 232 [nx, n1, n2, n3, ii cnt, zp r, ii cl, pp, ii slot, ii (point : Nat), ii (rt.gen : Nat), ii (rt.mrk : Nat), ii (rt.cl : Nat), ii (rt.off : Nat), ii (code : Nat)]) F] :
  FX 251 [zp b, rtV w] L (fun v L' => v = rtV ⟨laterT w.gen, 1, cl, 0⟩ ∧ L = L') := by
 obtain ⟨gn, mk_, cw, ow⟩ := w
 dsimp only at hg ⊢
 refine Fm Tryz.func251 k251 ?_
 dsimp only [c251, eL]
 refine Cx.sq ?_
 refine Cx.rg ?_
 refine Sx.bx rfl rfl fun q => (go ?_)
 refine Sx.al fun o => ?_
 repeat' (first|refine Zo0 rfl ?_|refine Zo1 ?_|refine Zo2 ?_|refine Zo3 ?_|refine Zo4 ?_|refine Zo5 ?_|refine Zo6 ?_|refine Zo7 ?_|refine Zo8 rfl ?_|refine Zo9 rfl ?_|refine Zoa ?_|refine Zob ?_|refine Zoc ?_|refine Zod ?_|refine Zoe ?_|refine Zof ?_|refine Zog ?_|refine Zoh ?_|refine Zom rfl (by rfl) ?_|refine Zon rfl rfl ?_|refine Zoo rfl rfl rfl rfl (by rfl) (by rfl) ?_|refine Zop rfl trivial ?_|refine Zoq rfl rfl rfl ?_)
 refine Xi rfl (fun h => ?_) (fun h => ?_)
 ·refine go ?_
  rw [w64 (n := (gn : Int) + 1) (by omega) (by omega)]
  refine Sx.st (b := o) rfl rfl rfl rfl rfl rfl ?_
  dsimp only [lay]
  refine go ?_
  refine Kr_cell (b := o) (.inr rfl) rfl rfl (L' := L) (Et Ed Ed) ⟨?_, rfl⟩
  dsimp only at h
  unfold laterT
  rw [if_pos (show gn < 4294967295 by omega)]
  rfl
 ·refine go ?_
  refine Sx.st (b := o) rfl rfl rfl rfl rfl rfl ?_
  dsimp only [lay]
  refine go ?_
  refine Kr_cell (b := o) (.inr rfl) rfl rfl (L' := L) (Et Ed Ed) ⟨?_, rfl⟩
  dsimp only at h
  unfold laterT
  rw [if_neg (show ¬ gn < 4294967295 by omega)]
  rfl
end
section
variable {L F G : St}
theorem crPopped_ {b r sp p : Nat} {k : Sk} {cl : Nat} {c : CreS} {n1 n2 n3 : Value} {cnt : Int} (hcnt : cnt = ((c.cnt + 1 : Nat) : Int)) (h0 : c.at_ = 0) (hd : c.done = false) {q : PopS} (hq : q.done = true) (hl : q.got.length ≤ 8) :
  FX 165 [zp b] (crB b r .nilFunc n1 n2 n3 (zp p) cl cnt c.slot c.point (c.rt cl) c.code :: pt (ad p) (PopO sp k q) :: G)
   (fun v L' => L' = pt (ad b) (CreO r sp k cl (crPopped { c with cnt := c.cnt + 1, q := q })) :: G) := by
 subst hcnt
 refine Fm Tryz.func165 k165 ?_
 dsimp only [c165, eL]
 refine go ?_
 refine Sa rfl (machCount (b := b)) ?_
 rintro v L' ⟨rfl, rfl⟩
 refine go ?_
 refine Sa rfl (popGot (b := p) (sb := sp) (k := k) (q := q) hq) ?_
 rintro v L' ⟨ro, co, rfl, rfl⟩
 refine go ?_
 cases hg : q.got with
 | nil =>
   have e : crPopped { c with cnt := c.cnt + 1, q := q } = { c with cnt := c.cnt + 1, q := q, point := c.cnt + 1, code := 7, done := true } := by unfold crPopped; rw [hg]
   rw [e]
   refine go ?_
   refine Kr.none (.inr rfl) ?_ rfl
   refine Et (Ek (a := ad b)) ?_
   refine Et (CreO.closeD (b := b) (r := r) (sp := sp) (k := k) (cl := cl) (rt := c.rt cl) { c with cnt := c.cnt + 1, q := q, point := c.cnt + 1, code := 7, done := true } rfl rfl rfl rfl rfl rfl) (Ec ?_)
   exact ent
 | cons y l =>
   have e : crPopped { c with cnt := c.cnt + 1, q := q } = { c with cnt := c.cnt + 1, q := q, point := c.cnt + 1, slot := y, at_ := 1 } := by unfold crPopped; rw [hg]
   rw [e]
   rw [hg] at hl
   simp only [List.length_cons] at hl ⊢
   refine Xn rfl (dz (by omega)) ?_
   refine Cx.rowkey (a := ro) fun hx0 hn0 hc0 hk0 => ?_
   obtain ⟨rg, rfl⟩ : ∃ g, ro = ad g := by
    rcases hk0 with h | h
    ·omega
    ·exact h
   refine go ?_
   refine Sv rfl ⟨by omega, by omega⟩ ?_
   refine Sx.ldr (b := rg) rfl (v := ii y) rfl (go ?_)
   refine Sa rfl (machGo (b := b)) ?_
   rintro v L' ⟨rfl, rfl⟩
   refine go ?_
   refine Kr.none (.inl rfl) ?_ rfl
   refine Et (Ek (a := ad b)) ?_
   refine Et (CreO.closeL (b := b) (r := r) (sp := sp) (k := k) (cl := cl) (rt := c.rt cl) { c with cnt := c.cnt + 1, q := q, point := c.cnt + 1, slot := y, at_ := 1 } hd rfl rfl rfl rfl ?_ rfl) (Ec ?_)
   ·unfold CreS.rt; dsimp only; rw [if_neg (by omega), if_neg (by omega)]
   ·exact ent
theorem crLoad_ {b r mp sp : Nat} {x : Cn} {m : Mm} {cl : Nat} {c : CreS} {n1 n2 n3 pp : Value} {cnt : Int} (hcnt : cnt = ((c.cnt + 1 : Nat) : Int)) (h1 : c.at_ = 1) (hd : c.done = false) (hx : x.ok) (hm : m.ok) (hl : x.len ≤ m.ws.length) (hs : 0 ≤ c.slot ∧ c.slot < x.sl) :
  FX 224 [zp b] (crB b r .nilFunc n1 n2 n3 pp cl cnt c.slot c.point (c.rt cl) c.code :: pt (ad r) (RoO mp sp x) :: pt (ad mp) (MemO m) :: G)
   (fun v L' => L' = pt (ad b) (CreO r sp x.spare cl { c with cnt := c.cnt + 1, was := m.at_ (x.root + c.slot.toNat), at_ := 2 }) :: pt (ad mp) (MemO m.tick) :: pt (ad r) (RoO mp sp x) :: G) := by
 subst hcnt
 obtain ⟨s, hs1⟩ : ∃ s : Nat, c.slot = s := ⟨c.slot.toNat, by omega⟩
 rw [hs1, tn]
 refine Fm Tryz.func224 k224 ?_
 dsimp only [c224, eL]
 refine Cx.sq ?_
 refine Cx.rd ?_
 refine Rx.pvs rfl ?_
 refine Rx.ldbK 0 rfl rfl rfl (by rfl) rfl rfl ?_
 refine Rx.pvs rfl ?_
 refine Rx.ldbK 0 rfl rfl rfl (by rfl) rfl rfl ?_
 refine Rx.pvs rfl ?_
 refine Rx.two rfl rfl rfl ?_ ?_
 ·refine Sa rfl (rootsLoad (g := r) (mp := mp) (sb := sp) (x := x) (m := m) s (by omega) hx hm hl) ?_
  rintro v L' ⟨rfl, rfl⟩
  refine Sx.nil ⟨⟨⟨trivial, Has.cell rfl⟩, Has.cell rfl⟩, ?_⟩
  refine Rx.pvs rfl ?_
  refine Rx.one rfl rfl rfl ?_
  refine Sx.al fun q => ?_
  refine Sx.nil ⟨⟨⟨trivial, Has.cell rfl⟩, Has.cell rfl⟩, ?_⟩
  refine Rx.pvs rfl ?_
  refine Rx.one rfl rfl rfl ?_
  refine Sx.st (b := q) rfl rfl rfl rfl rfl rfl ?_
  refine Sr (rtL (rtOf (m.at_ (x.root + s)))) rfl ?_
  refine Sx.nil ⟨⟨⟨trivial, Has.cell rfl⟩, Has.cell rfl⟩, ?_⟩
  refine Rx.nil (go ?_)
  refine Sa rfl (crNext (b := b) (r := r) (cl := cl) (rtOf (m.at_ (x.root + s))) (rtOf_gen (Ml hm _))) ?_
  rintro v L' ⟨rfl, rfl⟩
  refine go ?_
  refine Sx.st (b := b) rfl rfl rfl rfl rfl rfl ?_
  refine Sr [.nilFunc, n1, n2, n3, ii ((c.cnt + 1 : Nat) : Int), zp r, ii cl, pp, ii (s : Nat), ii (c.point : Nat), ii ((nextRt cl (m.at_ (x.root + s))).gen : Nat), ii ((nextRt cl (m.at_ (x.root + s))).mrk : Nat), ii ((nextRt cl (m.at_ (x.root + s))).cl : Nat), ii ((nextRt cl (m.at_ (x.root + s))).off : Nat), ii (c.code : Nat)] rfl (go ?_)
  refine Sa rfl (machGo (b := b)) ?_
  rintro v L' ⟨rfl, rfl⟩
  refine go ?_
  refine Kr.none (.inl rfl) ?_ rfl
  refine Et (Ek (a := ad b)) ?_
  refine Et (CreO.closeS (b := b) (r := r) (sp := sp) (k := x.spare) (cl := cl) (rt := nextRt cl (m.at_ (x.root + s))) { c with cnt := c.cnt + 1, slot := (s : Int), was := m.at_ (x.root + s), at_ := 2 } hd rfl rfl rfl rfl ?_ rfl) (Ec ?_)
  ·unfold CreS.rt; dsimp only; rw [if_pos rfl]
  ·exact ent
 ·refine Sx.al fun q => ?_
  refine Sx.nil ⟨⟨⟨trivial, Has.cell rfl⟩, Has.cell rfl⟩, ?_⟩
  refine Rx.pvs rfl ?_
  refine Rx.one rfl rfl rfl ?_
  refine Sa rfl (rootsLoad (g := r) (mp := mp) (sb := sp) (x := x) (m := m) s (by omega) hx hm hl) ?_
  rintro v L' ⟨rfl, rfl⟩
  refine Sx.nil ⟨⟨⟨trivial, Has.cell rfl⟩, Has.cell rfl⟩, ?_⟩
  refine Rx.pvs rfl ?_
  refine Rx.one rfl rfl rfl ?_
  refine Sx.st (b := q) rfl rfl rfl rfl rfl rfl ?_
  refine Sr (rtL (rtOf (m.at_ (x.root + s)))) rfl ?_
  refine Sx.nil ⟨⟨⟨trivial, Has.cell rfl⟩, Has.cell rfl⟩, ?_⟩
  refine Rx.nil (go ?_)
  refine Sa rfl (crNext (b := b) (r := r) (cl := cl) (rtOf (m.at_ (x.root + s))) (rtOf_gen (Ml hm _))) ?_
  rintro v L' ⟨rfl, rfl⟩
  refine go ?_
  refine Sx.st (b := b) rfl rfl rfl rfl rfl rfl ?_
  refine Sr [.nilFunc, n1, n2, n3, ii ((c.cnt + 1 : Nat) : Int), zp r, ii cl, pp, ii (s : Nat), ii (c.point : Nat), ii ((nextRt cl (m.at_ (x.root + s))).gen : Nat), ii ((nextRt cl (m.at_ (x.root + s))).mrk : Nat), ii ((nextRt cl (m.at_ (x.root + s))).cl : Nat), ii ((nextRt cl (m.at_ (x.root + s))).off : Nat), ii (c.code : Nat)] rfl (go ?_)
  refine Sa rfl (machGo (b := b)) ?_
  rintro v L' ⟨rfl, rfl⟩
  refine go ?_
  refine Kr.none (.inl rfl) ?_ rfl
  refine Et (Ek (a := ad b)) ?_
  refine Et (CreO.closeS (b := b) (r := r) (sp := sp) (k := x.spare) (cl := cl) (rt := nextRt cl (m.at_ (x.root + s))) { c with cnt := c.cnt + 1, slot := (s : Int), was := m.at_ (x.root + s), at_ := 2 } hd rfl rfl rfl rfl ?_ rfl) (Ec ?_)
  ·unfold CreS.rt; dsimp only; rw [if_pos rfl]
  ·exact ent
theorem crStore_ {b r mp sp : Nat} {x : Cn} {m : Mm} {cl : Nat} {c : CreS} {n1 n2 n3 pp : Value} {cnt : Int} (hcnt : cnt = ((c.cnt + 1 : Nat) : Int)) (h2 : c.at_ = 2) (hcl : cl ≤ 3) (hx : x.ok) (hw : c.was < 18446744073709551616) (hl : x.len ≤ m.ws.length) (hs : 0 ≤ c.slot ∧ c.slot < x.sl) :
  FX 252 [zp b] (crB b r .nilFunc n1 n2 n3 pp cl cnt c.slot c.point (c.rt cl) c.code :: pt (ad r) (RoO mp sp x) :: pt (ad mp) (MemO m) :: G)
   (fun v L' => L' = pt (ad b) (CreO r sp x.spare cl { c with cnt := c.cnt + 1, done := true }) :: pt (ad mp) (MemO (m.put (x.root + c.slot.toNat) (nextRt cl c.was).w)) :: pt (ad r) (RoO mp sp x) :: G) := by
 subst hcnt
 have hsz : x.root + x.sl ≤ x.len := by unfold Cn.root Cn.len; omega
 have hrt : c.rt cl = nextRt cl c.was := by unfold CreS.rt; rw [if_pos h2]
 have hnk := nextRt_ok hw hcl
 obtain ⟨s, hs1⟩ : ∃ s : Nat, c.slot = s := ⟨c.slot.toNat, by omega⟩
 rw [hs1, tn, hrt]
 obtain ⟨R, hR⟩ : ∃ R, nextRt cl c.was = R := ⟨_, rfl⟩
 rw [hR] at hnk ⊢
 refine Fm Tryz.func252 k252 ?_
 dsimp only [c252, eL]
 refine go ?_
 refine Sa rfl (putRoot R hnk) ?_
 rintro v L' ⟨rfl, rfl⟩
 refine go ?_
 refine Cx.orde rfl kr_ (ge ?_)
 refine Eb kr_ rfl rfl (layRootN hx s (by omega)) (ge ?_)
 refine Ea kr_ rfl rfl (cellsStore (b := mp) (m := m) (x.root + s) R.w (by omega) (Rt.w_lt hnk)) (Pd kr_) ?_
 rintro v L' ⟨rfl, rfl⟩
 refine ge ?_
 refine Kr.none (.inl rfl) ?_ rfl
 refine Et (Ek (a := ad b)) ?_
 refine Et (CreO.closeD (b := b) (r := r) (sp := sp) (k := x.spare) (cl := cl) (rt := R) { c with cnt := c.cnt + 1, slot := (s : Int), done := true } rfl rfl rfl rfl (by rw [← hR, ← hrt]; rfl) rfl) (Ec ?_)
 exact ent
theorem cr_l {k : Sk} {m : Mm} {q : PopS} (h : q.ok k) {len : Nat} (hk : k.ok len) (hm : m.ok) : (popStep k m q).1.got.length ≤ 8 := (popStep_ok hk hm h).len
theorem crStepC {b r mp sp : Nat} {x : Cn} {m : Mm} {cl : Nat} {c : CreS} {F1 F2 F3 : St} (hx : x.ok) (hl : x.len ≤ m.ws.length) (hcl : cl ≤ 3) (hc : c.ok x.spare)
  [t1 : Take L (ad b) (CreO r sp x.spare cl c) F1] [t2 : Take F1 (ad mp) (MemO m) F2] [t3 : Take F2 (ad r) (RoO mp sp x) F3] [t4 : Take F3 (ad sp) (SkO mp x.spare) G] :
  FX 86 [zp b] L
   (fun v L' => v = .bool (!c.done) ∧ L' = pt (ad b) (CreO r sp x.spare cl (crStep x.spare x.root cl m c).1) :: pt (ad mp) (MemO (crStep x.spare x.root cl m c).2) :: F2) := by
 have hback : Ent (pt (ad r) (RoO mp sp x) :: pt (ad sp) (SkO mp x.spare) :: G) F2 := Et (Ec (Eo t4.back)) (Eo t3.back)
 obtain ⟨ha, hq0, hw, hs, hn⟩ := hc
 refine Fm Tryz.func86 k86 ?_
 dsimp only [c86, eL]
 refine Xe (Et (Eo t1.out) (Ec (Et (Eo t2.out) (Ec (Et (Eo t3.out) (Ec (Eo t4.out))))))) ?_
 refine Cx.pure (memKey (b := mp) (m := m)) fun hm => ?_
 have hk := hx.spare (n := m.ws.length) hl hm.2
 cases hd : c.done with
 | true =>
   have e1 : crStep x.spare x.root cl m c = (c, m) := by unfold crStep; rw [hd]; rfl
   rw [e1]
   refine Xo (a := ad b) (CreO.d hd) ?_
   rintro ⟨n1, n2, n3, pp⟩
   simp only [crSL, lc, ln]
   refine go ?_
   refine Sa rfl (machStepDone (b := b)) ?_
   rintro v L' ⟨rfl, rfl⟩
   refine go ?_
   exact Ko rfl (Et (CreO.closeD c hd rfl rfl rfl rfl rfl) (Ec (Ec hback))) ⟨rfl, rfl⟩
 | false =>
   rcases (show c.at_ = 0 ∨ c.at_ = 1 ∨ c.at_ = 2 by omega) with h0 | h0 | h0
   ·refine Xo (a := ad b) (CreO.p hd h0) ?_
    intro p
    simp only [crPL, lc, ln]
    have hlen := cr_l (m := m) hq0 hk hm.1
    cases hq : (popStep x.spare m c.q).1.done with
    | true =>
      have e1 : crStep x.spare x.root cl m c = (crPopped { c with cnt := c.cnt + 1, q := (popStep x.spare m c.q).1 }, (popStep x.spare m c.q).2) := by unfold crStep; rw [hd, h0]; simp only [bf, if_false, hq, if_true]
      rw [e1]
      refine go ?_
      refine Sa rfl (machStep (b := b) kr_ (machGoes (b := b) kr_ (popStepC (b := p) (mp := mp) (sb := sp) (k := x.spare) (m := m) (q := c.q) hk)
       (R2 := fun v L' => v = .tuple #[] ∧ ∃ w : Value, L' = pt (ad b) (CreO r sp x.spare cl (crPopped { c with cnt := c.cnt + 1, q := (popStep x.spare m c.q).1 })) :: pt (ad mp) (MemO (popStep x.spare m c.q).2) :: pt (ad r) (RoO mp sp x) :: pt (ad sp) (SkO mp x.spare) :: G) ?_)) ?_
      ·rintro v L1 ⟨rfl, rfl⟩
       have hon := machOnYes (b := b) kr_ (fd := 164) (ft := 165) (w := zp p) (u := zp b)
        (L := pt (ad p) (PopO sp x.spare (popStep x.spare m c.q).1) :: pt (ad mp) (MemO (popStep x.spare m c.q).2) :: crB b r .nilFunc (mth 163 p) (mth 164 p) (mth 165 b) (zp p) cl (IntKind.i64.wrap ((c.cnt : Int) + 1)) c.slot c.point (c.rt cl) c.code :: pt (ad r) (RoO mp sp x) :: pt (ad sp) (SkO mp x.spare) :: G)
        ((popDoneC (b := p) (sb := sp) (k := x.spare) (q := (popStep x.spare m c.q).1)).mono (by rintro v L' ⟨rfl, rfl⟩; exact ⟨by rw [hq], rfl⟩)) kr_
        (Fx.ent (M := crB b r .nilFunc (mth 163 p) (mth 164 p) (mth 165 b) (zp p) cl (IntKind.i64.wrap ((c.cnt : Int) + 1)) c.slot c.point (c.rt cl) c.code :: pt (ad p) (PopO sp x.spare (popStep x.spare m c.q).1) :: pt (ad mp) (MemO (popStep x.spare m c.q).2) :: pt (ad r) (RoO mp sp x) :: pt (ad sp) (SkO mp x.spare) :: G) (by exact ent)
         (crPopped_ (b := b) (r := r) (sp := sp) (p := p) (k := x.spare) (cl := cl) (c := c) (cntW hn) h0 hd hq hlen))
       refine hon.mono ?_
       rintro v L' ⟨rfl, w, rfl⟩
       exact ⟨rfl, .tuple #[], rfl⟩
      ·rintro v L' ⟨rfl, w, _, w2, _, w3, rfl⟩
       refine go ?_
       exact Ko rfl (Ec (Ec hback)) ⟨rfl, rfl⟩
    | false =>
      have e1 : crStep x.spare x.root cl m c = ({ c with cnt := c.cnt + 1, q := (popStep x.spare m c.q).1 }, (popStep x.spare m c.q).2) := by unfold crStep; rw [hd, h0]; simp only [bf, if_false, hq]
      rw [e1]
      refine go ?_
      refine Sa rfl (machStep (b := b) kr_ (machGoes (b := b) kr_ (popStepC (b := p) (mp := mp) (sb := sp) (k := x.spare) (m := m) (q := c.q) hk)
       (R2 := fun v L' => v = .tuple #[] ∧ L' = crB b r (mth 232 b) (mth 163 p) (mth 164 p) (mth 165 b) (zp p) cl (IntKind.i64.wrap ((c.cnt : Int) + 1)) c.slot c.point (c.rt cl) c.code ::
        pt (ad p) (PopO sp x.spare (popStep x.spare m c.q).1) :: pt (ad mp) (MemO (popStep x.spare m c.q).2) :: pt (ad r) (RoO mp sp x) :: pt (ad sp) (SkO mp x.spare) :: G) ?_)) ?_
      ·rintro v L1 ⟨rfl, rfl⟩
       refine (machOnNo (b := b) kr_ ((popDoneC (b := p) (sb := sp) (k := x.spare) (q := (popStep x.spare m c.q).1)).mono (by rintro v L' ⟨rfl, rfl⟩; exact ⟨by rw [hq], rfl⟩))).mono ?_
       rintro v L' ⟨rfl, rfl⟩
       exact ⟨rfl, rfl⟩
      ·rintro v L' ⟨rfl, w, _, w2, _, rfl⟩
       refine go ?_
       refine Ko rfl ?_ ⟨rfl, rfl⟩
       refine Et (CreO.closeP (p := p) { c with cnt := c.cnt + 1, q := (popStep x.spare m c.q).1 } hd h0 (cntW hn) rfl rfl rfl rfl rfl) (Ec ?_)
       exact Ec hback
   ·refine Xo (a := ad b) (CreO.l hd h0) ?_
    rintro ⟨n1, n2, n3, pp⟩
    simp only [crSL, lc, ln]
    have e1 : crStep x.spare x.root cl m c = ({ c with cnt := c.cnt + 1, was := m.at_ (x.root + c.slot.toNat), at_ := 2 }, m.tick) := by unfold crStep; rw [hd, h0]; rfl
    rw [e1]
    refine Xe (M := crB b r (mth 224 b) n1 n2 n3 pp cl c.cnt c.slot c.point (c.rt cl) c.code :: pt (ad r) (RoO mp sp x) :: pt (ad mp) (MemO m) :: pt (ad sp) (SkO mp x.spare) :: G) (by exact ent) (go ?_)
    refine Sa rfl (machStep (b := b) kr_ (crLoad_ (b := b) (r := r) (mp := mp) (sp := sp) (x := x) (m := m) (cl := cl) (c := c) (cntW hn) h0 hd hx hm.1 hl (hs (by omega)))) ?_
    rintro v L' ⟨rfl, w, rfl⟩
    refine go ?_
    exact Ko rfl (Ec (Ec hback)) ⟨rfl, rfl⟩
   ·refine Xo (a := ad b) (CreO.s hd h0) ?_
    rintro ⟨n1, n2, n3, pp⟩
    simp only [crSL, lc, ln]
    have e1 : crStep x.spare x.root cl m c = ({ c with cnt := c.cnt + 1, done := true }, m.put (x.root + c.slot.toNat) (nextRt cl c.was).w) := by unfold crStep; rw [hd, h0]; rfl
    rw [e1]
    refine Xe (M := crB b r (mth 252 b) n1 n2 n3 pp cl c.cnt c.slot c.point (c.rt cl) c.code :: pt (ad r) (RoO mp sp x) :: pt (ad mp) (MemO m) :: pt (ad sp) (SkO mp x.spare) :: G) (by exact ent) (go ?_)
    refine Sa rfl (machStep (b := b) kr_ (crStore_ (b := b) (r := r) (mp := mp) (sp := sp) (x := x) (m := m) (cl := cl) (c := c) (cntW hn) h0 hcl hx hw hl (hs (by omega)))) ?_
    rintro v L' ⟨rfl, w, rfl⟩
    refine go ?_
    exact Ko rfl (Ec (Ec hback)) ⟨rfl, rfl⟩
theorem crDone {b r sp : Nat} {k : Sk} {cl : Nat} {c : CreS} {F1 : St} (hd : c.done = true) [t1 : Take L (ad b) (CreO r sp k cl c) F1] : FX 89 [zp b] L (fun v L' => v = .bool true ∧ L = L') := by
 refine Fx.kept (t := t1) ?_
 refine Fm Tryz.func89 k89 ?_
 dsimp only [c89, eL]
 refine Xe (Eo t1.out) ?_
 refine Xo (a := ad b) (CreO.d hd) ?_
 rintro ⟨n1, n2, n3, pp⟩
 simp only [crSL, lc, ln]
 refine go ?_
 refine Sa rfl (machDoneYes (b := b)) ?_
 rintro v L' ⟨rfl, rfl⟩
 refine go ?_
 exact Ko rfl (CreO.closeD c hd rfl rfl rfl rfl rfl) ⟨rfl, rfl⟩
theorem crCode {b r sp : Nat} {k : Sk} {cl : Nat} {c : CreS} {F1 : St} (hd : c.done = true) [t1 : Take L (ad b) (CreO r sp k cl c) F1] : FX 90 [zp b] L (fun v L' => v = ii (c.code : Nat) ∧ L = L') := by
 refine Fx.kept (t := t1) ?_
 refine Fm Tryz.func90 k90 ?_
 dsimp only [c90, eL]
 refine Xe (Eo t1.out) ?_
 refine Xo (a := ad b) (CreO.d hd) ?_
 rintro ⟨n1, n2, n3, pp⟩
 simp only [crSL, lc, ln]
 refine go ?_
 exact Ko rfl (CreO.closeD c hd rfl rfl rfl rfl rfl) ⟨rfl, rfl⟩
theorem crRegion {b r sp : Nat} {k : Sk} {cl : Nat} {c : CreS} {F1 : St} (hd : c.done = true) (h2 : c.at_ = 2) (h0 : c.code = 0) [t1 : Take L (ad b) (CreO r sp k cl c) F1] : FX 88 [zp b] L
  (fun v L' => v = .tuple #[ii c.slot, ii (laterT (rtOf c.was).gen : Nat)] ∧ L = L') := by
 refine Fx.kept (t := t1) ?_
 have hrt : c.rt cl = nextRt cl c.was := by unfold CreS.rt; rw [if_pos h2]
 refine Fm Tryz.func88 k88 ?_
 dsimp only [c88, eL]
 refine Xe (Eo t1.out) (go ?_)
 refine Sa rfl (crDone (b := b) (r := r) (sp := sp) (k := k) (cl := cl) (c := c) hd) ?_
 rintro v L' ⟨rfl, rfl⟩
 refine Sx.openp (a := ad b) (CreO.d hd) ?_
 rintro ⟨n1, n2, n3, pp⟩
 simp only [crSL, lc, ln]
 rw [h0]
 refine go ?_
 refine Xd rfl kr_ (ge ?_)
 refine go ?_
 refine Kr.two (.inr rfl) rfl rfl (CreO.closeD c hd rfl rfl rfl rfl h0.symm) ⟨?_, rfl⟩
 rw [hrt]; rfl
end
section
variable {L F G : St}
theorem refRootAt {x : Cn} (hx : x.ok) (i : Nat) (hi : i < x.sl) : FX 97 [x.v, ii i] L (fun v L' => v = ii ((x.root + i : Nat) : Int) ∧ L = L') := by
 obtain ⟨b1, b2, b3, b4, b5, b6, b7⟩ := hx.b
 refine Fm Tryz.func97 k97 ?_
 dsimp only [c97, eL]
 refine Cx.sq ?_
 refine Cx.rg ?_
 refine Sx.bx rfl rfl fun g => (go ?_)
 rw [w64 (n := (3 : Int) + x.w) (by omega) (by omega)]
 refine Sa rfl (refAt hx ((3 : Int) + x.w) x.sl i hi (by omega) (by omega)) ?_
 rintro v L' ⟨rfl, rfl⟩
 refine go ?_
 refine Ko rfl Ed ⟨congrArg (Value.int .i64) ?_, rfl⟩
 unfold Cn.root; omega
theorem refGetRoot (w : Nat) (hw : w < 18446744073709551616) : FX 100 [wd w] L (fun v L' => v = rtV (rtOf w) ∧ L = L') := by
 refine Fm Tryz.func100 k100 ?_
 dsimp only [c100, eL]
 refine Cx.sq ?_
 refine Cx.rg ?_
 refine Sx.al fun g => ?_
 refine gg ?_
 have h1 := rtOf_gen hw
 have h2 := rtOf_mrk w
 have h3 := rtOf_cl w
 have h4 := rtOf_off w
 have d1 : (w : Int).tdiv 4294967296 = ((w / 4294967296 : Nat) : Int) := rfl
 have d2 : (w : Int).tdiv 65536 = ((w / 65536 : Nat) : Int) := rfl
 have d3 : (w : Int).tdiv 4096 = ((w / 4096 : Nat) : Int) := rfl
 have d4 : ((w / 65536 : Nat) : Int).tmod 65536 = ((w / 65536 % 65536 : Nat) : Int) := rfl
 have d5 : ((w / 4096 : Nat) : Int).tmod 16 = ((w / 4096 % 16 : Nat) : Int) := rfl
 have d6 : (w : Int).tmod 4096 = ((w % 4096 : Nat) : Int) := rfl
 rw [d1, d2, d3, d6, wrap64 (n := w / 4294967296) (by omega), wrap64 (n := w / 65536) (by omega), wrap64 (n := w / 4096) (by omega), d4, d5]
 rw [show w / 4294967296 = (rtOf w).gen from rfl, show w / 65536 % 65536 = (rtOf w).mrk from rfl, show w / 4096 % 16 = (rtOf w).cl from rfl, show w % 4096 = (rtOf w).off from rfl]
 rw [w64 (n := ((rtOf w).gen : Int)) (by omega) (by omega), w64 (n := ((rtOf w).mrk : Int)) (by omega) (by omega), w64 (n := ((rtOf w).cl : Int)) (by omega) (by omega), w64 (n := ((rtOf w).off : Int)) (by omega) (by omega)]
 refine Sx.st (b := g) rfl rfl rfl rfl rfl rfl ?_
 dsimp only [lay]
 refine go ?_
 exact Kr_cell (b := g) (.inr rfl) rfl rfl (L' := L) Ed ⟨rfl, rfl⟩
theorem refLater (n : Nat) (h : n < 4294967296) : FX 169 [ii n] L (fun v L' => v = ii (laterT n : Nat) ∧ L = L') := by
 refine Fm Tryz.func169 k169 ?_
 dsimp only [c169, eL]
 repeat' (first|refine Zo0 rfl ?_|refine Zo1 ?_|refine Zo2 ?_|refine Zo3 ?_|refine Zo4 ?_|refine Zo5 ?_|refine Zo6 ?_|refine Zo7 ?_|refine Zo8 rfl ?_|refine Zo9 rfl ?_|refine Zoa ?_|refine Zob ?_|refine Zoc ?_|refine Zod ?_|refine Zoe ?_|refine Zof ?_|refine Zog ?_|refine Zoh ?_|refine Zom rfl (by rfl) ?_|refine Zon rfl rfl ?_|refine Zoo rfl rfl rfl rfl (by rfl) (by rfl) ?_|refine Zop rfl trivial ?_|refine Zoq rfl rfl rfl ?_)
 refine Xi rfl (fun h => ?_) (fun h => ?_)
 ·refine go ?_
  refine Ko rfl (Er _) ⟨by unfold laterT; rw [if_neg (by omega)]; rfl, rfl⟩
 ·refine go ?_
  rw [w64 (n := (n : Int) + 1) (by omega) (by omega)]
  refine Ko rfl (Er _) ⟨by unfold laterT; rw [if_pos (by omega)]; rfl, rfl⟩
set_option maxHeartbeats 1000000 in
theorem refPutRoot (r : Rt) (h : r.ok) : FX 101 [rtV r] L (fun v L' => v = .tuple #[wd r.w, .bool true] ∧ L = L') := by
 obtain ⟨h1, h2, h3, h4⟩ := h
 refine Fm Tryz.func101 k101 ?_
 dsimp only [c101, eL]
 refine Cx.sq ?_
 refine Cx.rg ?_
 refine Sx.bx rfl rfl fun g => (go ?_)
 refine Sa rfl (in_ (r.gen : Int) 0 4294967295) ?_
 rintro v L' ⟨rfl, rfl⟩
 rw [dt (show (0 : Int) ≤ r.gen ∧ (r.gen : Int) ≤ 4294967295 by omega)]
 refine go ?_
 refine Sa rfl (in_ (r.mrk : Int) 0 4097) ?_
 rintro v L' ⟨rfl, rfl⟩
 rw [dt (show (0 : Int) ≤ r.mrk ∧ (r.mrk : Int) ≤ 4097 by omega)]
 refine go ?_
 refine Sa rfl (in_ (r.cl : Int) 0 3) ?_
 rintro v L' ⟨rfl, rfl⟩
 rw [dt (show (0 : Int) ≤ r.cl ∧ (r.cl : Int) ≤ 3 by omega)]
 refine go ?_
 refine Sa rfl (in_ (r.off : Int) 0 1024) ?_
 rintro v L' ⟨rfl, rfl⟩
 rw [dt (show (0 : Int) ≤ r.off ∧ (r.off : Int) ≤ 1024 by omega)]
 refine go ?_
 refine Kr.two (.inr rfl) rfl rfl Ed ⟨?_, rfl⟩
 rw [wrap64 (n := r.gen) (by omega), wrap64 (n := r.mrk) (by omega), wrap64 (n := r.cl) (by omega), wrap64 (n := r.off) (by omega)]
 rw [wu64 (n := (r.gen : Int) * 4294967296) (by omega) (by omega), wu64 (n := (r.mrk : Int) * 65536) (by omega) (by omega), wu64 (n := (r.cl : Int) * 4096) (by omega) (by omega),
  wu64 (n := (r.gen : Int) * 4294967296 + r.mrk * 65536) (by omega) (by omega), wu64 (n := (r.gen : Int) * 4294967296 + r.mrk * 65536 + r.cl * 4096) (by omega) (by omega), wu64 (n := (r.gen : Int) * 4294967296 + r.mrk * 65536 + r.cl * 4096 + r.off) (by omega) (by omega)]
 rw [show (r.gen : Int) * 4294967296 + r.mrk * 65536 + r.cl * 4096 + r.off = ((r.w : Nat) : Int) by unfold Rt.w; omega]
def CreS.rslot (c : CreS) : Int := if c.at_ = 0 then 0 else c.slot
def CreS.rgen (c : CreS) : Nat := if c.done = true ∧ c.at_ = 2 then laterT (rtOf c.was).gen else 0
abbrev rcrV (w cl at_ : Nat) (cnt : Int) (point : Nat) (slot : Int) (gen p : Nat) (rt : Rt) (code : Nat) (d : Bool) : List Value :=
 [zp w, ii (cl : Nat), ii (at_ : Nat), ii cnt, ii (point : Nat), ii slot, ii (gen : Nat), zp p, ii (rt.gen : Nat), ii (rt.mrk : Nat), ii (rt.cl : Nat), ii (rt.off : Nat), ii (code : Nat), .bool d]
def rcrL (T : TypeId) (w rs cl : Nat) (c : CreS) (a : OA) (p : Nat) : St :=
 [pt a (Blk T [zp w, ii (cl : Nat), ii (c.at_ : Nat), ii (c.cnt : Nat), ii (c.point : Nat), ii c.rslot, ii (c.rgen : Nat), zp p, ii ((rtOf c.was).gen : Nat), ii ((rtOf c.was).mrk : Nat), ii ((rtOf c.was).cl : Nat), ii ((rtOf c.was).off : Nat), ii (c.code : Nat), .bool c.done]), pt (ad p) (RPopO rs c.q)]
def RCreT (T : TypeId) (w rs cl : Nat) (c : CreS) (a : OA) : As := exs (rcrL T w rs cl c a)
abbrev RCreO := RCreT 164
theorem RCreO.close {b w rs cl p at_ point gen code : Nat} {cnt slot : Int} {rt : Rt} {d : Bool} {q : PopS} (c : CreS) (e1 : at_ = c.at_) (e2 : cnt = (c.cnt : Nat)) (e3 : point = c.point) (e4 : slot = c.rslot) (e5 : gen = c.rgen) (e6 : rt = rtOf c.was) (e7 : code = c.code) (e8 : d = c.done) (e9 : q = c.q) :
  Ent (pt (ad b) (Blk 164 (rcrV w cl at_ cnt point slot gen p rt code d)) :: pt (ad p) (RPopO rs q) :: G) (pt (ad b) (RCreO w rs cl c) :: G) := by
 subst e1 e2 e3 e4 e5 e6 e7 e8 e9
 exact Ent.close (f := rcrL 164 w rs cl c (ad b)) rfl p
theorem refCreate {w rm rp rs re : Nat} {x : Cn} (cl : Nat) (hcl : cl ≤ 3) [c : Take L (ad w) (RWO x rm rp rs re) F] {F2 : St} [s : Take F (ad rs) (RSkO rm x.spare) F2] :
  FX 85 [zp w, ii cl] L (fun v L' => ∃ b, v = zp b ∧ L' = pt (ad b) (RCreO w rs cl CreS.init) :: L) := by
 refine Fm Tryz.func85 k85 ?_
 dsimp only [c85, eL]
 refine Xe (Et (Eo c.out) (Ec (Eo s.out))) (go ?_)
 have e1 : (bif true then (if (cl : Int) < 0 then (0 : Int) else (cl : Int)) else (if (0 : Int) < (cl : Int) then (0 : Int) else (cl : Int))) = cl := by
  rw [cond_true, if_neg (by omega)]
 have e2 : (bif false then (if (cl : Int) < 3 then (3 : Int) else (cl : Int)) else (if (3 : Int) < (cl : Int) then (3 : Int) else (cl : Int))) = cl := by
  rw [cond_false, if_neg (by omega)]
 rw [e1, e2]
 refine Sa rfl (refPopNew (sb := rs) (rm := rm) (k := x.spare) 1) ?_
 rintro v L' ⟨p, rfl, rfl⟩
 refine go ?_
 refine Sx.bx rfl rfl fun b => ?_
 refine Sr (rcrV w cl 0 0 0 0 0 p ⟨0, 0, 0, 0⟩ 0 false) rfl (go ?_)
 refine Ko rfl ?_ ⟨b, rfl, rfl⟩
 refine Et (RCreO.close (b := b) (w := w) (rs := rs) (cl := cl) (p := p) CreS.init rfl rfl rfl rfl rfl rfl rfl rfl rfl) (Ec ?_)
 exact Et (Ec (Eo s.back)) (Eo c.back)
set_option maxHeartbeats 2000000 in
theorem refCrStep {b w rm rp rs re : Nat} {x : Cn} {m : Mm} {cl : Nat} {c : CreS} {F1 F2 F3 : St} (hx : x.ok) (hl : x.len ≤ m.ws.length) (hcl : cl ≤ 3) (hc : c.ok x.spare)
  [t1 : Take L (ad b) (RCreO w rs cl c) F1] [t2 : Take F1 (ad rm) (RMemO m) F2] [t3 : Take F2 (ad w) (RWO x rm rp rs re) F3] [t4 : Take F3 (ad rs) (RSkO rm x.spare) G] :
  FX 87 [zp b] L
   (fun v L' => v = .bool (!c.done) ∧ L' = pt (ad b) (RCreO w rs cl (crStep x.spare x.root cl m c).1) :: pt (ad rm) (RMemO (crStep x.spare x.root cl m c).2) :: F2) := by
 have hsz : x.root + x.sl ≤ x.len := by unfold Cn.root Cn.len; omega
 have hback : Ent (pt (ad w) (RWO x rm rp rs re) :: pt (ad rs) (RSkO rm x.spare) :: G) F2 := Et (Ec (Eo t4.back)) (Eo t3.back)
 obtain ⟨ha, hq0, hw, hs, hn⟩ := hc
 refine Fm Tryz.func87 k87 ?_
 dsimp only [c87, eL]
 refine Xe (Et (Eo t1.out) (Ec (Et (Eo t2.out) (Ec (Et (Eo t3.out) (Ec (Eo t4.out))))))) ?_
 refine Cx.pure (rmemKey (rm := rm) (m := m)) fun hm => ?_
 have hk := hx.spare (n := m.ws.length) hl hm.2
 refine Xo (a := ad b) rfl ?_
 intro p
 simp only [rcrL, lc, ln]
 cases hd : c.done with
 | true =>
   have e1 : crStep x.spare x.root cl m c = (c, m) := by unfold crStep; rw [hd]; rfl
   rw [e1]
   refine go ?_
   refine Ko rfl (Et (RCreO.close (w := w) (rs := rs) (rt := rtOf c.was) (d := true) c rfl rfl rfl rfl rfl rfl rfl hd.symm rfl) (Ec (Ec hback))) ⟨rfl, rfl⟩
 | false =>
   refine go ?_
   rw [cntW hn]
   refine go ?_
   rcases (show c.at_ = 0 ∨ c.at_ = 1 ∨ c.at_ = 2 by omega) with h0 | h0 | h0
   ·rw [h0]
    refine go ?_
    have hlen := cr_l (m := m) hq0 hk hm.1
    refine Sa rfl (refPopStep (b := p) (sb := rs) (rm := rm) (k := x.spare) (m := m) (q := c.q) hk hq0) ?_
    rintro v L' ⟨rfl, rfl⟩
    refine go ?_
    obtain ⟨Q, hQ⟩ : ∃ Q, Q = (popStep x.spare m c.q).1 := ⟨_, rfl⟩
    rw [← hQ] at hlen ⊢
    refine Sx.openp (a := ad p) rfl ?_
    rintro ⟨ro, co⟩
    simp only [rpopL, lc, ln]
    cases hq : Q.done with
    | false =>
      have e1 : crStep x.spare x.root cl m c = ({ c with cnt := c.cnt + 1, q := Q }, (popStep x.spare m c.q).2) := by unfold crStep; rw [hd, h0, hQ]; rw [hQ] at hq; simp only [bf, if_false, hq]
      rw [e1]
      refine go ?_
      refine Ko rfl ?_ ⟨rfl, rfl⟩
      refine Et (RPopO.close (sb := rs) (a := ad p) (r := ro) Q rfl rfl rfl rfl rfl rfl (by rw [hq]) rfl) ?_
      refine Et (Ek (a := ad b)) ?_
      refine Et (RCreO.close (w := w) (rs := rs) (rt := rtOf c.was) (d := false) { c with cnt := c.cnt + 1, q := Q } h0.symm rfl rfl rfl ?_ rfl rfl hd.symm rfl) (Ec (Ec hback))
      rfl
    | true =>
      have e1 : crStep x.spare x.root cl m c = (crPopped { c with cnt := c.cnt + 1, q := Q }, (popStep x.spare m c.q).2) := by unfold crStep; rw [hd, h0, hQ]; rw [hQ] at hq; simp only [bf, if_false, hq, if_true]
      rw [e1]
      refine go ?_
      refine Se_ (Et (RPopO.close (sb := rs) (a := ad p) (r := ro) Q rfl rfl rfl rfl rfl rfl (by rw [hq]) rfl) (Er _)) ?_
      refine Sa rfl (refPopGot (b := p) (sb := rs) (rm := rm) (k := x.spare) (q := Q) hq hlen) ?_
      rintro v L' ⟨r1, c1, rfl, rfl⟩
      refine go ?_
      cases hg : Q.got with
      | nil =>
        have e2 : crPopped { c with cnt := c.cnt + 1, q := Q } = { c with cnt := c.cnt + 1, q := Q, point := c.cnt + 1, code := 7, done := true } := by unfold crPopped; rw [hg]
        rw [e2]
        refine go ?_
        refine Ko rfl ?_ ⟨rfl, rfl⟩
        refine Et (Ek (a := ad b)) ?_
        refine Et (Ec (Ek (a := ad p))) ?_
        refine Et (RCreO.close (w := w) (rs := rs) (rt := rtOf c.was) (d := true) { c with cnt := c.cnt + 1, q := Q, point := c.cnt + 1, code := 7, done := true } h0.symm rfl rfl rfl ?_ rfl rfl rfl rfl) (Ec ?_)
        ·unfold CreS.rgen
         dsimp only
         rw [if_neg (by simp [hd]), if_neg (by simp [h0])]
        ·refine Et (Ek (a := ad rm)) (Ec ?_)
         refine Et ?_ hback
         exact ent
      | cons y l =>
        have e2 : crPopped { c with cnt := c.cnt + 1, q := Q } = { c with cnt := c.cnt + 1, q := Q, point := c.cnt + 1, slot := y, at_ := 1 } := by unfold crPopped; rw [hg]
        rw [e2]
        rw [hg] at hlen
        simp only [List.length_cons] at hlen ⊢
        refine Xn rfl (dz (by omega)) ?_
        refine Cx.rowkey (a := r1) fun hx0 hn0 hc0 hk0 => ?_
        obtain ⟨rg, rfl⟩ : ∃ g, r1 = ad g := by
         rcases hk0 with h | h
         ·omega
         ·exact h
        refine go ?_
        refine Sv rfl ⟨by omega, by omega⟩ ?_
        refine Sx.ldr (b := rg) rfl (v := ii y) rfl (go ?_)
        refine Ko rfl ?_ ⟨rfl, rfl⟩
        refine Et (Ek (a := ad b)) ?_
        refine Et (Ec (Ek (a := ad p))) ?_
        refine Et (RCreO.close (w := w) (rs := rs) (rt := rtOf c.was) (d := false) { c with cnt := c.cnt + 1, q := Q, point := c.cnt + 1, slot := y, at_ := 1 } rfl rfl rfl rfl ?_ rfl rfl hd.symm rfl) (Ec ?_)
        ·unfold CreS.rgen
         dsimp only
         rw [if_neg (by simp [hd]), if_neg (by simp [hd])]
        ·refine Et ?_ (Ec hback)
         exact ent
   ·have e1 : crStep x.spare x.root cl m c = ({ c with cnt := c.cnt + 1, was := m.at_ (x.root + c.slot.toNat), at_ := 2 }, m.tick) := by unfold crStep; rw [hd, h0]; rfl
    have hs' := hs (by omega)
    have hs2 : c.slot < x.sl := hs'.2
    obtain ⟨s, hs1⟩ : ∃ s : Nat, c.slot = s := ⟨c.slot.toNat, by omega⟩
    have er : c.rslot = s := by unfold CreS.rslot; rw [if_neg (by omega), hs1]
    rw [e1, h0, er, hs1, tn]
    refine go ?_
    refine Xd rfl kr_ (ge ?_)
    refine Eb kr_ rfl rfl (refRootAt hx s (by omega)) (ge ?_)
    refine Ea kr_ rfl rfl (refLoad (rm := rm) (m := m) (x.root + s) (by omega)) (Pd kr_) ?_
    rintro v L' ⟨rfl, rfl⟩
    refine ge ?_
    have hwl := Ml hm.1 (x.root + s)
    refine Eb kr_ rfl rfl (refGetRoot (m.at_ (x.root + s)) hwl) (ge ?_)
    refine Ev.stnH (b := b) (rcrV w cl 1 ((c.cnt + 1 : Nat) : Int) c.point s c.rgen p (rtOf (m.at_ (x.root + s))) c.code false) kr_ rfl rfl rfl rfl rfl rfl rfl rfl (Pd kr_) (ge ?_)
    refine go ?_
    refine Ko rfl ?_ ⟨rfl, rfl⟩
    refine Et (Ek (a := ad b)) ?_
    refine Et (Ec (Ek (a := ad p))) ?_
    refine Et (RCreO.close (w := w) (rs := rs) (rt := rtOf (m.at_ (x.root + s))) (d := false) { c with cnt := c.cnt + 1, slot := (s : Int), was := m.at_ (x.root + s), at_ := 2 } rfl rfl rfl rfl ?_ rfl rfl hd.symm rfl) (Ec ?_)
    ·unfold CreS.rgen
     dsimp only
     rw [if_neg (by simp [hd]), if_neg (by simp [hd])]
    ·refine Et ?_ (Ec hback)
     exact ent
   ·have e1 : crStep x.spare x.root cl m c = ({ c with cnt := c.cnt + 1, done := true }, m.put (x.root + c.slot.toNat) (nextRt cl c.was).w) := by unfold crStep; rw [hd, h0]; rfl
    have hs' := hs (by omega)
    have hs2 : c.slot < x.sl := hs'.2
    obtain ⟨s, hs1⟩ : ∃ s : Nat, c.slot = s := ⟨c.slot.toNat, by omega⟩
    have er : c.rslot = s := by unfold CreS.rslot; rw [if_neg (by omega), hs1]
    have hnk := nextRt_ok (cl := cl) hw hcl
    rw [e1, h0, er, hs1, tn]
    refine go ?_
    refine Sa rfl (refLater (rtOf c.was).gen (rtOf_gen hw)) ?_
    rintro v L' ⟨rfl, rfl⟩
    refine go ?_
    refine Xd rfl kr_ (ge ?_)
    refine Eb kr_ rfl rfl (refPutRoot (nextRt cl c.was) hnk) (ge ?_)
    refine go ?_
    refine Xd rfl kr_ (ge ?_)
    refine Eb kr_ rfl rfl (refRootAt hx s (by omega)) (ge ?_)
    refine Ea kr_ rfl rfl (refStore (rm := rm) (m := m) (x.root + s) (nextRt cl c.was).w (by omega) (Rt.w_lt hnk)) (Pd kr_) ?_
    rintro v L' ⟨rfl, rfl⟩
    refine ge ?_
    refine go ?_
    refine Ko rfl ?_ ⟨rfl, rfl⟩
    refine Et (Ek (a := ad b)) ?_
    refine Et (Ec (Ek (a := ad p))) ?_
    refine Et (RCreO.close (w := w) (rs := rs) (rt := rtOf c.was) (d := true) { c with at_ := 2, cnt := c.cnt + 1, slot := (s : Int), done := true } rfl rfl rfl rfl ?_ rfl rfl rfl rfl) (Ec ?_)
    ·unfold CreS.rgen
     dsimp only
     rw [if_pos ⟨rfl, rfl⟩]
    ·refine Et ?_ (Ec hback)
     exact ent
end
theorem itI_some {l : List Int} {i : Nat} (h : i < l.length) : (ints l)[i]? = some (ii (itI l i)) := by simp [ints, itI, h]
section
variable {L F G : St}
theorem Rd.pre {a : OA} {n m : Nat} {vs : List Value} (h : Rd L 1 a n vs) (hm : m ≤ n) : Rd L 1 a m (vs.take m) := by
 obtain ⟨h1, h2⟩ := h
 refine ⟨by rw [List.length_take]; omega, ?_⟩
 rcases h2 with h0 | ⟨b, o, rfl, hh⟩
 ·left; omega
 ·right
  have := hh.sub (i := 0) (n := m)
  exact ⟨b, o, rfl, by simpa using this⟩
theorem Rd.get1 {a : OA} {n i : Nat} {vs : List Value} {v : Value} (h : Rd L 1 a n vs) (hv : vs[i]? = some v) : ∃ b o, a = some ⟨b, o, none⟩ ∧ Has L b (o + i) [v] := by
 have hlt := (List.getElem?_eq_some_iff.1 hv).1
 obtain ⟨h1, h0 | ⟨b, o, rfl, h2⟩⟩ := h
 ·omega
 ·exact ⟨b, o, rfl, (h2.sub (i := i) (n := 1)).one (take_one hv)⟩
theorem sliceIndex {a : OA} {n c : Nat} {xs : List Int} (x : Int) (hr : Rd L 1 a n (ints xs)) (hn : n ≤ 1000000000) :
  FX 269 [.slice a n c, ii x] L (fun v L' => (∃ i : Int, v = ii i ∧ (0 ≤ i ↔ x ∈ xs)) ∧ L = L') := by
 have hl : xs.length = n := by have := hr.1; simpa [ints] using this
 refine Fm Tryz.func269 k269 ?_
 dsimp only [c269, eL]
 refine go ?_
 refine Cx.lp (α := {i : Nat // i ≤ n ∧ x ∉ xs.take i}) (fun i => [(0, .slice a n c), (1, ii x), (7, ii n), (8, ii i.1)]) (fun _ => L) (fun i => n - i.1) ⟨0, by omega, by simp⟩ sb4 (Er _) ?_
 rintro ⟨i, hi, hni⟩
 dsimp only
 refine go ?_
 refine Xi rfl (fun h => ?_) (fun h => ?_)
 ·have hv := itI_some (l := xs) (i := i) (by omega)
  obtain ⟨b, o, rfl, hh⟩ := hr.get1 hv
  refine go ?_
  refine Sv rfl ⟨by omega, by omega⟩ ?_
  refine Sx.ld rfl (by simpa using hh) rfl (go ?_)
  refine Xi rfl (fun e => ?_) (fun e => ?_)
  ·refine go ?_
   refine Ko rfl (Er _) ⟨⟨i, rfl, fun _ => ?_, fun _ => by omega⟩, rfl⟩
   rw [e]
   exact itI_mem (by omega)
  ·refine go ?_
   rw [w64 (by omega) (by omega)]
   refine Kn ⟨i + 1, by omega, ?_⟩ sb4 (Er _) (by dsimp only; omega)
   rw [List.take_succ_eq_append_getElem (by omega), List.mem_append]
   rintro (h1 | h1)
   ·exact hni h1
   ·rw [List.mem_singleton] at h1
    exact e (h1.trans (by simp [itI, show i < xs.length by omega]))
 ·obtain rfl : i = n := by omega
  rw [← hl, List.take_length] at hni
  refine go ?_
  exact Ko rfl (Er _) ⟨⟨-1, rfl, by simp [hni]⟩, rfl⟩
theorem sliceContains {a : OA} {n c : Nat} {xs : List Int} (x : Int) (hr : Rd L 1 a n (ints xs)) (hn : n ≤ 1000000000) :
  FX 265 [.slice a n c, ii x] L (fun v L' => v = .bool (decide (x ∈ xs)) ∧ L = L') := by
 refine Fm Tryz.func265 k265 ?_
 dsimp only [c265, eL]
 refine go ?_
 refine Sa rfl (sliceIndex (a := a) (n := n) (c := c) (xs := xs) x hr hn) ?_
 rintro v L' ⟨⟨i, rfl, hi⟩, rfl⟩
 refine go ?_
 exact Ko rfl (Er _) ⟨congrArg Value.bool (decide_eq_decide.2 hi), rfl⟩
def pushI (p : PushS) : Nat := min p.at_ (p.l.length - 1)
def pushFn (p : PushS) : FuncId := if p.at_ + 1 < p.l.length then 267 else if p.at_ + 1 = p.l.length then 266 else if p.at_ = p.l.length then 270 else 272
def pushNx (a : OA) (p : PushS) : Value := bif p.done then .nilFunc else .func (.func (pushFn p)) #[.pointer a] #[]
def pushL (T : TypeId) (sb : Nat) (k : Sk) (p : PushS) (a : OA) (y : (OA × Nat) × Int) : St :=
 [lift (p.ok k), pt a (Blk T [pushNx a p, .nilFunc, .nilFunc, .nilFunc, ii y.2, zp sb, .slice y.1.1 p.l.length y.1.2, ii (pushI p : Nat), wd p.was]), pt y.1.1 (Row 3 1 p.l.length y.1.2 (ints p.l))]
def PushT (T : TypeId) (sb : Nat) (k : Sk) (p : PushS) (a : OA) : As := exs (pushL T sb k p a)
abbrev PushO := PushT 296
theorem PushO.close {T : TypeId} {sb : Nat} {k : Sk} {a r : OA} {c n : Nat} {cnt : Int} {v0 v1 v2 : Value} {w : List Value} {F G : St} (p : PushS) (hp : p.ok k)
  [t : Take L a (Blk T [v0, .nilFunc, .nilFunc, .nilFunc, ii cnt, zp sb, .slice r n c, v1, v2]) F] [u : Take F r (Row 3 1 n c w) G]
  (h0 : v0 = pushNx a p) (h1 : v1 = ii (pushI p : Nat)) (h2 : v2 = wd p.was) (hn : n = p.l.length) (hw : w = ints p.l) : Ent L (pt a (PushT T sb k p) :: G) := by
 subst h0; subst h1; subst h2; subst hn; subst hw
 refine Et (Em (t := t) (Eo u.out)) ?_
 refine Et (Ent.lift hp (Er _)) ?_
 exact Ent.close (f := pushL T sb k p a) rfl ((r, c), cnt)
set_option maxHeartbeats 2000000 in
theorem stackPush {sb mp : Nat} {k : Sk} {a : OA} {n c : Nat} {l : List Int} (hr : Rd L 1 a n (ints l)) (hc : n ≤ c) (hn : n ≤ 1000000000) [s : Take L (ad sb) (SkO mp k) F] :
  FX 258 [zp sb, .slice a n c] L (fun v L' =>
   (¬ (l.Nodup ∧ ∀ x ∈ l, 0 ≤ x ∧ x < k.n) ∧ v = .tuple #[.pointer none, ii 1] ∧ L = L') ∨
   ((l.Nodup ∧ ∀ x ∈ l, 0 ≤ x ∧ x < k.n) ∧ ∃ g, v = .tuple #[zp g, ii 0] ∧ L' = pt (ad g) (PushO sb k (PushS.init l)) :: L)) := by
 have hl : l.length = n := by have := hr.1; simpa [ints] using this
 refine Fm Tryz.func258 k258 ?_
 dsimp only [c258, eL]
 refine go ?_
 refine Cx.lp (α := {i : Nat // i ≤ n ∧ (l.take i).Nodup ∧ ∀ x ∈ l.take i, 0 ≤ x ∧ x < k.n}) (fun i => [(0, zp sb), (1, .slice a n c), (9, .slice a n c), (10, ii n), (11, ii i.1)]) (fun _ => L) (fun i => n - i.1)
  ⟨0, by omega, by simp, by simp⟩ sb5 (Er _) ?_
 rintro ⟨i, hi, hnd, hrg⟩
 dsimp only
 refine go ?_
 refine Xi rfl (fun h => ?_) (fun h => ?_)
 ·have hv := itI_some (l := l) (i := i) (by omega)
  obtain ⟨b, o, rfl, hh⟩ := hr.get1 hv
  have hmem := itI_mem (l := l) (i := i) (by omega)
  have hbad : ∀ (hb : ¬ ((0 ≤ itI l i ∧ itI l i < k.n) ∧ itI l i ∉ l.take i)), ¬ (l.Nodup ∧ ∀ x ∈ l, 0 ≤ x ∧ x < k.n) := by
   rintro hb ⟨g1, g2⟩
   refine hb ⟨g2 _ hmem, fun hin => ?_⟩
   obtain ⟨j, hj, e⟩ := List.getElem_of_mem hin
   have hj' : j < i := by rw [List.length_take] at hj; omega
   rw [List.getElem_take] at e
   have e2 : itI l i = l[i]'(by omega) := by simp [itI, show i < l.length by omega]
   have := (List.getElem_inj g1).1 (e.trans e2)
   omega
  refine go ?_
  refine Sv rfl ⟨by omega, by omega⟩ ?_
  refine Sx.ld rfl (by simpa using hh) rfl (go ?_)
  refine Sx.ifp rfl (fun h1 => ?_) (fun h1 => ?_)
  ·refine go ?_
   exact Kr.two (.inr rfl) rfl rfl (Er _) (.inl ⟨hbad fun hg => by omega, rfl, rfl⟩)
  ·refine go ?_
   refine Sx.ifp rfl (fun h2 => ?_) (fun h2 => ?_)
   ·refine go ?_
    exact Kr.two (.inr rfl) rfl rfl (Er _) (.inl ⟨hbad fun hg => by omega, rfl, rfl⟩)
   ·refine go ?_
    refine Sv rfl ⟨by omega, by omega⟩ (go ?_)
    have hpre : Rd L 1 (some ⟨b, o, none⟩) (i : Int).toNat (ints (l.take i)) := by
     have := hr.pre (m := i) (by omega)
     rw [show (i : Int).toNat = i by omega]
     rwa [show (ints l).take i = ints (l.take i) by simp [ints]] at this
    refine Sa rfl (sliceContains (xs := l.take i) (itI l i) hpre (by omega)) ?_
    rintro v L' ⟨rfl, rfl⟩
    refine go ?_
    refine Xi rfl (fun h3 => ?_) (fun h3 => ?_)
    ·refine go ?_
     exact Kr.two (.inr rfl) rfl rfl (Er _) (.inl ⟨hbad fun hg => hg.2 h3, rfl, rfl⟩)
    ·refine go ?_
     rw [w64 (by omega) (by omega)]
     have ht : l.take (i + 1) = l.take i ++ [itI l i] := by
      rw [List.take_succ_eq_append_getElem (by omega)]; simp [itI, show i < l.length by omega]
     refine Kn ⟨i + 1, by omega, ?_, ?_⟩ sb5 (Er _) (by dsimp only; omega)
     ·rw [ht, List.nodup_append]
      refine ⟨hnd, by simp, ?_⟩
      intro x hx y hy e
      rw [List.mem_singleton] at hy
      exact h3 (by rw [← hy, ← e]; exact hx)
     ·rw [ht]
      intro x hx
      rcases List.mem_append.1 hx with hx | hx
      ·exact hrg x hx
      ·rw [List.mem_singleton] at hx
       subst hx
       omega
 ·obtain rfl : i = n := by omega
  rw [← hl, List.take_length] at hnd hrg
  refine go ?_
  refine Sa rfl (clone hr (ones_ints _) hn) ?_
  rintro v L' ⟨ra, ca, rfl, rfl⟩
  refine go ?_
  refine Sx.bx rfl rfl fun g => (go ?_)
  have hok : (PushS.init l).ok k := PushS.ok_init hrg
  refine Xi rfl (fun h0 => ?_) (fun h0 => ?_)
  ·refine go ?_
   refine Kr.two (.inr rfl) rfl rfl ?_ (.inr ⟨⟨hnd, hrg⟩, g, rfl, rfl⟩)
   have hl0 : l = [] := List.length_eq_zero_iff.1 (by omega)
   refine Et (PushO.close (a := ad g) (r := ra) (sb := sb) (k := k) (PushS.init l) hok ?_ ?_ rfl hl.symm rfl) ?_
   ·simp [pushNx, PushS.init, hl0]
   ·simp [pushI, PushS.init, hl0]
   ·exact ent
  ·refine go ?_
   refine Xi rfl (fun h1 => ?_) (fun h1 => ?_)
   ·refine go ?_
    refine Sa rfl (machGo (b := g)) ?_
    rintro v L' ⟨rfl, rfl⟩
    refine go ?_
    refine Kr.two (.inr rfl) rfl rfl ?_ (.inr ⟨⟨hnd, hrg⟩, g, rfl, rfl⟩)
    have hl0 : l ≠ [] := fun e => by subst e; simp at hl; omega
    refine Et (PushO.close (a := ad g) (r := ra) (sb := sb) (k := k) (PushS.init l) hok ?_ ?_ rfl hl.symm rfl) ?_
    ·simp [pushNx, pushFn, PushS.init, hl0, hl, show i = 1 by omega]
    ·simp [pushI, PushS.init]
    ·exact ent
   ·refine go ?_
    refine Sa rfl (machGo (b := g)) ?_
    rintro v L' ⟨rfl, rfl⟩
    refine go ?_
    refine Kr.two (.inr rfl) rfl rfl ?_ (.inr ⟨⟨hnd, hrg⟩, g, rfl, rfl⟩)
    have hl0 : l ≠ [] := fun e => by subst e; simp at hl; omega
    refine Et (PushO.close (a := ad g) (r := ra) (sb := sb) (k := k) (PushS.init l) hok ?_ ?_ rfl hl.symm rfl) ?_
    ·simp [pushNx, pushFn, PushS.init, hl0, hl, show 1 < i by omega]
    ·simp [pushI, PushS.init]
    ·exact ent
end
section
variable {L F G : St}
abbrev pushF (b sb mp : Nat) (k : Sk) (m : Mm) (p : PushS) (r : OA) (c : Nat) (cnt : Int) (G : St) : St :=
 pt (ad b) (Blk 296 [.nilFunc, .nilFunc, .nilFunc, .nilFunc, ii cnt, zp sb, .slice r p.l.length c, ii (pushI p : Nat), wd p.was]) ::
 pt r (Row 3 1 p.l.length c (ints p.l)) :: pt (ad mp) (MemO m) :: pt (ad sb) (SkO mp k) :: G
abbrev pushR (b sb mp : Nat) (k : Sk) (m : Mm) (p : PushS) (G : St) (v : Value) (L' : St) : Prop :=
 L' = pt (ad b) (PushO sb k (pushStep k m p).1) :: pt (ad mp) (MemO (pushStep k m p).2) :: pt (ad sb) (SkO mp k) :: G
theorem wrapS {x : Int} (h1 : 0 ≤ x) (h2 : x ≤ 9223372036854775807) : IntKind.u64.wrap (IntKind.i64.wrap x) = ((x.toNat : Nat) : Int) := by
 rw [w64 (by omega) h2, wu64 h1 (by omega)]; omega
theorem push_link_ {b sb mp : Nat} {k : Sk} {m : Mm} {p : PushS} {r : OA} {c : Nat} {cnt : Int} (hm : m.ok) (hk : k.ok m.ws.length) (hp : p.ok k) (ha : p.at_ + 1 < p.l.length) (hd : p.done = false) :
  FX 267 [zp b] (pushF b sb mp k m p r c cnt G) (pushR b sb mp k m p G) := by
 have hok := pushStep_ok (k := k) hm hp
 have e : pushStep k m p = ({ p with at_ := p.at_ + 1 }, m.put (k.links + (itI p.l p.at_).toNat) (itI p.l (p.at_ + 1) + 1).toNat) := by
  unfold pushStep; rw [hd]; simp only [bf, if_false]; rw [if_pos ha]
 have hI : pushI p = p.at_ := by unfold pushI; omega
 have hv1 := itI_some (l := p.l) (i := p.at_) (by omega)
 have hv2 := itI_some (l := p.l) (i := p.at_ + 1) (by omega)
 have hr1 := hp.g _ (itI_mem (l := p.l) (i := p.at_) (by omega))
 have hr2 := hp.g _ (itI_mem (l := p.l) (i := p.at_ + 1) (by omega))
 obtain ⟨k1, k2, k3, k4, k5, k6⟩ := hk
 obtain ⟨x, hx⟩ : ∃ x : Nat, itI p.l p.at_ = x := ⟨(itI p.l p.at_).toNat, by omega⟩
 obtain ⟨y, hy⟩ : ∃ y : Nat, itI p.l (p.at_ + 1) = y := ⟨(itI p.l (p.at_ + 1)).toNat, by omega⟩
 have e' : pushStep k m p = ({ p with at_ := p.at_ + 1 }, m.put (k.links + x) (y + 1)) := by rw [e, hx, hy]; rfl
 rw [hx] at hr1 hv1
 rw [hy] at hr2 hv2
 refine Fm Tryz.func267 k267 ?_
 dsimp only [c267, eL]
 unfold pushF
 rw [hI]
 refine Cx.rowkey (a := r) fun hxl hc1 hc2 hkr => ?_
 have hc3 : c ≤ 18446744073709551616 := by have := hc2; unfold maxLen at this; omega
 obtain ⟨rg, rfl⟩ : ∃ g, r = ad g := by
  rcases hkr with h | h
  ·omega
  ·exact h
 have hlm : p.l.length ≤ 9223372036854775807 := by unfold maxLen at hc2; omega
 refine go ?_
 refine Xd rfl kr_ (ge ?_)
 refine El (b := rg) kr_ rfl rfl (v := ii (x : Nat)) (by rw [show 0 + ((p.at_ : Int)).toNat * 1 = p.at_ by omega]; exact hv1) (ge ?_)
 rw [w64 (n := (p.at_ : Int) + 1) (by omega) (by omega)]
 refine Ev.pvH kr_ rfl rfl ⟨by omega, by omega⟩ ?_
 refine El (b := rg) kr_ rfl rfl (v := ii (y : Nat)) (by rw [show 0 + ((p.at_ : Int) + 1).toNat * 1 = p.at_ + 1 by omega]; exact hv2) (ge ?_)
 rw [w64 (n := (k.links : Int) + x) (by omega) (by omega), show (k.links : Int) + x = ((k.links + x : Nat) : Int) by omega, wrapS (x := (y : Int) + 1) (by omega) (by omega), show ((y : Int) + 1).toNat = y + 1 by omega]
 refine Ea kr_ rfl rfl (cellsStore (b := mp) (m := m) (k.links + x) (y + 1) (by omega) (by omega)) (Pd kr_) ?_
 rintro v L' ⟨rfl, rfl⟩
 refine ge ?_
 refine go ?_
 rw [w64 (n := (p.at_ : Int) + 1) (by omega) (by omega)]
 refine go ?_
 refine Xd rfl kr_ (ge ?_)
 rw [w64 (n := (p.l.length : Int) - 1) (by omega) (by omega)]
 rw [e'] at hok
 have hI2 : pushI { p with at_ := p.at_ + 1 } = p.at_ + 1 := by unfold pushI; dsimp only; omega
 refine Xi rfl (fun h => ?_) (fun h => ?_)
 ·refine go ?_
  refine Sa rfl (machGo (b := b)) ?_
  rintro v L' ⟨rfl, rfl⟩
  refine go ?_
  refine Kr.none (.inl rfl) ?_ rfl
  rw [e']
  refine Et (PushO.close (a := ad b) (r := ad rg) (sb := sb) (k := k) _ hok ?_ ?_ rfl rfl rfl) ?_
  ·simp [pushNx, pushFn, hd, show p.at_ + 1 + 1 < p.l.length by omega]
  ·rw [hI2]; rfl
  ·exact ent
 ·refine go ?_
  refine Sa rfl (machGo (b := b)) ?_
  rintro v L' ⟨rfl, rfl⟩
  refine go ?_
  refine Kr.none (.inl rfl) ?_ rfl
  rw [e']
  refine Et (PushO.close (a := ad b) (r := ad rg) (sb := sb) (k := k) _ hok ?_ ?_ rfl rfl rfl) ?_
  ·simp [pushNx, pushFn, hd, show ¬ p.at_ + 1 + 1 < p.l.length by omega, show p.at_ + 1 + 1 = p.l.length by omega]
  ·rw [hI2]; rfl
  ·exact ent
theorem push_load_ {b sb mp : Nat} {k : Sk} {m : Mm} {p : PushS} {r : OA} {c : Nat} {cnt : Int} (hm : m.ok) (hk : k.ok m.ws.length) (hp : p.ok k) (ha : p.at_ + 1 = p.l.length) (hd : p.done = false) :
  FX 266 [zp b] (pushF b sb mp k m p r c cnt G) (pushR b sb mp k m p G) := by
 have hok := pushStep_ok (k := k) hm hp
 have e : pushStep k m p = ({ p with at_ := p.at_ + 1, was := m.at_ k.head }, m.tick) := by
  unfold pushStep; rw [hd]; simp only [bf, if_false]; rw [if_neg (by omega), if_pos ha]
 rw [e] at hok
 have hI : pushI p = p.at_ := by unfold pushI; omega
 obtain ⟨k1, k2, k3, k4, k5, k6⟩ := hk
 refine Fm Tryz.func266 k266 ?_
 dsimp only [c266, eL]
 unfold pushF
 rw [hI]
 refine go ?_
 refine Xd rfl kr_ (ge ?_)
 refine Ea kr_ rfl rfl (cellsLoad (b := mp) (m := m) k.head k3) (Pd kr_) ?_
 rintro v L' ⟨rfl, rfl⟩
 refine ge ?_
 refine Es (b := b) kr_ rfl rfl rfl rfl rfl (by rfl) rfl (Pd kr_) (ge ?_)
 refine go ?_
 refine Sa rfl (machGo (b := b)) ?_
 rintro v L' ⟨rfl, rfl⟩
 refine go ?_
 refine Kr.none (.inl rfl) ?_ rfl
 rw [e]
 refine Et (PushO.close (a := ad b) (r := r) (sb := sb) (k := k) _ hok ?_ ?_ rfl rfl rfl) ?_
 ·simp [pushNx, pushFn, hd, ha]
 ·rw [show pushI { p with at_ := p.at_ + 1, was := m.at_ k.head } = p.at_ by unfold pushI; dsimp only; omega]
 ·exact ent
theorem push_last_ {b sb mp : Nat} {k : Sk} {m : Mm} {p : PushS} {r : OA} {c : Nat} {cnt : Int} (hm : m.ok) (hk : k.ok m.ws.length) (hp : p.ok k) (ha : p.at_ = p.l.length) (hd : p.done = false) :
  FX 270 [zp b] (pushF b sb mp k m p r c cnt G) (pushR b sb mp k m p G) := by
 have hok := pushStep_ok (k := k) hm hp
 have hlp := List.length_pos_iff.2 (hp.ne hd)
 have hv1 := itI_some (l := p.l) (i := p.l.length - 1) (by omega)
 have hr1 := hp.g _ (itI_mem (l := p.l) (i := p.l.length - 1) (by omega))
 have ht1 := k.top_ge p.was
 have ht2 := k.top_lt p.was
 obtain ⟨k1, k2, k3, k4, k5, k6⟩ := hk
 obtain ⟨x, hx⟩ : ∃ x : Nat, itI p.l (p.l.length - 1) = x := ⟨(itI p.l (p.l.length - 1)).toNat, by omega⟩
 have e : pushStep k m p = ({ p with at_ := p.at_ + 1 }, m.put (k.links + x) (k.top p.was + 1).toNat) := by
  unfold pushStep; rw [hd]; simp only [bf, if_false]; rw [if_neg (by omega), if_neg (by omega), if_pos ha, hx]; rfl
 rw [e] at hok
 rw [hx] at hr1 hv1
 have hI : pushI p = p.l.length - 1 := by unfold pushI; omega
 refine Fm Tryz.func270 k270 ?_
 dsimp only [c270, eL]
 unfold pushF
 rw [hI]
 refine Cx.rowkey (a := r) fun hxl hc1 hc2 hkr => ?_
 obtain ⟨rg, rfl⟩ : ∃ g, r = ad g := by
  rcases hkr with h | h
  ·omega
  ·exact h
 have hlm : p.l.length ≤ 9223372036854775807 := by unfold maxLen at hc2; omega
 refine go ?_
 refine Xd rfl kr_ (ge ?_)
 rw [w64 (n := (p.l.length : Int) - 1) (by omega) (by omega)]
 refine Ev.pvH kr_ rfl rfl ⟨by omega, by omega⟩ ?_
 refine El (b := rg) kr_ rfl rfl (v := ii (x : Nat)) (by rw [show 0 + ((p.l.length : Int) - 1).toNat * 1 = p.l.length - 1 by omega]; exact hv1) (ge ?_)
 refine Eb kr_ rfl rfl (stackTop (sb := sb) (mp := mp) (k := k) p.was hp.w) (ge ?_)
 rw [w64 (n := (k.links : Int) + x) (by omega) (by omega), show (k.links : Int) + x = ((k.links + x : Nat) : Int) by omega, wrapS (x := k.top p.was + 1) (by omega) (by omega)]
 refine Ea kr_ rfl rfl (cellsStore (b := mp) (m := m) (k.links + x) (k.top p.was + 1).toNat (by omega) (by omega)) (Pd kr_) ?_
 rintro v L' ⟨rfl, rfl⟩
 refine ge ?_
 refine go ?_
 refine Sa rfl (machGo (b := b)) ?_
 rintro v L' ⟨rfl, rfl⟩
 refine go ?_
 refine Kr.none (.inl rfl) ?_ rfl
 rw [e]
 refine Et (PushO.close (a := ad b) (r := ad rg) (sb := sb) (k := k) _ hok ?_ ?_ rfl rfl rfl) ?_
 ·(unfold pushNx pushFn; dsimp only; rw [hd]; (first | rw [if_pos (by omega)] | rw [if_neg (by omega), if_pos (by omega)] | rw [if_neg (by omega), if_neg (by omega), if_pos (by omega)] | rw [if_neg (by omega), if_neg (by omega), if_neg (by omega)]); rfl)
 ·rw [show pushI { p with at_ := p.at_ + 1 } = p.l.length - 1 by unfold pushI; dsimp only; omega]
 ·exact ent
theorem push_cas_ {b sb mp : Nat} {k : Sk} {m : Mm} {p : PushS} {r : OA} {c : Nat} {cnt : Int} (hm : m.ok) (hk : k.ok m.ws.length) (hp : p.ok k) (ha : p.at_ = p.l.length + 1) (hd : p.done = false) :
  FX 272 [zp b] (pushF b sb mp k m p r c cnt G) (pushR b sb mp k m p G) := by
 have hok := pushStep_ok (k := k) hm hp
 have hlp := List.length_pos_iff.2 (hp.ne hd)
 have hv1 := itI_some (l := p.l) (i := 0) (by omega)
 have hr1 := hp.g _ (itI_mem (l := p.l) (i := 0) (by omega))
 have e : pushStep k m p = ({ p with at_ := p.l.length - 1, done := decide (m.at_ k.head = p.was) }, m.cas k.head p.was (nextW p.was (itI p.l 0))) := by
  unfold pushStep; rw [hd]; simp only [bf, if_false]; rw [if_neg (by omega), if_neg (by omega), if_neg (by omega)]
 rw [e] at hok
 have hI : pushI p = p.l.length - 1 := by unfold pushI; omega
 refine Fm Tryz.func272 k272 ?_
 dsimp only [c272, eL]
 unfold pushF
 rw [hI]
 refine Cx.rowkey (a := r) fun hxl hc1 hc2 hkr => ?_
 obtain ⟨rg, rfl⟩ : ∃ g, r = ad g := by
  rcases hkr with h | h
  ·omega
  ·exact h
 refine go ?_
 refine Xd rfl kr_ (ge ?_)
 refine El (b := rg) kr_ rfl rfl (v := ii (itI p.l 0)) hv1 (ge ?_)
 refine Ea kr_ rfl rfl (stackExchange (sb := sb) (mp := mp) (k := k) (m := m) p.was (itI p.l 0) hk hp.w (by omega) hr1.2) (Pd kr_) ?_
 rintro v L' ⟨rfl, rfl⟩
 refine ge ?_
 have hI2 : ∀ d, pushI { p with at_ := p.l.length - 1, done := d } = p.l.length - 1 := fun d => by unfold pushI; dsimp only; omega
 refine Cx.ifn rfl (fun h => ?_) (fun h => ?_)
 ·rw [dz h] at e hok
  refine go ?_
  refine Sa rfl (machGo (b := b)) ?_
  rintro v L' ⟨rfl, rfl⟩
  refine go ?_
  refine Kr.none (.inl rfl) ?_ rfl
  rw [e]
  refine Et (PushO.close (a := ad b) (r := ad rg) (sb := sb) (k := k) _ hok ?_ ?_ rfl rfl rfl) ?_
  ·simp [pushNx, pushFn, show ¬ p.l.length - 1 + 1 < p.l.length by omega, show p.l.length - 1 + 1 = p.l.length by omega]
  ·rw [hI2]
  ·exact ent
 ·rw [dt h] at e hok
  refine go ?_
  refine Kr.none (.inl rfl) ?_ rfl
  rw [e]
  refine Et (PushO.close (a := ad b) (r := ad rg) (sb := sb) (k := k) _ hok ?_ ?_ rfl rfl rfl) ?_
  ·simp [pushNx]
  ·rw [hI2]
  ·exact ent
theorem pushStepC {b sb mp : Nat} {k : Sk} {m : Mm} {p : PushS} {F1 F2 : St} (hk : k.ok m.ws.length) [tp : Take L (ad b) (PushO sb k p) F1] [t : Take F1 (ad mp) (MemO m) F2] [s : Take F2 (ad sb) (SkO mp k) G] :
  FX 239 [zp b] L (fun v L' => v = .bool (!p.done) ∧ L' = pt (ad b) (PushO sb k (pushStep k m p).1) :: pt (ad mp) (MemO (pushStep k m p).2) :: F2) := by
 refine Fm Tryz.func239 k239 ?_
 dsimp only [c239, eL]
 refine Xe (Et (Eo tp.out) (Ec (Et (Eo t.out) (Ec (Eo s.out))))) ?_
 refine Cx.pure (memKey (b := mp) (m := m)) fun hm => ?_
 refine Xo (a := ad b) rfl ?_
 rintro ⟨⟨r, c⟩, cnt⟩
 simp only [pushL, lc, ln]
 refine Cx.liftp fun hp => ?_
 cases hd : p.done with
 | true =>
   have e : pushStep k m p = (p, m) := by unfold pushStep; rw [hd]; rfl
   rw [e, show pushNx (ad b) p = .nilFunc by simp [pushNx, hd]]
   refine go ?_
   refine Sa rfl (machStepDone (b := b)) ?_
   rintro v L' ⟨rfl, rfl⟩
   refine go ?_
   refine Ko rfl ?_ ⟨rfl, rfl⟩
   refine Et (PushO.close (a := ad b) (r := r) (sb := sb) (k := k) p hp ?_ rfl rfl rfl rfl) (Ec (Ec (Eo s.back)))
   simp [pushNx, hd]
 | false =>
   have hcase := hp.a
   rcases (show p.at_ + 1 < p.l.length ∨ p.at_ + 1 = p.l.length ∨ p.at_ = p.l.length ∨ p.at_ = p.l.length + 1 by omega) with ha | ha | ha | ha
   ·rw [show pushNx (ad b) p = .func (.func 267) #[zp b] #[] by (unfold pushNx pushFn; rw [hd]; (first | rw [if_pos (by omega)] | rw [if_neg (by omega), if_pos (by omega)] | rw [if_neg (by omega), if_neg (by omega), if_pos (by omega)] | rw [if_neg (by omega), if_neg (by omega), if_neg (by omega)]); rfl)]
    refine go ?_
    refine Sa rfl (machStep (b := b) kr_ (push_link_ (G := G) hm.1 hk hp ha hd)) ?_
    rintro v L' ⟨rfl, u, rfl⟩
    refine go ?_
    exact Ko rfl (Ec (Ec (Eo s.back))) ⟨rfl, rfl⟩
   ·rw [show pushNx (ad b) p = .func (.func 266) #[zp b] #[] by (unfold pushNx pushFn; rw [hd]; (first | rw [if_pos (by omega)] | rw [if_neg (by omega), if_pos (by omega)] | rw [if_neg (by omega), if_neg (by omega), if_pos (by omega)] | rw [if_neg (by omega), if_neg (by omega), if_neg (by omega)]); rfl)]
    refine go ?_
    refine Sa rfl (machStep (b := b) kr_ (push_load_ (G := G) hm.1 hk hp ha hd)) ?_
    rintro v L' ⟨rfl, u, rfl⟩
    refine go ?_
    exact Ko rfl (Ec (Ec (Eo s.back))) ⟨rfl, rfl⟩
   ·rw [show pushNx (ad b) p = .func (.func 270) #[zp b] #[] by (unfold pushNx pushFn; rw [hd]; (first | rw [if_pos (by omega)] | rw [if_neg (by omega), if_pos (by omega)] | rw [if_neg (by omega), if_neg (by omega), if_pos (by omega)] | rw [if_neg (by omega), if_neg (by omega), if_neg (by omega)]); rfl)]
    refine go ?_
    refine Sa rfl (machStep (b := b) kr_ (push_last_ (G := G) hm.1 hk hp ha hd)) ?_
    rintro v L' ⟨rfl, u, rfl⟩
    refine go ?_
    exact Ko rfl (Ec (Ec (Eo s.back))) ⟨rfl, rfl⟩
   ·rw [show pushNx (ad b) p = .func (.func 272) #[zp b] #[] by (unfold pushNx pushFn; rw [hd]; (first | rw [if_pos (by omega)] | rw [if_neg (by omega), if_pos (by omega)] | rw [if_neg (by omega), if_neg (by omega), if_pos (by omega)] | rw [if_neg (by omega), if_neg (by omega), if_neg (by omega)]); rfl)]
    refine go ?_
    refine Sa rfl (machStep (b := b) kr_ (push_cas_ (G := G) hm.1 hk hp ha hd)) ?_
    rintro v L' ⟨rfl, u, rfl⟩
    refine go ?_
    exact Ko rfl (Ec (Ec (Eo s.back))) ⟨rfl, rfl⟩
theorem pushDoneC {b sb : Nat} {k : Sk} {p : PushS} {F1 : St} [tp : Take L (ad b) (PushO sb k p) F1] : FX 240 [zp b] L (fun v L' => v = .bool p.done ∧ L = L') := by
 refine Fx.kept (t := tp) ?_
 refine Fm Tryz.func240 k240 ?_
 dsimp only [c240, eL]
 refine Xo (t := tp) rfl ?_
 rintro ⟨⟨r, c⟩, cnt⟩
 simp only [pushL, lc, ln]
 refine Cx.liftp fun hp => ?_
 cases hd : p.done with
 | true =>
   have e : pushNx (ad b) p = .nilFunc := by simp [pushNx, hd]
   rw [e]
   refine go ?_
   refine Sa rfl (machDoneYes (b := b)) ?_
   rintro v L' ⟨rfl, rfl⟩
   refine go ?_
   exact Ko rfl (PushO.close (a := ad b) (r := r) (sb := sb) (k := k) p hp e.symm rfl rfl rfl rfl) ⟨rfl, rfl⟩
 | false =>
   have e : pushNx (ad b) p = .func (.func (pushFn p)) #[zp b] #[] := by simp [pushNx, hd]
   rw [e]
   refine go ?_
   refine Sa rfl (machDoneNo (b := b)) ?_
   rintro v L' ⟨rfl, rfl⟩
   refine go ?_
   exact Ko rfl (PushO.close (a := ad b) (r := r) (sb := sb) (k := k) p hp e.symm rfl rfl rfl rfl) ⟨rfl, rfl⟩
end
section
open Classical in
noncomputable def giveInit (k : Sk) (l : List Int) : PushS := if l.Nodup ∧ ∀ x ∈ l, 0 ≤ x ∧ x < k.n then PushS.init l else ⟨l, 0, 0, true⟩
theorem giveInit_yes {k : Sk} {l : List Int} (h : l.Nodup ∧ ∀ x ∈ l, 0 ≤ x ∧ x < k.n) : giveInit k l = PushS.init l := if_pos h
theorem giveInit_no {k : Sk} {l : List Int} (h : ¬ (l.Nodup ∧ ∀ x ∈ l, 0 ≤ x ∧ x < k.n)) : giveInit k l = ⟨l, 0, 0, true⟩ := if_neg h
theorem pushStep_l (k : Sk) (m : Mm) (p : PushS) : (pushStep k m p).1.l = p.l := by
 unfold pushStep
 (repeat' split) <;> rfl
section
variable {L F G : St}
abbrev gvB (b : Nat) (nx n1 n2 n3 : Value) (cnt : Int) (sl : Value) : As := pt (ad b) (Blk 248 [nx, n1, n2, n3, ii cnt, sl])
def giveDL (T : TypeId) (a : OA) (y : Value × Value × Value × Int × Value) : St := [pt a (Blk T [.nilFunc, y.1, y.2.1, y.2.2.1, ii y.2.2.2.1, y.2.2.2.2])]
def givePL (T : TypeId) (pb : Nat) (k : Sk) (p : PushS) (a : OA) (y : Nat × Int × (OA × Nat)) : St :=
 [pt a (Blk T [.func (.func 232) #[.pointer a] #[], mth 239 y.1, mth 240 y.1, .func (.func 261) #[.pointer a] #[], ii y.2.1, .slice y.2.2.1 p.l.length y.2.2.2]),
  pt (ad y.1) (PushO pb k p), pt y.2.2.1 (Row 3 1 p.l.length y.2.2.2 (ints p.l))]
def GiveT (T : TypeId) (pb : Nat) (k : Sk) (p : PushS) (a : OA) : As := bif p.done then exs (giveDL T a) else exs (givePL T pb k p a)
abbrev GiveO := GiveT 248
theorem GiveO.d {T : TypeId} {pb : Nat} {k : Sk} {p : PushS} {a : OA} (h : p.done = true) : GiveT T pb k p a = exs (giveDL T a) := by unfold GiveT; rw [h]; rfl
theorem GiveO.p {T : TypeId} {pb : Nat} {k : Sk} {p : PushS} {a : OA} (h : p.done = false) : GiveT T pb k p a = exs (givePL T pb k p a) := by unfold GiveT; rw [h]; rfl
theorem GiveO.closeD {b pb : Nat} {k : Sk} (p : PushS) (h : p.done = true) {n1 n2 n3 sl : Value} {cnt : Int} : Ent (gvB b .nilFunc n1 n2 n3 cnt sl :: G) (pt (ad b) (GiveO pb k p) :: G) :=
 Ent.close (f := giveDL 248 (ad b)) (GiveO.d h) (n1, n2, n3, cnt, sl)
theorem GiveO.closeP {b pb g : Nat} {k : Sk} {r : OA} {c n : Nat} {vs : List Value} {q : PushS} (p : PushS) (h : p.done = false) {cnt : Int} (hq : q = p) (hn : n = p.l.length) (hv : vs = ints p.l) :
  Ent (gvB b (mth 232 b) (mth 239 g) (mth 240 g) (mth 261 b) cnt (.slice r n c) :: pt (ad g) (PushO pb k q) :: pt r (Row 3 1 n c vs) :: G) (pt (ad b) (GiveO pb k p) :: G) := by
 subst hq; subst hn; subst hv
 exact Ent.close (f := givePL 248 pb k q (ad b)) (GiveO.p h) (g, cnt, r, c)
theorem giveEnd {v : Value} : FX 261 [v] L (fun v L' => v = .tuple #[] ∧ L = L') := by
 refine Fm Tryz.func261 k261 ?_
 dsimp only [c261, eL]
 refine Cx.sk ?_
 exact Kr.none (.inl rfl) (Er _) ⟨rfl, rfl⟩
theorem supGive {u mp pb : Nat} {x : Cn} {s : SupS} {l : List Int} {r : OA} {n c : Nat} {F : St} (hl : n = l.length) (hn : n ≤ 1000000000) [t : Take L (ad u) (SupO mp pb x s) F] [tr : Take F r (Row 3 1 n c (ints l)) G] {F3 : St} [tb : Take G (ad pb) (SkO mp x.pool) F3] :
  FX 245 [zp u, .slice r n c] L (fun v L' => ∃ b, v = zp b ∧ L' = pt (ad b) (GiveO pb x.pool (giveInit x.pool l)) :: pt (ad u) (SupO mp pb x s) :: G) := by
 subst hl
 refine Fm Tryz.func245 k245 ?_
 dsimp only [c245, eL]
 refine Xe (Et (Eo t.out) (Ec (Eo tr.out))) ?_
 refine Xo (a := ad u) rfl ?_
 rintro ⟨sh, lm⟩
 simp only [supL, lc, ln]
 refine Cx.rowkey (a := r) fun hxl hc1 _ hkr => (go ?_)
 refine Sx.bx rfl rfl fun b => (go ?_)
 refine Sa rfl (stackPush (sb := pb) (mp := mp) (k := x.pool) (l := l) (Rd.any (a := r) hxl (hkr.imp (fun h => h.2.1) id)) hc1 hn) ?_
 rintro v L' (⟨hno, rfl, rfl⟩ | ⟨hyes, g, rfl, rfl⟩)
 ·rw [giveInit_no hno]
  refine go ?_
  refine Ko rfl ?_ ⟨b, rfl, rfl⟩
  refine Et (GiveO.closeD ⟨l, 0, 0, true⟩ rfl) (Ec ?_)
  refine Et (SupO.close (a := ad u) (sh := sh) (lm := lm) (mp := mp) (pb := pb) (x := x) s rfl rfl rfl) (Ec ?_)
  exact ent
 ·rw [giveInit_yes hyes]
  refine go ?_
  by_cases hl0 : l = []
  ·have hd : (PushS.init l).done = true := by simp [PushS.init, hl0]
   refine Sa rfl (machThrough (b := b) (machOnYes (b := b) kr_ ((pushDoneC (b := g) (sb := pb) (k := x.pool) (p := PushS.init l)).mono (by rintro v L' ⟨rfl, rfl⟩; exact ⟨by rw [hd], rfl⟩)) kr_ giveEnd)) ?_
   rintro v L' ⟨rfl, w, rfl, w2, rfl, rfl⟩
   refine go ?_
   refine Ko rfl ?_ ⟨b, rfl, rfl⟩
   refine Et (GiveO.closeD (PushS.init l) hd) (Ec ?_)
   refine Et Ed ?_
   refine Et (SupO.close (a := ad u) (sh := sh) (lm := lm) (mp := mp) (pb := pb) (x := x) s rfl rfl rfl) (Ec ?_)
   exact ent
  ·have hd : (PushS.init l).done = false := by simp [PushS.init, hl0]
   refine Sa rfl (machThrough (b := b) (machOnNo (b := b) kr_ ((pushDoneC (b := g) (sb := pb) (k := x.pool) (p := PushS.init l)).mono (by rintro v L' ⟨rfl, rfl⟩; exact ⟨by rw [hd], rfl⟩)))) ?_
   rintro v L' ⟨rfl, w, rfl, rfl⟩
   refine go ?_
   refine Ko rfl ?_ ⟨b, rfl, rfl⟩
   refine Et (Ec (Ec (Ek (a := r)))) ?_
   refine Et (GiveO.closeP (PushS.init l) hd rfl rfl rfl) (Ec ?_)
   refine Et (SupO.close (a := ad u) (sh := sh) (lm := lm) (mp := mp) (pb := pb) (x := x) s rfl rfl rfl) (Ec ?_)
   exact ent
theorem supSpill {u mp pb : Nat} {x : Cn} {s : SupS} {F : St} (hn : s.xs.length ≤ 1000000000) (hm : 0 ≤ s.most) (hm2 : s.most ≤ 64) [t : Take L (ad u) (SupO mp pb x s) F] {F3 : St} [tb : Take F (ad pb) (SkO mp x.pool) F3] :
  FX 207 [zp u] L (fun v L' => ∃ b, v = zp b ∧ L' = pt (ad b) (GiveO pb x.pool (giveInit x.pool (s.xs.take (overK s.most s.xs)))) :: pt (ad u) (SupO mp pb x { s with xs := s.xs.drop (overK s.most s.xs) }) :: F) := by
 have hov : overK s.most s.xs ≤ s.xs.length := by unfold overK; omega
 refine Fm Tryz.func207 k207 ?_
 dsimp only [c207, eL]
 refine Xe (Eo t.out) ?_
 refine Xo (a := ad u) rfl ?_
 rintro ⟨sh, lm⟩
 simp only [supL, lc, ln]
 refine go ?_
 refine Sa rfl (stashOver (b := sh) (most := s.most) (xs := s.xs) hn hm hm2) ?_
 rintro v L' ⟨r, c, rfl, rfl⟩
 refine Se_ (Et (Ec (SupO.close (a := ad u) (sh := sh) (lm := lm) (mp := mp) (pb := pb) (x := x) { s with xs := s.xs.drop (overK s.most s.xs) } rfl rfl rfl)) Ent.swap) (go ?_)
 refine Sa rfl (supGive (u := u) (mp := mp) (pb := pb) (x := x) (s := { s with xs := s.xs.drop (overK s.most s.xs) }) (l := s.xs.take (overK s.most s.xs)) (r := r) (by rw [List.length_take]; omega) (by omega)) ?_
 rintro v L' ⟨b, rfl, rfl⟩
 refine go ?_
 exact Ko rfl (Er _) ⟨b, rfl, rfl⟩
theorem giveStep {b mp pb : Nat} {k : Sk} {m : Mm} {p : PushS} {F1 F2 : St} (hk : k.ok m.ws.length) [t1 : Take L (ad b) (GiveO pb k p) F1] [t2 : Take F1 (ad mp) (MemO m) F2] [t3 : Take F2 (ad pb) (SkO mp k) G] :
  FX 208 [zp b] L (fun v L' => v = .bool (!p.done) ∧ L' = pt (ad b) (GiveO pb k (pushStep k m p).1) :: pt (ad mp) (MemO (pushStep k m p).2) :: F2) := by
 refine Fm Tryz.func208 k208 ?_
 dsimp only [c208, eL]
 refine Xe (Et (Eo t1.out) (Ec (Et (Eo t2.out) (Ec (Eo t3.out))))) ?_
 cases hd : p.done with
 | true =>
   have e : pushStep k m p = (p, m) := by unfold pushStep; rw [hd]; rfl
   rw [e]
   refine Xo (a := ad b) (GiveO.d hd) ?_
   rintro ⟨n1, n2, n3, cnt, sl⟩
   simp only [giveDL, lc, ln]
   refine go ?_
   refine Sa rfl (machStepDone (b := b)) ?_
   rintro v L' ⟨rfl, rfl⟩
   refine go ?_
   exact Ko rfl (Et (GiveO.closeD p hd) (Ec (Ec (Eo t3.back)))) ⟨rfl, rfl⟩
 | false =>
   refine Xo (a := ad b) (GiveO.p hd) ?_
   rintro ⟨g, cnt, r, c⟩
   simp only [givePL, lc, ln]
   have hpl := pushStep_l k m p
   cases hq : (pushStep k m p).1.done with
   | true =>
     refine go ?_
     refine Sa rfl (machStep (b := b) kr_ (machGoes (b := b) kr_ (pushStepC (b := g) (mp := mp) (sb := pb) (k := k) (m := m) (p := p) hk) (R2 := fun v L' => v = .tuple #[] ∧ ∃ w : Value, w = .tuple #[] ∧ pt (ad g) (PushO pb k (pushStep k m p).1) :: pt (ad mp) (MemO (pushStep k m p).2) :: gvB b .nilFunc (mth 239 g) (mth 240 g) (mth 261 b) (IntKind.i64.wrap (cnt + 1)) (.slice r p.l.length c) :: pt r (Row 3 1 p.l.length c (ints p.l)) :: pt (ad pb) (SkO mp k) :: G = L') ?_)) ?_
     ·rintro v L1 ⟨rfl, rfl⟩
      exact machOnYes (b := b) kr_ ((pushDoneC (b := g) (sb := pb) (k := k) (p := (pushStep k m p).1)).mono (by rintro v L' ⟨rfl, rfl⟩; exact ⟨by rw [hq], rfl⟩)) kr_ giveEnd
     ·rintro v L' ⟨rfl, w, rfl, w2, _, w3, _, rfl⟩
      refine go ?_
      refine Ko rfl ?_ ⟨rfl, rfl⟩
      refine Et (Ek (a := ad b)) ?_
      refine Et (GiveO.closeD (pushStep k m p).1 hq) (Ec ?_)
      refine Et (Ek (a := ad mp)) (Ec ?_)
      refine Et ?_ (Eo t3.back)
      exact ent
   | false =>
     refine go ?_
     refine Sa rfl (machStep (b := b) kr_ (machGoes (b := b) kr_ (pushStepC (b := g) (mp := mp) (sb := pb) (k := k) (m := m) (p := p) hk) (R2 := fun v L' => v = .tuple #[] ∧ L' = gvB b (mth 232 b) (mth 239 g) (mth 240 g) (mth 261 b) (IntKind.i64.wrap (cnt + 1)) (.slice r p.l.length c) ::
       pt (ad g) (PushO pb k (pushStep k m p).1) :: pt (ad mp) (MemO (pushStep k m p).2) :: pt r (Row 3 1 p.l.length c (ints p.l)) :: pt (ad pb) (SkO mp k) :: G) ?_)) ?_
     ·rintro v L1 ⟨rfl, rfl⟩
      refine (machOnNo (b := b) kr_ ((pushDoneC (b := g) (sb := pb) (k := k) (p := (pushStep k m p).1)).mono (by rintro v L' ⟨rfl, rfl⟩; exact ⟨by rw [hq], rfl⟩))).mono ?_
      rintro v L' ⟨rfl, rfl⟩
      exact ⟨rfl, rfl⟩
     ·rintro v L' ⟨rfl, w, _, w2, _, rfl⟩
      refine go ?_
      refine Ko rfl ?_ ⟨rfl, rfl⟩
      refine Et (Ec (Ec (Ek (a := r)))) ?_
      refine Et (GiveO.closeP (pushStep k m p).1 hq rfl (by rw [hpl]) (by rw [hpl])) (Ec ?_)
      refine Ec ?_
      exact Eo t3.back
theorem giveDone {b pb : Nat} {k : Sk} {p : PushS} {F1 : St} [t1 : Take L (ad b) (GiveO pb k p) F1] : FX 188 [zp b] L (fun v L' => v = .bool p.done ∧ L = L') := by
 refine Fx.kept (t := t1) ?_
 refine Fm Tryz.func188 k188 ?_
 dsimp only [c188, eL]
 refine Xe (Eo t1.out) ?_
 cases hd : p.done with
 | true =>
   refine Xo (a := ad b) (GiveO.d hd) ?_
   rintro ⟨n1, n2, n3, cnt, sl⟩
   simp only [giveDL, lc, ln]
   refine go ?_
   refine Sa rfl (machDoneYes (b := b)) ?_
   rintro v L' ⟨rfl, rfl⟩
   refine go ?_
   exact Ko rfl (GiveO.closeD p hd) ⟨rfl, rfl⟩
 | false =>
   refine Xo (a := ad b) (GiveO.p hd) ?_
   rintro ⟨g, cnt, r, c⟩
   simp only [givePL, lc, ln]
   refine go ?_
   refine Sa rfl (machDoneNo (b := b)) ?_
   rintro v L' ⟨rfl, rfl⟩
   refine go ?_
   exact Ko rfl (GiveO.closeP p hd rfl rfl rfl) ⟨rfl, rfl⟩
end
end
end
theorem crIt_idle {k : Sk} {ro cl : Nat} {r : CreS × Mm} {j : Nat} (h : (crIt k ro cl j r).1.done = true) : ∀ i, crIt k ro cl (j + i) r = crIt k ro cl j r
 | 0 => rfl
 | i + 1 => by
   show crStep k ro cl (crIt k ro cl (j + i) r).2 (crIt k ro cl (j + i) r).1 = _
   rw [crIt_idle h i]
   unfold crStep
   rw [if_pos h]
theorem cr_pop {k : Sk} {ro cl : Nat} {m : Mm} : ∀ j, (∀ i, i ≤ j → (popIt k i (PopS.init 1, m)).1.done = false) →
  crIt k ro cl j (CreS.init, m) = ({ CreS.init with cnt := j, q := (popIt k j (PopS.init 1, m)).1 }, (popIt k j (PopS.init 1, m)).2)
 | 0, _ => rfl
 | j + 1, h => by
   have ih := cr_pop (k := k) (ro := ro) (cl := cl) (m := m) j (fun i hi => h i (by omega))
   have hd := h (j + 1) (Nat.le_refl _)
   rw [popIt_succ] at hd
   show crStep k ro cl (crIt k ro cl j (CreS.init, m)).2 (crIt k ro cl j (CreS.init, m)).1 = _
   rw [ih, popIt_succ]
   unfold crStep
   simp only [CreS.init, bf, if_false, hd]
theorem cr_alone {k : Sk} {ro cl len : Nat} {m : Mm} {l : List Int} {s : Int} (hk : k.ok len) (hml : m.ws.length = len) (hm : m.ok) (hp : Pool k m (s :: l)) (hr : ro + k.n ≤ k.links) (hrh : k.head < ro) (hcl : cl ≤ 3) :
  ∃ c m', crIt k ro cl 10 (CreS.init, m) = (c, m') ∧ c.done = true ∧ c.code = 0 ∧ c.slot = s ∧ c.at_ = 2 ∧ c.was = m.at_ (ro + s.toNat) ∧ m'.n = m.n + 5 ∧ m'.ws.length = len ∧ m'.ok ∧ Pool k m' l ∧
   m'.at_ (ro + s.toNat) = (nextRt cl (m.at_ (ro + s.toNat))).w ∧ (∀ a, a ≠ k.head → a ≠ ro + s.toNat → m'.at_ a = m.at_ a) := by
 obtain ⟨hs0, hs1, hs2, hs3⟩ := hp.c
 obtain ⟨m1, e1, n1, l1, p1, a1, d1⟩ := pop_alone hk hml hp 1 (by omega) (by omega) (by simp) 1 (by simp; omega)
 simp only [List.drop_succ_cons, List.drop_zero, List.take_succ_cons, List.take_zero] at e1 p1
 have hl := hk.l
 have hok1 : m1.ok := by
  have : ∀ j, (popIt k j (PopS.init 1, m)).2.ok ∧ (popIt k j (PopS.init 1, m)).1.ok k := by
   intro j
   induction j with
   | zero => exact ⟨hm, PopS.ok_init hk.n1 1⟩
   | succ j ih =>
     rw [popIt_succ]
     exact ⟨(popStep_mem hk ih.1 ih.2).1, popStep_ok hk ih.1 ih.2⟩
  have := (this (1 + 2)).1
  rw [e1] at this
  exact this
 have hw1 := Ml hok1 (ro + s.toNat)
 have c2 := cr_pop (k := k) (ro := ro) (cl := cl) (m := m) 2 (fun i hi => d1 i (by omega))
 have c3 : crIt k ro cl 3 (CreS.init, m) = (⟨1, 3, s, 3, 0, 0, (popIt k 3 (PopS.init 1, m)).1, false⟩, m1) := by
  show crStep k ro cl (crIt k ro cl 2 (CreS.init, m)).2 (crIt k ro cl 2 (CreS.init, m)).1 = _
  have e2 : popStep k (popIt k 2 (PopS.init 1, m)).2 (popIt k 2 (PopS.init 1, m)).1 = (⟨1, 0, l.headD (-1), m.at_ k.head, [s], true⟩, m1) := by rw [← popIt_succ]; exact e1
  rw [c2]
  unfold crStep
  simp only [CreS.init, bf, if_false, e2, if_true, crPopped]
  rw [show (1 + 2 : Nat) = 3 from rfl] at e1
  rw [e1]
 have c4 : crIt k ro cl 4 (CreS.init, m) = (⟨2, 4, s, 3, m1.at_ (ro + s.toNat), 0, (popIt k 3 (PopS.init 1, m)).1, false⟩, m1.tick) := by
  show crStep k ro cl (crIt k ro cl 3 (CreS.init, m)).2 (crIt k ro cl 3 (CreS.init, m)).1 = _
  rw [c3]; rfl
 have c5 : crIt k ro cl 5 (CreS.init, m) = (⟨2, 5, s, 3, m1.at_ (ro + s.toNat), 0, (popIt k 3 (PopS.init 1, m)).1, true⟩, m1.tick.put (ro + s.toNat) (nextRt cl (m1.at_ (ro + s.toNat))).w) := by
  show crStep k ro cl (crIt k ro cl 4 (CreS.init, m)).2 (crIt k ro cl 4 (CreS.init, m)).1 = _
  rw [c4]; rfl
 have hin : ro + s.toNat < m1.tick.ws.length := by show _ < m1.ws.length; omega
 have hro : m1.at_ (ro + s.toNat) = m.at_ (ro + s.toNat) := a1 _ (by omega)
 have hput : ∀ a v, (m1.tick.put (ro + s.toNat) v).at_ a = if ro + s.toNat = a then v else m1.at_ a := fun a v => Mp a hin
 refine ⟨_, _, (crIt_idle (by rw [c5]) 5).trans c5, rfl, rfl, rfl, rfl, hro, ?_, ?_, ?_, ⟨?_, p1.nd⟩, ?_, ?_⟩
 ·show m1.n + 1 + 1 = _; omega
 ·rw [Mm.len_put]; exact l1
 ·exact Mm.ok_put (Mm.ok_tick hok1) (Rt.w_lt (nextRt_ok hw1 hcl))
 ·rw [hput, if_neg (by omega)]
  refine p1.c.congr fun y hy => ?_
  have := p1.c.mem y hy
  rw [hput, if_neg (by omega)]
 ·rw [hput, if_pos rfl, hro]
 ·intro a h1 h2
  rw [hput, if_neg (fun h => h2 h.symm)]
  exact a1 a h1
structure AlP where
 k : Sk
 ro : Nat
 wo : Nat
 wd : Nat
 ba : Int
 slot : Nat
 gen : Int
 n : Nat
abbrev gNone : PushS := ⟨[], 0, 0, true⟩
def TakeS.zero : TakeS := ⟨0, 0, false, 0, PopS.init 1, true⟩
noncomputable def alClose (k : Sk) (s : SupS) (v : AlV) (t : TakeS) (code : Nat) (o : Hd) : SupS × AlS :=
 let s1 := if 0 ≤ v.hand then s.give [v.hand] else s
 let g := giveInit k (s1.xs.take (overK s1.most s1.xs))
 ({ s1 with xs := s1.xs.drop (overK s1.most s1.xs) }, ⟨6, { v with code := code, obj := o, point := v.cnt, ends := true, hand := -1 }, t, g, g.done⟩)
def alTaken (v : AlV) (t : TakeS) : AlS := if t.is_ then ⟨3, { v with hand := t.chunk }, t, gNone, false⟩ else ⟨0, v, t, gNone, false⟩
noncomputable def alSeen (p : AlP) (s : SupS) (v : AlV) (t : TakeS) : SupS × AlS :=
 if (rtOf v.was).live p.gen then
  let v1 : AlV := { v with need := roundS (rtOf v.was).cl p.n }
  if 2 ≤ (rtOf v.was).mrk ∧ fitsS p.wd (rtOf v.was).off (roundS (rtOf v.was).cl p.n) then (s, ⟨1, v1, t, gNone, false⟩)
  else if 0 ≤ v.hand then (s, ⟨4, v1, t, gNone, false⟩)
  else if v.asked then alClose p.k s v1 t 6 Hd.zero
  else if (takeInit p.ba s).2.done then ((takeInit p.ba s).1, alTaken { v1 with asked := true } (takeInit p.ba s).2)
  else ((takeInit p.ba s).1, ⟨2, { v1 with asked := true }, (takeInit p.ba s).2, gNone, false⟩)
 else alClose p.k s v t 3 Hd.zero
noncomputable def alStep (p : AlP) (m : Mm) (s : SupS) (a : AlS) : Mm × SupS × AlS :=
 if a.done then (m, s, a) else
 let v : AlV := { a.v with cnt := a.v.cnt + 1 }
 let w := rtOf a.v.was
 match a.at_ with
 | 0 => (m.tick, alSeen p s { v with was := m.at_ (p.ro + p.slot) } a.t)
 | 1 => if m.at_ (p.ro + p.slot) = a.v.was then (m.put (p.ro + p.slot) (Rt.w ⟨w.gen, w.mrk, w.cl, w.off + v.need⟩), alClose p.k s v a.t 0 ⟨p.slot, p.gen, w.chunk, w.off, p.n⟩) else (m.tick, s, ⟨0, v, a.t, gNone, false⟩)
 | 2 => ((takeStep p.k p.ba m s a.t).1, (takeStep p.k p.ba m s a.t).2.1, if (takeStep p.k p.ba m s a.t).2.2.done then alTaken v (takeStep p.k p.ba m s a.t).2.2 else ⟨2, v, (takeStep p.k p.ba m s a.t).2.2, gNone, false⟩)
 | 3 => (m.put (p.wo + v.hand.toNat * p.wd + v.zat) 0, s, ⟨if v.zat + 1 < p.wd then 3 else 4, { v with zat := v.zat + 1 }, a.t, gNone, false⟩)
 | 4 => (m.put (p.k.links + v.hand.toNat) (w.chunk + 1).toNat, s, ⟨5, v, a.t, gNone, false⟩)
 | 5 => if m.at_ (p.ro + p.slot) = a.v.was then (m.put (p.ro + p.slot) (Rt.w ⟨w.gen, 2 + v.hand.toNat, w.cl, afterS p.wd v.need⟩), alClose p.k s { v with hand := -1 } a.t 0 ⟨p.slot, p.gen, v.hand, 0, p.n⟩) else (m.tick, s, ⟨0, v, a.t, gNone, false⟩)
 | _ => ((pushStep p.k m a.g).2, s, ⟨6, v, a.t, (pushStep p.k m a.g).1, (pushStep p.k m a.g).1.done⟩)
def AlS.init : AlS := ⟨0, AlV.init, TakeS.zero, gNone, false⟩
noncomputable def alIt (p : AlP) : Nat → Mm × SupS × AlS → Mm × SupS × AlS
 | 0, r => r
 | j + 1, r => alStep p (alIt p j r).1 (alIt p j r).2.1 (alIt p j r).2.2
section
open Go
attribute [local irreducible] Sx Cx Rx Fx Krg Ksq Kbl Klp Kr
section
variable {L F G : St}
theorem supTake {u mp pb : Nat} {x : Cn} {s : SupS} {F : St} (hx : x.ok) (hb : s.xs.length + s.lm.size ≤ 1000000) [t : Take L (ad u) (SupO mp pb x s) F] :
  FX 158 [zp u] L (fun v L' => ∃ b, v = zp b ∧ L' = pt (ad b) (TakeO u pb x.pool (takeInit x.ba s).2) :: pt (ad u) (SupO mp pb x (takeInit x.ba s).1) :: F) := by
 refine Fm Tryz.func158 k158 ?_
 dsimp only [c158, eL]
 refine Xe (Eo t.out) (go ?_)
 refine Sx.bx rfl rfl fun b => (go ?_)
 refine Sa rfl (takeKept (b := b) (u := u) (mp := mp) (pb := pb) (x := x) (s := s) (by omega)) ?_
 rintro v L' ⟨rfl, rfl⟩
 by_cases hxs : s.xs = []
 ·have hk : s.kept = s := by unfold SupS.kept; rw [hxs]; simp only [List.dropLast_nil]; rw [← hxs]
  rw [dz (fun h : s.xs ≠ [] => h hxs), hk, show lastI s.xs = 0 by rw [hxs]; rfl]
  refine go ?_
  refine Sx.openp (a := ad u) rfl ?_
  rintro ⟨sh, lm⟩
  simp only [supL, lc, ln]
  refine go ?_
  refine Sa rfl (limboLen (b := lm) (m := s.lm) (by omega)) ?_
  rintro v L' ⟨rfl, rfl⟩
  refine go ?_
  by_cases hz : 0 < s.lm.size
  ·have e : takeInit x.ba s = (s, TakeS.none_) := by unfold takeInit keepT; rw [if_pos hxs]; simp only [if_pos hz]
   rw [e]
   refine Xy rfl (dt (by omega)) (go ?_)
   refine Sa rfl (machGo (b := b)) ?_
   rintro v L' ⟨rfl, rfl⟩
   refine go ?_
   refine Ko rfl ?_ ⟨b, rfl, rfl⟩
   refine Et ?_ (TakeO.closeL (n1 := .nilFunc) (n2 := .nilFunc) (n3 := .nilFunc) (pp := .pointer none) (cnt := 0) TakeS.none_ rfl rfl rfl rfl rfl)
   refine Ec ?_
   refine Et (SupO.close (a := ad u) (sh := sh) (lm := lm) (mp := mp) (pb := pb) (x := x) s rfl rfl rfl) (Er _)
  ·have e : takeInit x.ba s = (s, { TakeS.none_ with at_ := 1, q := PopS.init x.ba }) := by unfold takeInit keepT; rw [if_pos hxs]; simp only [if_neg hz]
   rw [e]
   refine Xn rfl (dz (by omega)) ?_
   refine Xe (Et (Ent.swap) (Et (Ec (Er _)) (SupO.close (a := ad u) (sh := sh) (lm := lm) (mp := mp) (pb := pb) (x := x) s rfl rfl rfl))) (go ?_)
   refine Sa rfl (takeAsk (b := b) (u := u) (mp := mp) (pb := pb) (x := x) (s := s) hx) ?_
   rintro v L' rfl
   refine go ?_
   refine Ko rfl ?_ ⟨b, rfl, rfl⟩
   exact Er _
 ·have e : takeInit x.ba s = (s.kept, { TakeS.none_ with chunk := lastI s.xs, is_ := true, done := true }) := by unfold takeInit keepT; rw [if_neg hxs]
  rw [e, dt (show s.xs ≠ [] from hxs)]
  refine go ?_
  exact Ko rfl (TakeO.closeD _ rfl rfl rfl rfl) ⟨b, rfl, rfl⟩
end
section
variable {L F G : St}
abbrev Cn.al (x : Cn) (slot : Nat) (gen : Int) (n : Nat) : AlP := ⟨x.pool, x.root, x.word, x.wd, x.ba, slot, gen, n⟩
abbrev hdA (o : Hd) : Value := .agg #[ii o.slot, ii o.gen, ii o.chunk, ii o.off, ii o.len]
abbrev alF (nx n1 n2 n3 : Value) (g u slot : Nat) (gen : Int) (n : Nat) (cnt : Int) (v : AlV) (rt : Rt) (tp gp : Value) : List Value :=
 [nx, n1, n2, n3, ii cnt, zp g, zp u, ii (slot : Nat), ii gen, ii (n : Nat), ii v.hand, ii (v.zat : Nat), .bool v.asked, .bool v.ends, ii (v.need : Nat), ii (v.point : Nat), wd v.was,
  ii (rt.gen : Nat), ii (rt.mrk : Nat), ii (rt.cl : Nat), ii (rt.off : Nat), tp, gp, ii (v.code : Nat), ii v.obj.slot, ii v.obj.gen, ii v.obj.chunk, ii v.obj.off, ii v.obj.len]
abbrev alB (b : Nat) (nx n1 n2 n3 : Value) (g u slot : Nat) (gen : Int) (n : Nat) (cnt : Int) (v : AlV) (rt : Rt) (tp gp : Value) : As := pt (ad b) (Blk 152 (alF nx n1 n2 n3 g u slot gen n cnt v rt tp gp))
def alFn : Nat → FuncId
 | 0 => 80
 | 1 => 156
 | 3 => 221
 | 4 => 157
 | _ => 215
def alSL (f : FuncId) (T : TypeId) (g u slot : Nat) (gen : Int) (n : Nat) (s : AlS) (a : OA) (y : Value × Value × Value × Value) : St :=
 [pt a (Blk T (alF (.func (.func f) #[.pointer a] #[]) y.1 y.2.1 y.2.2.1 g u slot gen n (s.v.cnt : Nat) s.v (rtOf s.v.was) y.2.2.2 (.pointer none)))]
def alTL (T : TypeId) (g u pb : Nat) (x : Cn) (slot : Nat) (gen : Int) (n : Nat) (s : AlS) (a : OA) (y : Nat) : St :=
 [pt a (Blk T (alF (.func (.func 232) #[.pointer a] #[]) (mth 159 y) (mth 160 y) (.func (.func 161) #[.pointer a] #[]) g u slot gen n (s.v.cnt : Nat) s.v (rtOf s.v.was) (zp y) (.pointer none))),
  pt (ad y) (TakeO u pb x.pool s.t)]
def alGL (T : TypeId) (g u pb : Nat) (x : Cn) (slot : Nat) (gen : Int) (n : Nat) (s : AlS) (a : OA) (y : Nat × Value) : St :=
 [pt a (Blk T (alF (.func (.func 232) #[.pointer a] #[]) (mth 208 y.1) (mth 188 y.1) (.func (.func 209) #[.pointer a] #[]) g u slot gen n (s.v.cnt : Nat) s.v (rtOf s.v.was) y.2 (zp y.1))),
  pt (ad y.1) (GiveO pb x.pool s.g)]
def alDL (T : TypeId) (g u pb : Nat) (x : Cn) (slot : Nat) (gen : Int) (n : Nat) (s : AlS) (a : OA) (y : Nat × Value × Value × Value × Value) : St :=
 [pt a (Blk T (alF .nilFunc y.2.1 y.2.2.1 y.2.2.2.1 g u slot gen n (s.v.cnt : Nat) s.v (rtOf s.v.was) y.2.2.2.2 (zp y.1))), pt (ad y.1) (GiveO pb x.pool s.g)]
def AlT (T : TypeId) (g u pb : Nat) (x : Cn) (slot : Nat) (gen : Int) (n : Nat) (s : AlS) (a : OA) : As := bif s.done then exs (alDL T g u pb x slot gen n s a) else match s.at_ with
 | 2 => exs (alTL T g u pb x slot gen n s a) | 6 => exs (alGL T g u pb x slot gen n s a) | k => exs (alSL (alFn k) T g u slot gen n s a)
abbrev AlO := AlT 152
section
variable {T : TypeId} {g u pb : Nat} {x : Cn} {slot : Nat} {gen : Int} {n : Nat} {s : AlS} {a : OA}
theorem AlO.dd_ (h : s.done = true) : AlT T g u pb x slot gen n s a = exs (alDL T g u pb x slot gen n s a) := by unfold AlT; rw [h]; rfl
theorem AlO.tt_ (h : s.done = false) (h0 : s.at_ = 2) : AlT T g u pb x slot gen n s a = exs (alTL T g u pb x slot gen n s a) := by unfold AlT; rw [h, h0]; rfl
theorem AlO.gg_ (h : s.done = false) (h0 : s.at_ = 6) : AlT T g u pb x slot gen n s a = exs (alGL T g u pb x slot gen n s a) := by unfold AlT; rw [h, h0]; rfl
theorem AlO.ss_ (h : s.done = false) (h2 : s.at_ ≠ 2) (h6 : s.at_ ≠ 6) : AlT T g u pb x slot gen n s a = exs (alSL (alFn s.at_) T g u slot gen n s a) := by
 unfold AlT
 rw [h]
 split
 ·exact absurd ‹_› h2
 ·exact absurd ‹_› h6
 ·rfl
end
theorem AlO.closeS {b g u pb : Nat} {x : Cn} {slot : Nat} {gen : Int} {n : Nat} {n1 n2 n3 tp : Value} {cnt : Int} {v : AlV} {rt : Rt} {f : FuncId} (s : AlS) (h : s.done = false) (h2' : Nat.beq s.at_ 2 = false) (h6' : Nat.beq s.at_ 6 = false) (hf : f = alFn s.at_) (hc : cnt = (s.v.cnt : Nat)) (hv : { v with cnt := s.v.cnt } = s.v) (hr : rt = rtOf s.v.was) :
  Ent (alB b (mth f b) n1 n2 n3 g u slot gen n cnt v rt tp (.pointer none) :: G) (pt (ad b) (AlO g u pb x slot gen n s) :: G) := by
 subst hf hc hr
 have h2 : s.at_ ≠ 2 := fun e => by rw [e] at h2'; cases h2'
 have h6 : s.at_ ≠ 6 := fun e => by rw [e] at h6'; cases h6'
 obtain ⟨a1, v0, t0, g0, d0⟩ := s
 obtain ⟨c1, c2, c3, c4, c5, c6, c7, c8, c9, c10⟩ := v0
 obtain ⟨e1, e2, e3, e4, e5, e6, e7, e8, e9, e10⟩ := v
 dsimp only at hv
 cases hv
 exact Ent.close (f := alSL (alFn a1) 152 g u slot gen n _ (ad b)) (AlO.ss_ h h2 h6) (n1, n2, n3, tp)
theorem AlO.closeT {b g u pb q : Nat} {x : Cn} {slot : Nat} {gen : Int} {n : Nat} {cnt : Int} {v : AlV} {rt : Rt} {t : TakeS} (s : AlS) (h : s.done = false) (h2 : s.at_ = 2) (hc : cnt = (s.v.cnt : Nat)) (hv : { v with cnt := s.v.cnt } = s.v) (hr : rt = rtOf s.v.was) (ht : t = s.t) :
  Ent (alB b (mth 232 b) (mth 159 q) (mth 160 q) (mth 161 b) g u slot gen n cnt v rt (zp q) (.pointer none) :: pt (ad q) (TakeO u pb x.pool t) :: G) (pt (ad b) (AlO g u pb x slot gen n s) :: G) := by
 subst hc hr ht
 obtain ⟨a1, v0, t0, g0, d0⟩ := s
 obtain ⟨c1, c2, c3, c4, c5, c6, c7, c8, c9, c10⟩ := v0
 obtain ⟨e1, e2, e3, e4, e5, e6, e7, e8, e9, e10⟩ := v
 dsimp only at hv
 cases hv
 exact Ent.close (f := alTL 152 g u pb x slot gen n _ (ad b)) (AlO.tt_ h h2) q
theorem AlO.closeG {b g u pb q : Nat} {x : Cn} {slot : Nat} {gen : Int} {n : Nat} {tp : Value} {cnt : Int} {v : AlV} {rt : Rt} {p : PushS} (s : AlS) (h : s.done = false) (h2 : s.at_ = 6) (hc : cnt = (s.v.cnt : Nat)) (hv : { v with cnt := s.v.cnt } = s.v) (hr : rt = rtOf s.v.was) (ht : p = s.g) :
  Ent (alB b (mth 232 b) (mth 208 q) (mth 188 q) (mth 209 b) g u slot gen n cnt v rt tp (zp q) :: pt (ad q) (GiveO pb x.pool p) :: G) (pt (ad b) (AlO g u pb x slot gen n s) :: G) := by
 subst hc hr ht
 obtain ⟨a1, v0, t0, g0, d0⟩ := s
 obtain ⟨c1, c2, c3, c4, c5, c6, c7, c8, c9, c10⟩ := v0
 obtain ⟨e1, e2, e3, e4, e5, e6, e7, e8, e9, e10⟩ := v
 dsimp only at hv
 cases hv
 exact Ent.close (f := alGL 152 g u pb x slot gen n _ (ad b)) (AlO.gg_ h h2) (q, tp)
theorem AlO.closeD {b g u pb q : Nat} {x : Cn} {slot : Nat} {gen : Int} {n : Nat} {n1 n2 n3 tp : Value} {cnt : Int} {v : AlV} {rt : Rt} {p : PushS} (s : AlS) (h : s.done = true) (hc : cnt = (s.v.cnt : Nat)) (hv : { v with cnt := s.v.cnt } = s.v) (hr : rt = rtOf s.v.was) (ht : p = s.g) :
  Ent (alB b .nilFunc n1 n2 n3 g u slot gen n cnt v rt tp (zp q) :: pt (ad q) (GiveO pb x.pool p) :: G) (pt (ad b) (AlO g u pb x slot gen n s) :: G) := by
 subst hc hr ht
 obtain ⟨a1, v0, t0, g0, d0⟩ := s
 obtain ⟨c1, c2, c3, c4, c5, c6, c7, c8, c9, c10⟩ := v0
 obtain ⟨e1, e2, e3, e4, e5, e6, e7, e8, e9, e10⟩ := v
 dsimp only at hv
 cases hv
 exact Ent.close (f := alDL 152 g u pb x slot gen n _ (ad b)) (AlO.dd_ h) (q, n1, n2, n3, tp)
theorem alEnd {v : Value} : FX 209 [v] L (fun v L' => v = .tuple #[] ∧ L = L') := by
 refine Fm Tryz.func209 k209 ?_
 dsimp only [c209, eL]
 refine Cx.sk ?_
 exact Kr.none (.inl rfl) (Er _) ⟨rfl, rfl⟩
theorem grantAlloc {g u mp pb : Nat} {x : Cn} (slot : Nat) (gen : Int) (n : Nat) (hs : slot < x.sl) (hn : 1 ≤ n) (hn2 : n ≤ x.wd) [t : Take L (ad g) (GrO mp x) F] :
  FX 19 [zp g, zp u, ii slot, ii gen, ii n] L (fun v L' => ∃ b, v = .tuple #[zp b, ii 0] ∧ L' = pt (ad b) (AlO g u pb x slot gen n AlS.init) :: L) := by
 refine Fm Tryz.func19 k19 ?_
 dsimp only [c19, eL]
 refine go ?_
 refine Xn rfl (dz (by omega)) (go ?_)
 refine Sx.gyes rfl (dz (by omega)) (go ?_)
 refine Xn rfl (dz (by omega)) (go ?_)
 refine Sx.bx rfl rfl fun b => ?_
 refine Sr (alF .nilFunc .nilFunc .nilFunc .nilFunc g u slot gen n 0 AlV.init ⟨0, 0, 0, 0⟩ (.pointer none) (.pointer none)) rfl (go ?_)
 refine Sa rfl (machGo (b := b)) ?_
 rintro v L' ⟨rfl, rfl⟩
 refine go ?_
 refine Kr.two (.inr rfl) rfl rfl ?_ ⟨b, rfl, rfl⟩
 exact AlO.closeS (b := b) (g := g) (u := u) (pb := pb) (x := x) (slot := slot) (gen := gen) (n := n) (v := AlV.init) (rt := ⟨0, 0, 0, 0⟩) AlS.init rfl rfl rfl rfl rfl rfl rfl
end
section
variable {L F G : St}
set_option maxHeartbeats 4000000 in
theorem alClose_ {b g u mp pb : Nat} {x : Cn} {slot : Nat} {gen : Int} {n : Nat} {v : AlV} {rt : Rt} {n1 n2 n3 tp : Value} {S : SupS} {cnt : Int} (code : Nat) (o : Hd) (t : TakeS) (hcnt : cnt = (v.cnt : Nat)) (hh : -1 ≤ v.hand) (hb : S.xs.length ≤ 1000000) (hm0 : 0 ≤ S.most) (hm2 : S.most ≤ 64) (hr : rt = rtOf v.was) :
  FX 153 [zp b, ii (code : Nat), hdA o] (alB b .nilFunc n1 n2 n3 g u slot gen n cnt v rt tp (.pointer none) :: pt (ad u) (SupO mp pb x S) :: pt (ad pb) (SkO mp x.pool) :: G)
   (fun _ L' => L' = pt (ad b) (AlO g u pb x slot gen n (alClose x.pool S v t code o).2) :: pt (ad u) (SupO mp pb x (alClose x.pool S v t code o).1) :: pt (ad pb) (SkO mp x.pool) :: G) := by
 subst hcnt
 subst hr
 refine Fm Tryz.func153 k153 ?_
 dsimp only [c153, eL]
 refine Cx.sq ?_
 refine Cx.rg ?_
 refine Sx.bx rfl rfl fun q => (go ?_)
 refine Xd rfl kr_ (ge ?_)
 refine Eb kr_ rfl rfl (machCount (b := b)) (ge ?_)
 refine Es (b := b) kr_ rfl rfl rfl rfl rfl (by rfl) rfl (.dep rfl (.keep (fun v L' ⟨_, e⟩ => by subst e; exact Has.blk) .nil)) (ge ?_)
 refine Ev.stnH (b := b) (alF .nilFunc n1 n2 n3 g u slot gen n (v.cnt : Nat) { v with code := code, obj := o } (rtOf v.was) tp (.pointer none)) kr_ rfl rfl rfl rfl rfl rfl rfl rfl (Pd kr_) (ge ?_)
 refine Es (b := b) kr_ rfl rfl rfl rfl rfl (by rfl) rfl (Pd kr_) (ge ?_)
 refine Es (b := b) kr_ rfl rfl rfl rfl rfl (by rfl) rfl (Pd kr_) (ge ?_)
 obtain ⟨S1, hS1⟩ : ∃ S1, S1 = (if 0 ≤ v.hand then S.give [v.hand] else S) := ⟨_, rfl⟩
 obtain ⟨V, hV⟩ : ∃ V : AlV, V = { v with code := code, obj := o, point := v.cnt, ends := true, hand := -1 } := ⟨_, rfl⟩
 obtain ⟨gi, hgi⟩ : ∃ gi, gi = giveInit x.pool (S1.xs.take (overK S1.most S1.xs)) := ⟨_, rfl⟩
 have hcl : alClose x.pool S v t code o = ({ S1 with xs := S1.xs.drop (overK S1.most S1.xs) }, ⟨6, V, t, gi, gi.done⟩) := by
  unfold alClose; rw [hgi, hV, hS1]
 rw [hcl]
 have hSm : S1.most = S.most := by rw [hS1]; split <;> rfl
 have hSl : S1.xs.length ≤ 1000001 := by
  rw [hS1]; split
  ·simp [SupS.give]; omega
  ·omega
 refine Cx.sq ?_
 refine Cx.jn (β := Unit) (fun _ => [(0, zp b)])
  (fun _ => alB b .nilFunc n1 n2 n3 g u slot gen n (v.cnt : Nat) V (rtOf v.was) tp (.pointer none) :: pt (ad u) (SupO mp pb x S1) :: pt (ad pb) (SkO mp x.pool) :: G) ?_ ?_
 ·refine go ?_
  refine Xi rfl (fun h => ?_) (fun h => ?_)
  ·rw [if_pos (by omega)] at hS1
   refine go ?_
   refine Xd rfl kr_ (ge ?_)
   refine Ev.bsH (sz := 1) kr_ rfl rfl rfl (.dep rfl (.keep (fun v L' ⟨_, _, e⟩ => by subst e; exact Has.cell rfl) .nil)) fun r => (ge ?_)
   refine Ea kr_ rfl rfl (supPut (u := u) (mp := mp) (pb := pb) (x := x) (s := S) (ys := [v.hand]) (Rd.row (b := r) (E := 3) (cap := 1) rfl) (by omega)) (Pd kr_) ?_
   rintro v' L' ⟨rfl, rfl⟩
   refine ge ?_
   refine go ?_
   refine Kjn.nm () sb1 ?_
   rw [hV, hS1]
   exact ent
  ·rw [if_neg (by omega)] at hS1
   refine go ?_
   refine Kjn.nm () sb1 ?_
   have e : v.hand = -1 := by dsimp only at h; omega
   rw [hV, hS1]
   simp only [e]
   exact ent
 rintro ⟨⟩
 refine go ?_
 refine Sa rfl (supSpill (u := u) (mp := mp) (pb := pb) (x := x) (s := S1) (by omega) (by omega) (by omega)) ?_
 rintro v' L' ⟨r, rfl, rfl⟩
 refine go ?_
 refine Cx.orde rfl kr_ (ge ?_)
 rw [← hgi]
 cases hg : gi.done with
 | true =>
   refine Ea kr_ rfl rfl (machThrough (b := b) (machOnYes (b := b) kr_ ((giveDone (b := r) (pb := pb) (k := x.pool) (p := gi)).mono (by rintro v L' ⟨rfl, rfl⟩; exact ⟨by rw [hg], rfl⟩)) kr_ alEnd)) (Pd kr_) ?_
   rintro v' L' ⟨rfl, w, rfl, w2, rfl, rfl⟩
   refine ge ?_
   refine Kr.none (.inl rfl) ?_ rfl
   refine Et (Ek (a := ad b)) ?_
   refine Et (Ec (Ek (a := ad r))) ?_
   refine Et (AlO.closeD (v := V) (rt := rtOf v.was) ⟨6, V, t, gi, true⟩ rfl (by rw [hV]) rfl (by rw [hV]) rfl) (Ec ?_)
   exact ent
 | false =>
   refine Ea kr_ rfl rfl (machThrough (b := b) (machOnNo (b := b) kr_ ((giveDone (b := r) (pb := pb) (k := x.pool) (p := gi)).mono (by rintro v L' ⟨rfl, rfl⟩; exact ⟨by rw [hg], rfl⟩)))) (Pd kr_) ?_
   rintro v' L' ⟨rfl, w, rfl, rfl⟩
   refine ge ?_
   refine Kr.none (.inl rfl) ?_ rfl
   refine Et (Ek (a := ad b)) ?_
   refine Et (Ec (Ek (a := ad r))) ?_
   refine Et (AlO.closeG (v := V) (rt := rtOf v.was) ⟨6, V, t, gi, false⟩ rfl rfl (by rw [hV]) rfl (by rw [hV]) rfl) (Ec ?_)
   exact ent
theorem alCloseC {b g u mp pb : Nat} {x : Cn} {slot : Nat} {gen : Int} {n : Nat} {v : AlV} {rt : Rt} {n1 n2 n3 tp : Value} {S : SupS} {cnt : Int} {F1 F2 F3 : St} (code : Nat) (o : Hd) (t : TakeS) (hcnt : cnt = (v.cnt : Nat)) (hh : -1 ≤ v.hand) (hb : S.xs.length ≤ 1000000) (hm0 : 0 ≤ S.most) (hm2 : S.most ≤ 64) (hr : rt = rtOf v.was)
  [t1 : Take L (ad b) (Blk 152 (alF .nilFunc n1 n2 n3 g u slot gen n cnt v rt tp (.pointer none))) F1] [t2 : Take F1 (ad u) (SupO mp pb x S) F2] [t3 : Take F2 (ad pb) (SkO mp x.pool) F3] :
  FX 153 [zp b, ii (code : Nat), hdA o] L
   (fun _ L' => L' = pt (ad b) (AlO g u pb x slot gen n (alClose x.pool S v t code o).2) :: pt (ad u) (SupO mp pb x (alClose x.pool S v t code o).1) :: pt (ad pb) (SkO mp x.pool) :: F3) :=
 Fx.ent (Et (Eo t1.out) (Ec (Et (Eo t2.out) (Ec (Eo t3.out))))) (alClose_ code o t hcnt hh hb hm0 hm2 hr)
end
section
variable {L F G : St}
set_option maxHeartbeats 1000000 in
theorem alTaken_ {b g u pb q : Nat} {x : Cn} {slot : Nat} {gen : Int} {n : Nat} {v : AlV} {n1 n2 n3 : Value} {t : TakeS} {cnt : Int} (hcnt : cnt = (v.cnt : Nat)) (ht : t.ok) :
  FX 161 [zp b] (alB b .nilFunc n1 n2 n3 g u slot gen n cnt v (rtOf v.was) (zp q) (.pointer none) :: pt (ad q) (TakeO u pb x.pool t) :: G)
   (fun v' L' => L' = pt (ad b) (AlO g u pb x slot gen n (alTaken v t)) :: G) := by
 subst hcnt
 refine Fm Tryz.func161 k161 ?_
 dsimp only [c161, eL]
 refine go ?_
 refine Sa rfl (takeChunk (b := q) (u := u) (pb := pb) (k := x.pool) (t := t) ht) ?_
 rintro v' L' ⟨rfl, rfl⟩
 refine go ?_
 cases hi : t.is_ with
 | false =>
   have e : alTaken v t = ⟨0, v, t, gNone, false⟩ := by unfold alTaken; rw [hi]; rfl
   rw [e]
   refine go ?_
   refine Sa rfl (machGo (b := b)) ?_
   rintro v' L' ⟨rfl, rfl⟩
   refine go ?_
   refine Kr.none (.inr rfl) ?_ rfl
   refine Et (AlO.closeS (v := v) (rt := rtOf v.was) ⟨0, v, t, gNone, false⟩ rfl rfl rfl rfl rfl rfl rfl) (Ec ?_)
   exact ent
 | true =>
   have e : alTaken v t = ⟨3, { v with hand := t.chunk }, t, gNone, false⟩ := by unfold alTaken; rw [hi]; rfl
   rw [e]
   refine go ?_
   refine Sa rfl (machGo (b := b)) ?_
   rintro v' L' ⟨rfl, rfl⟩
   refine go ?_
   refine Kr.none (.inl rfl) ?_ rfl
   refine Et (AlO.closeS (v := { v with hand := t.chunk }) (rt := rtOf v.was) ⟨3, { v with hand := t.chunk }, t, gNone, false⟩ rfl rfl rfl rfl rfl rfl rfl) (Ec ?_)
   exact ent
set_option maxHeartbeats 4000000 in
theorem alLook_ {b g u mp pb : Nat} {x : Cn} {slot : Nat} {gen : Int} {n : Nat} {v : AlV} {rt : Rt} {n1 n2 n3 tp : Value} {S : SupS} {m : Mm} {cnt : Int} (t : TakeS) (hcnt : cnt = (v.cnt : Nat)) (hx : x.ok) (hm : m.ok) (hl : x.len ≤ m.ws.length) (hs : slot < x.sl) (hn : 1 ≤ n) (hn2 : n ≤ x.wd) (hw8 : x.wd % 8 = 0)
  (hh : -1 ≤ v.hand) (hok : (rtOf (m.at_ (x.root + slot))).ok) (hb : S.xs.length + S.lm.size ≤ 1000000) (hm0 : 0 ≤ S.most) (hm2 : S.most ≤ 64) :
  FX 80 [zp b] (alB b .nilFunc n1 n2 n3 g u slot gen n cnt v rt tp (.pointer none) :: pt (ad u) (SupO mp pb x S) :: pt (ad mp) (MemO m) :: pt (ad pb) (SkO mp x.pool) :: pt (ad g) (GrO mp x) :: G)
   (fun _ L' => L' = pt (ad b) (AlO g u pb x slot gen n (alSeen (x.al slot gen n) S { v with was := m.at_ (x.root + slot) } t).2) :: pt (ad u) (SupO mp pb x (alSeen (x.al slot gen n) S { v with was := m.at_ (x.root + slot) } t).1) :: pt (ad mp) (MemO m.tick) :: pt (ad pb) (SkO mp x.pool) :: pt (ad g) (GrO mp x) :: G) := by
 subst hcnt
 obtain ⟨b1, b2, b3, b4, b5, b6, b7⟩ := show MayC (x.w : Int) x.c x.wd x.sl x.ca x.ba from hx
 have hsz : x.root + x.sl ≤ x.len := by unfold Cn.root Cn.len; omega
 have hwl := Ml hm (x.root + slot)
 obtain ⟨W, hW⟩ : ∃ W, m.at_ (x.root + slot) = W := ⟨_, rfl⟩
 rw [hW] at hok hwl ⊢
 refine Fm Tryz.func80 k80 ?_
 dsimp only [c80, eL]
 refine Cx.sq ?_
 refine Xd rfl kr_ (ge ?_)
 refine Eb kr_ rfl rfl (layRootN hx slot hs) (ge ?_)
 refine Ea kr_ rfl rfl (cellsLoad (b := mp) (m := m) (x.root + slot) (by omega)) (Pd kr_) ?_
 rintro v' L' ⟨rfl, rfl⟩
 rw [hW]
 refine ge ?_
 refine Es (b := b) kr_ rfl rfl rfl rfl rfl (by rfl) rfl (Pd kr_) (ge ?_)
 refine go ?_
 refine Sa rfl (getRoot W hwl) ?_
 rintro v' L' ⟨rfl, rfl⟩
 refine go ?_
 refine Sx.st (b := b) rfl rfl rfl rfl rfl rfl ?_
 refine Sr (alF .nilFunc n1 n2 n3 g u slot gen n (v.cnt : Nat) { v with was := W } (rtOf W) tp (.pointer none)) rfl (go ?_)
 refine Xd rfl kr_ (ge ?_)
 refine Eb kr_ rfl rfl (wordLive (rtOf W) gen) (ge ?_)
 by_cases hlive : (rtOf W).live gen
 case neg =>
  have e : alSeen (x.al slot gen n) S { v with was := W } t = alClose x.pool S { v with was := W } t 3 Hd.zero := by
   unfold alSeen; rw [if_neg hlive]
  rw [e, dz hlive]
  refine go ?_
  refine Sa rfl (alCloseC (b := b) (g := g) (u := u) (mp := mp) (pb := pb) (x := x) (slot := slot) (gen := gen) (n := n) (v := { v with was := W }) (rt := rtOf W) (S := S) 3 Hd.zero t rfl hh (by omega) hm0 hm2 rfl) ?_
  rintro v' L' rfl
  refine go ?_
  refine Kr.none (.inr rfl) ?_ rfl
  exact ent
 case pos =>
  rw [dt hlive]
  refine go ?_
  refine Xd rfl kr_ (ge ?_)
  have hrl := roundS_le hok.c hn2 hw8
  have hrg := roundS_ge (n := n) hok.c
  refine Eb kr_ rfl rfl (sizeRound (rtOf W).cl n hok.c hn (by omega)) ?_
  obtain ⟨need, hneed⟩ : ∃ need, roundS (rtOf W).cl n = need := ⟨_, rfl⟩
  rw [hneed] at hrl hrg ⊢
  refine ge ?_
  refine Es (b := b) kr_ rfl rfl rfl rfl rfl (by rfl) rfl (Pd kr_) (ge ?_)
  refine go ?_
  refine Xd rfl kr_ (ge ?_)
  rcases (show (2 ≤ (rtOf W).mrk ∧ fitsS x.wd (rtOf W).off need) ∨ (2 ≤ (rtOf W).mrk ∧ ¬ fitsS x.wd (rtOf W).off need) ∨ ¬ 2 ≤ (rtOf W).mrk from by
   by_cases h1 : 2 ≤ (rtOf W).mrk
   ·by_cases h2 : fitsS x.wd (rtOf W).off need
    ·exact .inl ⟨h1, h2⟩
    ·exact .inr (.inl ⟨h1, h2⟩)
   ·exact .inr (.inr h1)) with ⟨hmk, hf⟩ | ⟨hmk, hf⟩ | hmk
  ·refine Ev.yes 96 rfl (dt (by omega)) (ge ?_)
   refine Eb kr_ rfl rfl (sizeFits x.wd (rtOf W).off need (by omega) (by omega) (by omega) hrl) (ge ?_)
   rw [dt hf]
   have e : alSeen (x.al slot gen n) S { v with was := W } t = (S, ⟨1, { v with was := W, need := need }, t, gNone, false⟩) := by
    unfold alSeen; rw [if_pos hlive]; dsimp only; rw [hneed, if_pos ⟨hmk, hf⟩]
   rw [e]
   refine go ?_
   refine Sa rfl (machGo (b := b)) ?_
   rintro v' L' ⟨rfl, rfl⟩
   refine go ?_
   refine Kr.none (.inl rfl) ?_ rfl
   refine Et (Ek (a := ad b)) ?_
   refine Et (AlO.closeS (v := { v with was := W, need := need }) (rt := rtOf W) ⟨1, { v with was := W, need := need }, t, gNone, false⟩ rfl rfl rfl rfl rfl rfl rfl) (Ec ?_)
   exact ent
  ·have hnf : ¬ (2 ≤ (rtOf W).mrk ∧ fitsS x.wd (rtOf W).off need) := fun h => by first | exact hf h.2 | exact hmk h.1
   first
    | (refine Ev.yes 96 rfl (dt (by omega)) (ge ?_)
       refine Eb kr_ rfl rfl (sizeFits x.wd (rtOf W).off need (by omega) (by omega) (by omega) hrl) (ge ?_)
       rw [dz hf])
    | (refine Ev.no 96 rfl (dz (by omega)) ?_
       refine ge ?_)
   refine go ?_
   refine Xi rfl (fun h => ?_) (fun h => ?_)
   ·have e : alSeen (x.al slot gen n) S { v with was := W } t = (S, ⟨4, { v with was := W, need := need }, t, gNone, false⟩) := by
     unfold alSeen; rw [if_pos hlive]; dsimp only; rw [hneed, if_neg hnf, if_pos (by exact h)]
    rw [e]
    refine go ?_
    refine Sa rfl (machGo (b := b)) ?_
    rintro v' L' ⟨rfl, rfl⟩
    refine go ?_
    refine Kr.none (.inl rfl) ?_ rfl
    refine Et (Ek (a := ad b)) ?_
    refine Et (AlO.closeS (v := { v with was := W, need := need }) (rt := rtOf W) ⟨4, { v with was := W, need := need }, t, gNone, false⟩ rfl rfl rfl rfl rfl rfl rfl) (Ec ?_)
    exact ent
   ·dsimp only at h
    cases hask : v.asked with
    | true =>
      have e : alSeen (x.al slot gen n) S { v with was := W } t = alClose x.pool S { v with was := W, need := need, asked := true } t 6 Hd.zero := by
       unfold alSeen; rw [if_pos hlive]; dsimp only; rw [hneed, if_neg hnf, if_neg h, if_pos hask, hask]
      rw [hask] at e
      rw [e]
      refine go ?_
      refine Sa rfl (alCloseC (b := b) (g := g) (u := u) (mp := mp) (pb := pb) (x := x) (slot := slot) (gen := gen) (n := n) (v := { v with was := W, need := need, asked := true }) (rt := rtOf W) (S := S) 6 Hd.zero t rfl hh (by omega) hm0 hm2 rfl) ?_
      rintro v' L' rfl
      refine go ?_
      refine Kr.none (.inl rfl) ?_ rfl
      exact ent
    | false =>
      obtain ⟨T, hT⟩ : ∃ T, takeInit x.ba S = T := ⟨_, rfl⟩
      have hst := supTake (u := u) (mp := mp) (pb := pb) (x := x) (s := S) hx hb (L := pt (ad b) (Blk 152 (alF .nilFunc n1 n2 n3 g u slot gen n (v.cnt : Nat) { v with was := W, need := need, asked := true } (rtOf W) tp (.pointer none))) :: pt (ad u) (SupO mp pb x S) :: pt (ad mp) (MemO m.tick) :: pt (ad pb) (SkO mp x.pool) :: pt (ad g) (GrO mp x) :: G)
      have htok := takeInit_ok (ba := x.ba) (s := S)
      rw [hT] at hst htok
      refine go ?_
      refine Se_ ?_ (Sa rfl hst ?_)
      ·exact ent
      rintro v' L' ⟨q, rfl, rfl⟩
      refine go ?_
      cases hd : T.2.done with
      | true =>
        have e : alSeen (x.al slot gen n) S { v with was := W } t = (T.1, alTaken { v with was := W, need := need, asked := true } T.2) := by
         unfold alSeen; rw [if_pos hlive]; dsimp only; rw [hneed, if_neg hnf, if_neg h, if_neg (by rw [hask]; decide), hT, if_pos hd]
        rw [hask] at e
        rw [e]
        refine Cx.orde rfl kr_ (ge ?_)
        refine Ea kr_ rfl rfl (machThrough (b := b) (machOnYes (b := b) kr_ ((takeDone (b := q) (u := u) (pb := pb) (k := x.pool) (t := T.2) htok).mono (by rintro v L' ⟨rfl, rfl⟩; exact ⟨by rw [hd], rfl⟩)) kr_
         (alTaken_ (b := b) (q := q) (g := g) (u := u) (pb := pb) (x := x) (slot := slot) (gen := gen) (n := n) (v := { v with was := W, need := need, asked := true }) (t := T.2) rfl htok))) (Pd kr_) ?_
        rintro v' L' ⟨rfl, w, ⟨_, w2, rfl⟩⟩
        refine ge ?_
        refine go ?_
        refine Kr.none (.inl rfl) ?_ rfl
        exact ent
      | false =>
        have e : alSeen (x.al slot gen n) S { v with was := W } t = (T.1, ⟨2, { v with was := W, need := need, asked := true }, T.2, gNone, false⟩) := by
         unfold alSeen; rw [if_pos hlive]; dsimp only; rw [hneed, if_neg hnf, if_neg h, if_neg (by rw [hask]; decide), hT, if_neg (by rw [hd]; decide)]
        rw [hask] at e
        rw [e]
        refine Cx.orde rfl kr_ (ge ?_)
        refine Ea kr_ rfl rfl (machThrough (b := b) (machOnNo (b := b) kr_ ((takeDone (b := q) (u := u) (pb := pb) (k := x.pool) (t := T.2) htok).mono (by rintro v L' ⟨rfl, rfl⟩; exact ⟨by rw [hd], rfl⟩)))) (Pd kr_) ?_
        rintro v' L' ⟨rfl, w, ⟨_, rfl⟩⟩
        refine ge ?_
        refine go ?_
        refine Kr.none (.inl rfl) ?_ rfl
        refine Et (Ek (a := ad b)) ?_
        refine Et (Ec (Ek (a := ad q))) ?_
        refine Et (AlO.closeT (v := { v with was := W, need := need, asked := true }) (rt := rtOf W) ⟨2, { v with was := W, need := need, asked := true }, T.2, gNone, false⟩ rfl rfl rfl rfl rfl rfl) (Ec ?_)
        exact ent
  ·have hnf : ¬ (2 ≤ (rtOf W).mrk ∧ fitsS x.wd (rtOf W).off need) := fun h => by first | exact hf h.2 | exact hmk h.1
   first
    | (refine Ev.yes 96 rfl (dt (by omega)) (ge ?_)
       refine Eb kr_ rfl rfl (sizeFits x.wd (rtOf W).off need (by omega) (by omega) (by omega) hrl) (ge ?_)
       rw [dz hf])
    | (refine Ev.no 96 rfl (dz (by omega)) ?_
       refine ge ?_)
   refine go ?_
   refine Xi rfl (fun h => ?_) (fun h => ?_)
   ·have e : alSeen (x.al slot gen n) S { v with was := W } t = (S, ⟨4, { v with was := W, need := need }, t, gNone, false⟩) := by
     unfold alSeen; rw [if_pos hlive]; dsimp only; rw [hneed, if_neg hnf, if_pos (by exact h)]
    rw [e]
    refine go ?_
    refine Sa rfl (machGo (b := b)) ?_
    rintro v' L' ⟨rfl, rfl⟩
    refine go ?_
    refine Kr.none (.inl rfl) ?_ rfl
    refine Et (Ek (a := ad b)) ?_
    refine Et (AlO.closeS (v := { v with was := W, need := need }) (rt := rtOf W) ⟨4, { v with was := W, need := need }, t, gNone, false⟩ rfl rfl rfl rfl rfl rfl rfl) (Ec ?_)
    exact ent
   ·dsimp only at h
    cases hask : v.asked with
    | true =>
      have e : alSeen (x.al slot gen n) S { v with was := W } t = alClose x.pool S { v with was := W, need := need, asked := true } t 6 Hd.zero := by
       unfold alSeen; rw [if_pos hlive]; dsimp only; rw [hneed, if_neg hnf, if_neg h, if_pos hask, hask]
      rw [hask] at e
      rw [e]
      refine go ?_
      refine Sa rfl (alCloseC (b := b) (g := g) (u := u) (mp := mp) (pb := pb) (x := x) (slot := slot) (gen := gen) (n := n) (v := { v with was := W, need := need, asked := true }) (rt := rtOf W) (S := S) 6 Hd.zero t rfl hh (by omega) hm0 hm2 rfl) ?_
      rintro v' L' rfl
      refine go ?_
      refine Kr.none (.inl rfl) ?_ rfl
      exact ent
    | false =>
      obtain ⟨T, hT⟩ : ∃ T, takeInit x.ba S = T := ⟨_, rfl⟩
      have hst := supTake (u := u) (mp := mp) (pb := pb) (x := x) (s := S) hx hb (L := pt (ad b) (Blk 152 (alF .nilFunc n1 n2 n3 g u slot gen n (v.cnt : Nat) { v with was := W, need := need, asked := true } (rtOf W) tp (.pointer none))) :: pt (ad u) (SupO mp pb x S) :: pt (ad mp) (MemO m.tick) :: pt (ad pb) (SkO mp x.pool) :: pt (ad g) (GrO mp x) :: G)
      have htok := takeInit_ok (ba := x.ba) (s := S)
      rw [hT] at hst htok
      refine go ?_
      refine Se_ ?_ (Sa rfl hst ?_)
      ·exact ent
      rintro v' L' ⟨q, rfl, rfl⟩
      refine go ?_
      cases hd : T.2.done with
      | true =>
        have e : alSeen (x.al slot gen n) S { v with was := W } t = (T.1, alTaken { v with was := W, need := need, asked := true } T.2) := by
         unfold alSeen; rw [if_pos hlive]; dsimp only; rw [hneed, if_neg hnf, if_neg h, if_neg (by rw [hask]; decide), hT, if_pos hd]
        rw [hask] at e
        rw [e]
        refine Cx.orde rfl kr_ (ge ?_)
        refine Ea kr_ rfl rfl (machThrough (b := b) (machOnYes (b := b) kr_ ((takeDone (b := q) (u := u) (pb := pb) (k := x.pool) (t := T.2) htok).mono (by rintro v L' ⟨rfl, rfl⟩; exact ⟨by rw [hd], rfl⟩)) kr_
         (alTaken_ (b := b) (q := q) (g := g) (u := u) (pb := pb) (x := x) (slot := slot) (gen := gen) (n := n) (v := { v with was := W, need := need, asked := true }) (t := T.2) rfl htok))) (Pd kr_) ?_
        rintro v' L' ⟨rfl, w, ⟨_, w2, rfl⟩⟩
        refine ge ?_
        refine go ?_
        refine Kr.none (.inl rfl) ?_ rfl
        exact ent
      | false =>
        have e : alSeen (x.al slot gen n) S { v with was := W } t = (T.1, ⟨2, { v with was := W, need := need, asked := true }, T.2, gNone, false⟩) := by
         unfold alSeen; rw [if_pos hlive]; dsimp only; rw [hneed, if_neg hnf, if_neg h, if_neg (by rw [hask]; decide), hT, if_neg (by rw [hd]; decide)]
        rw [hask] at e
        rw [e]
        refine Cx.orde rfl kr_ (ge ?_)
        refine Ea kr_ rfl rfl (machThrough (b := b) (machOnNo (b := b) kr_ ((takeDone (b := q) (u := u) (pb := pb) (k := x.pool) (t := T.2) htok).mono (by rintro v L' ⟨rfl, rfl⟩; exact ⟨by rw [hd], rfl⟩)))) (Pd kr_) ?_
        rintro v' L' ⟨rfl, w, ⟨_, rfl⟩⟩
        refine ge ?_
        refine go ?_
        refine Kr.none (.inl rfl) ?_ rfl
        refine Et (Ek (a := ad b)) ?_
        refine Et (Ec (Ek (a := ad q))) ?_
        refine Et (AlO.closeT (v := { v with was := W, need := need, asked := true }) (rt := rtOf W) ⟨2, { v with was := W, need := need, asked := true }, T.2, gNone, false⟩ rfl rfl rfl rfl rfl rfl) (Ec ?_)
        exact ent
end
section
variable {L F G : St}
theorem word_lt {x : Cn} {k j : Nat} (hk : k < x.c) (hj : j < x.wd) : x.word + k * x.wd + j < x.len := by
 have h1 : (k + 1) * x.wd ≤ x.c * x.wd := Nat.mul_le_mul_right _ hk
 rw [Nat.succ_mul] at h1
 unfold Cn.word Cn.len; omega
theorem Rt.chunk_ge (r : Rt) : -1 ≤ r.chunk := by unfold Rt.chunk; split <;> omega
theorem Rt.chunk_lt {r : Rt} (h : r.mrk < 65536) : r.chunk < 65536 := by unfold Rt.chunk; split <;> omega
set_option maxHeartbeats 2000000 in
theorem alClear_ {b g u mp pb : Nat} {x : Cn} {slot : Nat} {gen : Int} {n : Nat} {v : AlV} {n1 n2 n3 tp : Value} {S : SupS} {m : Mm} {cnt : Int} (t : TakeS) (k : Nat) (hcnt : cnt = (v.cnt : Nat)) (hx : x.ok) (hl : x.len ≤ m.ws.length) (hk : v.hand = k) (hkc : k < x.c) (hz : v.zat < x.wd) :
  FX 221 [zp b] (alB b .nilFunc n1 n2 n3 g u slot gen n cnt v (rtOf v.was) tp (.pointer none) :: pt (ad u) (SupO mp pb x S) :: pt (ad mp) (MemO m) :: pt (ad pb) (SkO mp x.pool) :: pt (ad g) (GrO mp x) :: G)
   (fun _ L' => L' = pt (ad b) (AlO g u pb x slot gen n ⟨if v.zat + 1 < x.wd then 3 else 4, { v with zat := v.zat + 1 }, t, gNone, false⟩) :: pt (ad u) (SupO mp pb x S) :: pt (ad mp) (MemO (m.put (x.word + k * x.wd + v.zat) 0)) :: pt (ad pb) (SkO mp x.pool) :: pt (ad g) (GrO mp x) :: G) := by
 subst hcnt
 obtain ⟨cn, hand, zat, asked, ends, need, point, was, code, obj⟩ := v
 dsimp only at hk hz ⊢
 subst hk
 obtain ⟨b1, b2, b3, b4, b5, b6, b7⟩ := show MayC (x.w : Int) x.c x.wd x.sl x.ca x.ba from hx
 have hwlt := word_lt hkc hz
 refine Fm Tryz.func221 k221 ?_
 dsimp only [c221, eL]
 refine Cx.sq ?_
 refine Xd rfl kr_ (ge ?_)
 refine Eb kr_ rfl rfl (layWordN hx k zat hkc hz) (ge ?_)
 refine Ea kr_ rfl rfl (cellsStore (b := mp) (m := m) (x.word + k * x.wd + zat) 0 (by omega) (by omega)) (Pd kr_) ?_
 rintro v' L' ⟨rfl, rfl⟩
 refine ge ?_
 refine go ?_
 rw [w64 (n := (zat : Int) + 1) (by omega) (by omega), show (zat : Int) + 1 = ((zat + 1 : Nat) : Int) by omega]
 refine go ?_
 refine Xd rfl kr_ (ge ?_)
 refine Xi rfl (fun h => ?_) (fun h => ?_)
 ·rw [if_pos (show zat + 1 < x.wd by omega)]
  refine go ?_
  refine Sa rfl (machGo (b := b)) ?_
  rintro v' L' ⟨rfl, rfl⟩
  refine go ?_
  refine Kr.none (.inl rfl) ?_ rfl
  refine Et (Ek (a := ad b)) ?_
  refine Et (AlO.closeS (v := ⟨cn, k, zat + 1, asked, ends, need, point, was, code, obj⟩) (rt := rtOf was) ⟨3, ⟨cn, k, zat + 1, asked, ends, need, point, was, code, obj⟩, t, gNone, false⟩ rfl rfl rfl rfl rfl rfl rfl) (Ec ?_)
  exact ent
 ·rw [if_neg (show ¬ zat + 1 < x.wd by omega)]
  refine go ?_
  refine Sa rfl (machGo (b := b)) ?_
  rintro v' L' ⟨rfl, rfl⟩
  refine go ?_
  refine Kr.none (.inl rfl) ?_ rfl
  refine Et (Ek (a := ad b)) ?_
  refine Et (AlO.closeS (v := ⟨cn, k, zat + 1, asked, ends, need, point, was, code, obj⟩) (rt := rtOf was) ⟨4, ⟨cn, k, zat + 1, asked, ends, need, point, was, code, obj⟩, t, gNone, false⟩ rfl rfl rfl rfl rfl rfl rfl) (Ec ?_)
  exact ent
set_option maxHeartbeats 2000000 in
theorem alLink_ {b g u mp pb : Nat} {x : Cn} {slot : Nat} {gen : Int} {n : Nat} {v : AlV} {n1 n2 n3 tp : Value} {S : SupS} {m : Mm} {cnt : Int} (t : TakeS) (k : Nat) (hcnt : cnt = (v.cnt : Nat)) (hx : x.ok) (hl : x.len ≤ m.ws.length) (hk : v.hand = k) (hkc : k < x.c) :
  FX 157 [zp b] (alB b .nilFunc n1 n2 n3 g u slot gen n cnt v (rtOf v.was) tp (.pointer none) :: pt (ad u) (SupO mp pb x S) :: pt (ad mp) (MemO m) :: pt (ad pb) (SkO mp x.pool) :: pt (ad g) (GrO mp x) :: G)
   (fun _ L' => L' = pt (ad b) (AlO g u pb x slot gen n ⟨5, v, t, gNone, false⟩) :: pt (ad u) (SupO mp pb x S) :: pt (ad mp) (MemO (m.put (x.link + k) ((rtOf v.was).chunk + 1).toNat)) :: pt (ad pb) (SkO mp x.pool) :: pt (ad g) (GrO mp x) :: G) := by
 subst hcnt
 obtain ⟨cn, hand, zat, asked, ends, need, point, was, code, obj⟩ := v
 dsimp only at hk ⊢
 subst hk
 have hc1 := (rtOf was).chunk_ge
 have hc2 := Rt.chunk_lt (rtOf_mrk was)
 have hsz : x.link + x.c ≤ x.len := by unfold Cn.link Cn.len; omega
 refine Fm Tryz.func157 k157 ?_
 dsimp only [c157, eL]
 refine Cx.sq ?_
 refine Xd rfl kr_ (ge ?_)
 refine Eb kr_ rfl rfl (layLinkN hx k hkc) (ge ?_)
 refine Eb kr_ rfl rfl (wordChunk (rtOf was) (rtOf_mrk _)) (ge ?_)
 rw [wrapS (x := (rtOf was).chunk + 1) (by omega) (by omega)]
 refine Ea kr_ rfl rfl (cellsStore (b := mp) (m := m) (x.link + k) ((rtOf was).chunk + 1).toNat (by omega) (by omega)) (Pd kr_) ?_
 rintro v' L' ⟨rfl, rfl⟩
 refine ge ?_
 refine go ?_
 refine Sa rfl (machGo (b := b)) ?_
 rintro v' L' ⟨rfl, rfl⟩
 refine go ?_
 refine Kr.none (.inl rfl) ?_ rfl
 refine Et (Ek (a := ad b)) ?_
 refine Et (AlO.closeS (v := ⟨cn, k, zat, asked, ends, need, point, was, code, obj⟩) (rt := rtOf was) ⟨5, ⟨cn, k, zat, asked, ends, need, point, was, code, obj⟩, t, gNone, false⟩ rfl rfl rfl rfl rfl rfl rfl) (Ec ?_)
 exact ent
theorem alExchange {b g u mp : Nat} {x : Cn} {slot : Nat} {gen : Int} {n : Nat} {v : AlV} {rt : Rt} {nx n1 n2 n3 tp gp : Value} {m : Mm} {cnt : Int} {F1 F2 : St} (R : Rt) (hR : R.ok) (hx : x.ok) (hl : x.len ≤ m.ws.length) (hs : slot < x.sl)
  [t1 : Take L (ad mp) (MemO m) F] [t2 : Take F (ad b) (Blk 152 (alF nx n1 n2 n3 g u slot gen n cnt v rt tp gp)) F1] [t3 : Take F1 (ad g) (GrO mp x) F2] :
  FX 212 [zp b, rtV R] L (fun v' L' => v' = .bool (decide (m.at_ (x.root + slot) = v.was)) ∧ L' = pt (ad mp) (MemO (m.cas (x.root + slot) v.was R.w)) :: F) := by
 have hsz : x.root + x.sl ≤ x.len := by unfold Cn.root Cn.len; omega
 refine Fm Tryz.func212 k212 ?_
 dsimp only [c212, eL]
 refine Xe (Et (Eo t1.out) (Ec (Et (Eo t2.out) (Ec (Eo t3.out))))) ?_
 refine Cx.sq ?_
 refine Cx.rg ?_
 refine Sx.bx rfl rfl fun q => (go ?_)
 refine Sa rfl (putRoot R hR) ?_
 rintro v' L' ⟨rfl, rfl⟩
 refine go ?_
 refine Xd rfl kr_ (ge ?_)
 refine Eb kr_ rfl rfl (layRootN hx slot hs) (ge ?_)
 refine Ea kr_ rfl rfl (cellsCas (b := mp) (m := m) (x.root + slot) v.was R.w (by omega) (Rt.w_lt hR)) (Pd kr_) ?_
 rintro v' L' ⟨rfl, rfl⟩
 refine ge ?_
 refine go ?_
 refine Ko rfl ?_ ⟨rfl, rfl⟩
 refine Et (Ek (a := ad mp)) (Ec ?_)
 refine Et ?_ (Eo t2.back)
 refine Et (Ek (a := ad b)) (Ec ?_)
 refine Et ?_ (Eo t3.back)
 exact ent
end
section
variable {L F G : St}
set_option maxHeartbeats 4000000 in
theorem alFit_ {b g u mp pb : Nat} {x : Cn} {slot : Nat} {gen : Int} {n : Nat} {v : AlV} {n1 n2 n3 tp : Value} {S : SupS} {m : Mm} {cnt : Int} (t : TakeS) (r : Mm × SupS × AlS) (hcnt : cnt = (v.cnt : Nat)) (hx : x.ok) (hl : x.len ≤ m.ws.length) (hs : slot < x.sl) (hh : -1 ≤ v.hand)
  (hok : (rtOf v.was).ok) (hoff : (rtOf v.was).off + v.need ≤ x.wd) (hb : S.xs.length ≤ 1000000) (hm0 : 0 ≤ S.most) (hm2 : S.most ≤ 64)
  (hr : r = if m.at_ (x.root + slot) = v.was then (m.put (x.root + slot) (Rt.w ⟨(rtOf v.was).gen, (rtOf v.was).mrk, (rtOf v.was).cl, (rtOf v.was).off + v.need⟩), alClose x.pool S v t 0 ⟨slot, gen, (rtOf v.was).chunk, (rtOf v.was).off, n⟩) else (m.tick, S, ⟨0, v, t, gNone, false⟩)) :
  FX 156 [zp b] (alB b .nilFunc n1 n2 n3 g u slot gen n cnt v (rtOf v.was) tp (.pointer none) :: pt (ad u) (SupO mp pb x S) :: pt (ad mp) (MemO m) :: pt (ad pb) (SkO mp x.pool) :: pt (ad g) (GrO mp x) :: G)
   (fun _ L' => L' = pt (ad b) (AlO g u pb x slot gen n r.2.2) :: pt (ad u) (SupO mp pb x r.2.1) :: pt (ad mp) (MemO r.1) :: pt (ad pb) (SkO mp x.pool) :: pt (ad g) (GrO mp x) :: G) := by
 subst hcnt
 obtain ⟨b1, b2, b3, b4, b5, b6, b7⟩ := show MayC (x.w : Int) x.c x.wd x.sl x.ca x.ba from hx
 obtain ⟨w, hw⟩ : ∃ w, rtOf v.was = w := ⟨_, rfl⟩
 rw [hw] at hok hoff hr ⊢
 have hR : Rt.ok ⟨w.gen, w.mrk, w.cl, w.off + v.need⟩ := ⟨hok.g, hok.m, hok.c, by show w.off + v.need ≤ 1024; omega⟩
 refine Fm Tryz.func156 k156 ?_
 dsimp only [c156, eL]
 refine go ?_
 refine Sx.al fun q => (go ?_)
 refine Sx.st (b := q) rfl rfl rfl rfl rfl rfl ?_
 refine Sr (rtL w) rfl (go ?_)
 refine Xd rfl kr_ (ge ?_)
 rw [w64 (n := (w.off : Int) + v.need) (by omega) (by omega), show (w.off : Int) + v.need = ((w.off + v.need : Nat) : Int) by omega]
 refine Es (b := q) kr_ rfl rfl rfl rfl rfl (by rfl) rfl (Pd kr_) (ge ?_)
 refine go ?_
 refine Sa rfl (alExchange (b := b) (g := g) (u := u) (mp := mp) (x := x) (slot := slot) (gen := gen) (n := n) (v := v) (rt := w) (m := m) ⟨w.gen, w.mrk, w.cl, w.off + v.need⟩ hR hx hl hs) ?_
 rintro v' L' ⟨rfl, rfl⟩
 by_cases he : m.at_ (x.root + slot) = v.was
 ·rw [dt he]
  rw [if_pos he] at hr
  subst hr
  rw [show m.cas (x.root + slot) v.was (Rt.w ⟨w.gen, w.mrk, w.cl, w.off + v.need⟩) = m.put (x.root + slot) (Rt.w ⟨w.gen, w.mrk, w.cl, w.off + v.need⟩) by unfold Mm.cas; rw [if_pos he]]
  refine go ?_
  refine Cx.orde rfl kr_ (ge ?_)
  refine Eb kr_ rfl rfl (wordChunk ⟨w.gen, w.mrk, w.cl, w.off + v.need⟩ (by have := hok.m; show w.mrk < _; omega)) (ge ?_)
  refine Ea kr_ rfl rfl (alCloseC (b := b) (g := g) (u := u) (mp := mp) (pb := pb) (x := x) (slot := slot) (gen := gen) (n := n) (v := v) (rt := w) (S := S) 0 ⟨slot, gen, w.chunk, w.off, n⟩ t rfl hh hb hm0 hm2 hw.symm) (Pd kr_) ?_
  rintro v' L' rfl
  refine ge ?_
  refine Kr.none (.inl rfl) ?_ rfl
  exact ent
 ·rw [dz he]
  rw [if_neg he] at hr
  subst hr
  rw [show m.cas (x.root + slot) v.was (Rt.w ⟨w.gen, w.mrk, w.cl, w.off + v.need⟩) = m.tick by unfold Mm.cas; rw [if_neg he]]
  refine go ?_
  refine Sa rfl (machGo (b := b)) ?_
  rintro v' L' ⟨rfl, rfl⟩
  refine go ?_
  refine Kr.none (.inr rfl) ?_ rfl
  refine Et (Ek (a := ad b)) ?_
  refine Et (AlO.closeS (v := v) (rt := w) ⟨0, v, t, gNone, false⟩ rfl rfl rfl rfl rfl rfl hw.symm) (Ec ?_)
  exact ent
set_option maxHeartbeats 4000000 in
theorem alLead_ {b g u mp pb : Nat} {x : Cn} {slot : Nat} {gen : Int} {n : Nat} {v : AlV} {n1 n2 n3 tp : Value} {S : SupS} {m : Mm} {cnt : Int} (t : TakeS) (r : Mm × SupS × AlS) (k : Nat) (hcnt : cnt = (v.cnt : Nat)) (hx : x.ok) (hl : x.len ≤ m.ws.length) (hs : slot < x.sl) (hk : v.hand = k) (hkc : k < x.c)
  (hok : (rtOf v.was).ok) (hn1 : 1 ≤ v.need) (hn2 : v.need ≤ x.wd) (hb : S.xs.length ≤ 1000000) (hm0 : 0 ≤ S.most) (hm2 : S.most ≤ 64)
  (hr : r = if m.at_ (x.root + slot) = v.was then (m.put (x.root + slot) (Rt.w ⟨(rtOf v.was).gen, 2 + k, (rtOf v.was).cl, afterS x.wd v.need⟩), alClose x.pool S { v with hand := -1 } t 0 ⟨slot, gen, k, 0, n⟩) else (m.tick, S, ⟨0, v, t, gNone, false⟩)) :
  FX 215 [zp b] (alB b .nilFunc n1 n2 n3 g u slot gen n cnt v (rtOf v.was) tp (.pointer none) :: pt (ad u) (SupO mp pb x S) :: pt (ad mp) (MemO m) :: pt (ad pb) (SkO mp x.pool) :: pt (ad g) (GrO mp x) :: G)
   (fun _ L' => L' = pt (ad b) (AlO g u pb x slot gen n r.2.2) :: pt (ad u) (SupO mp pb x r.2.1) :: pt (ad mp) (MemO r.1) :: pt (ad pb) (SkO mp x.pool) :: pt (ad g) (GrO mp x) :: G) := by
 subst hcnt
 obtain ⟨b1, b2, b3, b4, b5, b6, b7⟩ := show MayC (x.w : Int) x.c x.wd x.sl x.ca x.ba from hx
 obtain ⟨cn, hand, zat, asked, ends, need, point, was, code, obj⟩ := v
 dsimp only at hk hok hn1 hn2 hr ⊢
 subst hk
 obtain ⟨w, hw⟩ : ∃ w, rtOf was = w := ⟨_, rfl⟩
 rw [hw] at hok hr ⊢
 have haf := afterS_le hn2
 obtain ⟨A, hA⟩ : ∃ A, afterS x.wd need = A := ⟨_, rfl⟩
 rw [hA] at haf hr
 have hR : Rt.ok ⟨w.gen, 2 + k, w.cl, A⟩ := ⟨hok.g, by show 2 + k ≤ 4097; omega, hok.c, by show A ≤ 1024; omega⟩
 refine Fm Tryz.func215 k215 ?_
 dsimp only [c215, eL]
 refine go ?_
 refine Sx.al fun q => (go ?_)
 refine Sx.st (b := q) rfl rfl rfl rfl rfl rfl ?_
 refine Sr (rtL w) rfl (go ?_)
 refine Xd rfl kr_ (ge ?_)
 rw [w64 (n := (2 : Int) + k) (by omega) (by omega), show (2 : Int) + k = ((2 + k : Nat) : Int) by omega]
 refine ge ?_
 refine Eb kr_ rfl rfl (sizeAfter x.wd need (by omega) (by omega) hn1 hn2) ?_
 rw [hA]
 refine ge ?_
 refine Es (b := q) kr_ rfl rfl rfl rfl rfl (by rfl) rfl (Pd kr_) (ge ?_)
 refine Es (b := q) kr_ rfl rfl rfl rfl rfl (by rfl) rfl (Pd kr_) (ge ?_)
 refine go ?_
 refine Sa rfl (alExchange (b := b) (g := g) (u := u) (mp := mp) (x := x) (slot := slot) (gen := gen) (n := n) (v := ⟨cn, k, zat, asked, ends, need, point, was, code, obj⟩) (rt := w) (m := m) ⟨w.gen, 2 + k, w.cl, A⟩ hR hx hl hs) ?_
 rintro v' L' ⟨rfl, rfl⟩
 dsimp only
 by_cases he : m.at_ (x.root + slot) = was
 ·rw [dt he]
  rw [if_pos he] at hr
  subst hr
  rw [show m.cas (x.root + slot) was (Rt.w ⟨w.gen, 2 + k, w.cl, A⟩) = m.put (x.root + slot) (Rt.w ⟨w.gen, 2 + k, w.cl, A⟩) by unfold Mm.cas; rw [if_pos he]]
  refine go ?_
  refine Cx.orde rfl kr_ (ge ?_)
  refine Ea kr_ rfl rfl (alCloseC (b := b) (g := g) (u := u) (mp := mp) (pb := pb) (x := x) (slot := slot) (gen := gen) (n := n) (v := ⟨cn, -1, zat, asked, ends, need, point, was, code, obj⟩) (rt := w) (S := S) 0 ⟨slot, gen, k, 0, n⟩ t rfl (by show (-1 : Int) ≤ -1; omega) hb hm0 hm2 hw.symm) (Pd kr_) ?_
  rintro v' L' rfl
  refine ge ?_
  refine Kr.none (.inl rfl) ?_ rfl
  exact ent
 ·rw [dz he]
  rw [if_neg he] at hr
  subst hr
  rw [show m.cas (x.root + slot) was (Rt.w ⟨w.gen, 2 + k, w.cl, A⟩) = m.tick by unfold Mm.cas; rw [if_neg he]]
  refine go ?_
  refine Sa rfl (machGo (b := b)) ?_
  rintro v' L' ⟨rfl, rfl⟩
  refine go ?_
  refine Kr.none (.inr rfl) ?_ rfl
  refine Et (Ek (a := ad b)) ?_
  refine Et (AlO.closeS (v := ⟨cn, k, zat, asked, ends, need, point, was, code, obj⟩) (rt := w) ⟨0, ⟨cn, k, zat, asked, ends, need, point, was, code, obj⟩, t, gNone, false⟩ rfl rfl rfl rfl rfl rfl hw.symm) (Ec ?_)
  exact ent
end
structure AlOk (x : Cn) (a : AlS) : Prop where
 o0 : a.at_ ≤ 6
 o1 : a.v.cnt ≤ 1000000
 o2 : -1 ≤ a.v.hand
 o3 : a.v.hand < x.c
 o4 : (rtOf a.v.was).ok
 o5 : a.at_ = 1 → (rtOf a.v.was).off + a.v.need ≤ x.wd
 o6 : a.at_ = 5 → 1 ≤ a.v.need ∧ a.v.need ≤ x.wd
 o7 : a.at_ = 3 ∨ a.at_ = 4 ∨ a.at_ = 5 → 0 ≤ a.v.hand
 o8 : a.at_ = 3 → a.v.zat < x.wd
 o9 : a.at_ = 2 → a.t.ok
section
variable {L F G : St}
set_option maxHeartbeats 4000000 in
theorem alStepC {b g u mp pb : Nat} {x : Cn} {slot : Nat} {gen : Int} {n : Nat} {S : SupS} {m : Mm} {a : AlS} {F1 F2 F3 F4 : St} (hx : x.ok) (hl : x.len ≤ m.ws.length) (hs : slot < x.sl) (hn : 1 ≤ n) (hn2 : n ≤ x.wd) (hw8 : x.wd % 8 = 0)
  (hok : (rtOf (m.at_ (x.root + slot))).ok) (hb : S.xs.length + S.lm.size ≤ 1000000) (hm0 : 0 ≤ S.most) (hm2 : S.most ≤ 64) (ha : a.done = false → AlOk x a)
  [t1 : Take L (ad b) (AlO g u pb x slot gen n a) F1] [t2 : Take F1 (ad u) (SupO mp pb x S) F2] [t3 : Take F2 (ad mp) (MemO m) F3] [t4 : Take F3 (ad pb) (SkO mp x.pool) F4] [t5 : Take F4 (ad g) (GrO mp x) G] :
  FX 26 [zp b] L
   (fun v L' => v = .bool (!a.done) ∧ L' = pt (ad b) (AlO g u pb x slot gen n (alStep (x.al slot gen n) m S a).2.2) :: pt (ad u) (SupO mp pb x (alStep (x.al slot gen n) m S a).2.1) :: pt (ad mp) (MemO (alStep (x.al slot gen n) m S a).1) :: F3) := by
 have hback : Ent (pt (ad pb) (SkO mp x.pool) :: pt (ad g) (GrO mp x) :: G) F3 := Et (Ec (Eo t5.back)) (Eo t4.back)
 refine Fm Tryz.func26 k26 ?_
 dsimp only [c26, eL]
 refine Xe (Et (Eo t1.out) (Ec (Et (Eo t2.out) (Ec (Et (Eo t3.out) (Ec (Et (Eo t4.out) (Ec (Eo t5.out))))))))) ?_
 refine Cx.pure (memKey (b := mp) (m := m)) fun hm => ?_
 cases hd : a.done with
 | true =>
   have e1 : alStep (x.al slot gen n) m S a = (m, S, a) := by unfold alStep; rw [hd]; rfl
   rw [e1]
   refine Xo (a := ad b) (AlO.dd_ hd) ?_
   rintro ⟨q, n1, n2, n3, tp⟩
   simp only [alDL, lc, ln]
   refine go ?_
   refine Sa rfl (machStepDone (b := b)) ?_
   rintro v' L' ⟨rfl, rfl⟩
   refine go ?_
   exact Ko rfl (Et (AlO.closeD (v := a.v) (rt := rtOf a.v.was) a hd rfl rfl rfl rfl) (Ec (Ec (Ec hback)))) ⟨rfl, rfl⟩
 | false =>
   obtain ⟨k0, k1, k2, k3, k4, k5, k6, k7, k8, k9⟩ := ha hd
   rcases (show a.at_ = 0 ∨ a.at_ = 1 ∨ a.at_ = 2 ∨ a.at_ = 3 ∨ a.at_ = 4 ∨ a.at_ = 5 ∨ a.at_ = 6 by omega) with h0 | h0 | h0 | h0 | h0 | h0 | h0
   ·refine Xo (a := ad b) (AlO.ss_ hd (by omega) (by omega)) ?_
    rintro ⟨n1, n2, n3, tp⟩
    simp only [alSL, lc, ln]
    rw [show alFn a.at_ = 80 by rw [h0]; rfl]
    have e1 : alStep (x.al slot gen n) m S a = (m.tick, alSeen (x.al slot gen n) S { a.v with cnt := a.v.cnt + 1, was := m.at_ (x.root + slot) } a.t) := by unfold alStep; rw [hd, h0]; rfl
    rw [e1]
    refine go ?_
    refine Sa rfl (machStep (b := b) kr_ (alLook_ (b := b) (g := g) (u := u) (mp := mp) (pb := pb) (x := x) (slot := slot) (gen := gen) (n := n) (v := { a.v with cnt := a.v.cnt + 1 }) (S := S) (m := m) a.t (cntW k1) hx hm.1 hl hs hn hn2 hw8 k2 hok hb hm0 hm2)) ?_
    rintro v' L' ⟨rfl, w, rfl⟩
    refine go ?_
    exact Ko rfl (Ec (Ec (Ec hback))) ⟨rfl, rfl⟩
   ·refine Xo (a := ad b) (AlO.ss_ hd (by omega) (by omega)) ?_
    rintro ⟨n1, n2, n3, tp⟩
    simp only [alSL, lc, ln]
    rw [show alFn a.at_ = 156 by rw [h0]; rfl]
    refine go ?_
    refine Sa rfl (machStep (b := b) kr_ (alFit_ (b := b) (g := g) (u := u) (mp := mp) (pb := pb) (x := x) (slot := slot) (gen := gen) (n := n) (v := { a.v with cnt := a.v.cnt + 1 }) (S := S) (m := m) a.t (alStep (x.al slot gen n) m S a) (cntW k1) hx hl hs k2 k4 (k5 h0) (by omega) hm0 hm2
     (by unfold alStep; rw [hd, h0]; simp only [bf, if_false]))) ?_
    rintro v' L' ⟨rfl, w, rfl⟩
    refine go ?_
    exact Ko rfl (Ec (Ec (Ec hback))) ⟨rfl, rfl⟩
   ·refine Xo (a := ad b) (AlO.tt_ hd h0) ?_
    intro q
    simp only [alTL, lc, ln]
    obtain ⟨T, hT⟩ : ∃ T, takeStep x.pool x.ba m S a.t = T := ⟨_, rfl⟩
    have htok := takeStep_ok (k := x.pool) (ba := x.ba) (m := m) (s := S) (k9 h0)
    have hts := takeStepC (b := q) (u := u) (mp := mp) (pb := pb) (x := x) (s := S) (m := m) (t := a.t) hx hl (k9 h0) hb
     (L := pt (ad b) (Blk 152 (alF .nilFunc (mth 159 q) (mth 160 q) (mth 161 b) g u slot gen n (IntKind.i64.wrap ((a.v.cnt : Int) + 1)) a.v (rtOf a.v.was) (zp q) (.pointer none))) :: pt (ad q) (TakeO u pb x.pool a.t) :: pt (ad u) (SupO mp pb x S) :: pt (ad mp) (MemO m) :: pt (ad pb) (SkO mp x.pool) :: pt (ad g) (GrO mp x) :: G)
    rw [hT] at hts htok
    cases hq : T.2.2.done with
    | true =>
      have e1 : alStep (x.al slot gen n) m S a = (T.1, T.2.1, alTaken { a.v with cnt := a.v.cnt + 1 } T.2.2) := by unfold alStep; rw [hd, h0]; simp only [bf, if_false, hT, hq, if_true]
      rw [e1]
      refine go ?_
      refine Sa rfl (machStep (b := b) kr_ (machGoes (b := b) kr_ hts
       (R2 := fun v L' => v = .tuple #[] ∧ ∃ w : Value, L' = pt (ad b) (AlO g u pb x slot gen n (alTaken { a.v with cnt := a.v.cnt + 1 } T.2.2)) :: pt (ad u) (SupO mp pb x T.2.1) :: pt (ad mp) (MemO T.1) :: pt (ad pb) (SkO mp x.pool) :: pt (ad g) (GrO mp x) :: G) ?_)) ?_
      ·rintro v L1 ⟨rfl, rfl⟩
       have hon := machOnYes (b := b) kr_ (fd := 160) (ft := 161) (w := zp q) (u := zp b)
        (L := pt (ad q) (TakeO u pb x.pool T.2.2) :: pt (ad u) (SupO mp pb x T.2.1) :: pt (ad mp) (MemO T.1) :: pt (ad b) (Blk 152 (alF .nilFunc (mth 159 q) (mth 160 q) (mth 161 b) g u slot gen n (IntKind.i64.wrap ((a.v.cnt : Int) + 1)) a.v (rtOf a.v.was) (zp q) (.pointer none))) :: pt (ad pb) (SkO mp x.pool) :: pt (ad g) (GrO mp x) :: G)
        ((takeDone (b := q) (u := u) (pb := pb) (k := x.pool) (t := T.2.2) htok).mono (by rintro v L' ⟨rfl, rfl⟩; exact ⟨by rw [hq], rfl⟩)) kr_
        (Fx.ent (M := alB b .nilFunc (mth 159 q) (mth 160 q) (mth 161 b) g u slot gen n (IntKind.i64.wrap ((a.v.cnt : Int) + 1)) { a.v with cnt := a.v.cnt + 1 } (rtOf a.v.was) (zp q) (.pointer none) :: pt (ad q) (TakeO u pb x.pool T.2.2) :: pt (ad u) (SupO mp pb x T.2.1) :: pt (ad mp) (MemO T.1) :: pt (ad pb) (SkO mp x.pool) :: pt (ad g) (GrO mp x) :: G) (by exact ent)
         (alTaken_ (b := b) (q := q) (g := g) (u := u) (pb := pb) (x := x) (slot := slot) (gen := gen) (n := n) (v := { a.v with cnt := a.v.cnt + 1 }) (t := T.2.2) (cntW k1) htok))
       refine hon.mono ?_
       rintro v L' ⟨rfl, w, rfl⟩
       exact ⟨rfl, .tuple #[], rfl⟩
      ·rintro v L' ⟨rfl, w, _, w2, _, w3, rfl⟩
       refine go ?_
       exact Ko rfl (Ec (Ec (Ec hback))) ⟨rfl, rfl⟩
    | false =>
      have e1 : alStep (x.al slot gen n) m S a = (T.1, T.2.1, ⟨2, { a.v with cnt := a.v.cnt + 1 }, T.2.2, gNone, false⟩) := by unfold alStep; rw [hd, h0]; simp only [bf, if_false, hT, hq]
      rw [e1]
      refine go ?_
      refine Sa rfl (machStep (b := b) kr_ (machGoes (b := b) kr_ hts
       (R2 := fun v L' => v = .tuple #[] ∧ L' = alB b (mth 232 b) (mth 159 q) (mth 160 q) (mth 161 b) g u slot gen n (IntKind.i64.wrap ((a.v.cnt : Int) + 1)) a.v (rtOf a.v.was) (zp q) (.pointer none) :: pt (ad q) (TakeO u pb x.pool T.2.2) :: pt (ad u) (SupO mp pb x T.2.1) :: pt (ad mp) (MemO T.1) :: pt (ad pb) (SkO mp x.pool) :: pt (ad g) (GrO mp x) :: G) ?_)) ?_
      ·rintro v L1 ⟨rfl, rfl⟩
       refine (machOnNo (b := b) kr_ ((takeDone (b := q) (u := u) (pb := pb) (k := x.pool) (t := T.2.2) htok).mono (by rintro v L' ⟨rfl, rfl⟩; exact ⟨by rw [hq], rfl⟩))).mono ?_
       rintro v L' ⟨rfl, rfl⟩
       exact ⟨rfl, rfl⟩
      ·rintro v L' ⟨rfl, w, _, w2, _, rfl⟩
       refine go ?_
       refine Ko rfl ?_ ⟨rfl, rfl⟩
       refine Et (AlO.closeT (v := a.v) (rt := rtOf a.v.was) ⟨2, { a.v with cnt := a.v.cnt + 1 }, T.2.2, gNone, false⟩ rfl rfl (cntW k1) rfl rfl rfl) (Ec ?_)
       exact Ec (Ec hback)
   ·refine Xo (a := ad b) (AlO.ss_ hd (by omega) (by omega)) ?_
    rintro ⟨n1, n2, n3, tp⟩
    simp only [alSL, lc, ln]
    rw [show alFn a.at_ = 221 by rw [h0]; rfl]
    obtain ⟨k, hk⟩ : ∃ k : Nat, a.v.hand = k := ⟨a.v.hand.toNat, by have := k7 (.inl h0); omega⟩
    have e1 : alStep (x.al slot gen n) m S a = (m.put (x.word + k * x.wd + a.v.zat) 0, S, ⟨if a.v.zat + 1 < x.wd then 3 else 4, { a.v with cnt := a.v.cnt + 1, zat := a.v.zat + 1 }, a.t, gNone, false⟩) := by unfold alStep; rw [hd, h0]; simp only [bf, if_false, hk, tn]
    rw [e1]
    refine go ?_
    refine Sa rfl (machStep (b := b) kr_ (alClear_ (b := b) (g := g) (u := u) (mp := mp) (pb := pb) (x := x) (slot := slot) (gen := gen) (n := n) (v := { a.v with cnt := a.v.cnt + 1 }) (S := S) (m := m) a.t k (cntW k1) hx hl hk (by omega) (k8 h0))) ?_
    rintro v' L' ⟨rfl, w, rfl⟩
    refine go ?_
    exact Ko rfl (Ec (Ec (Ec hback))) ⟨rfl, rfl⟩
   ·refine Xo (a := ad b) (AlO.ss_ hd (by omega) (by omega)) ?_
    rintro ⟨n1, n2, n3, tp⟩
    simp only [alSL, lc, ln]
    rw [show alFn a.at_ = 157 by rw [h0]; rfl]
    obtain ⟨k, hk⟩ : ∃ k : Nat, a.v.hand = k := ⟨a.v.hand.toNat, by have := k7 (.inr (.inl h0)); omega⟩
    have e1 : alStep (x.al slot gen n) m S a = (m.put (x.link + k) ((rtOf a.v.was).chunk + 1).toNat, S, ⟨5, { a.v with cnt := a.v.cnt + 1 }, a.t, gNone, false⟩) := by unfold alStep; rw [hd, h0]; simp only [bf, if_false, hk, tn]; rfl
    rw [e1]
    refine go ?_
    refine Sa rfl (machStep (b := b) kr_ (alLink_ (b := b) (g := g) (u := u) (mp := mp) (pb := pb) (x := x) (slot := slot) (gen := gen) (n := n) (v := { a.v with cnt := a.v.cnt + 1 }) (S := S) (m := m) a.t k (cntW k1) hx hl hk (by omega))) ?_
    rintro v' L' ⟨rfl, w, rfl⟩
    refine go ?_
    exact Ko rfl (Ec (Ec (Ec hback))) ⟨rfl, rfl⟩
   ·refine Xo (a := ad b) (AlO.ss_ hd (by omega) (by omega)) ?_
    rintro ⟨n1, n2, n3, tp⟩
    simp only [alSL, lc, ln]
    rw [show alFn a.at_ = 215 by rw [h0]; rfl]
    obtain ⟨k, hk⟩ : ∃ k : Nat, a.v.hand = k := ⟨a.v.hand.toNat, by have := k7 (.inr (.inr h0)); omega⟩
    refine go ?_
    refine Sa rfl (machStep (b := b) kr_ (alLead_ (b := b) (g := g) (u := u) (mp := mp) (pb := pb) (x := x) (slot := slot) (gen := gen) (n := n) (v := { a.v with cnt := a.v.cnt + 1 }) (S := S) (m := m) a.t (alStep (x.al slot gen n) m S a) k (cntW k1) hx hl hs hk (by omega) k4 (k6 h0).1 (k6 h0).2 (by omega) hm0 hm2
     (by unfold alStep; rw [hd, h0]; simp only [bf, if_false, hk, tn]))) ?_
    rintro v' L' ⟨rfl, w, rfl⟩
    refine go ?_
    exact Ko rfl (Ec (Ec (Ec hback))) ⟨rfl, rfl⟩
   ·refine Xo (a := ad b) (AlO.gg_ hd h0) ?_
    rintro ⟨q, tp⟩
    simp only [alGL, lc, ln]
    have hk := hx.pool (n := m.ws.length) hl hm.2
    obtain ⟨T, hT⟩ : ∃ T, pushStep x.pool m a.g = T := ⟨_, rfl⟩
    have hts := giveStep (b := q) (mp := mp) (pb := pb) (k := x.pool) (m := m) (p := a.g) hk
     (L := pt (ad b) (Blk 152 (alF .nilFunc (mth 208 q) (mth 188 q) (mth 209 b) g u slot gen n (IntKind.i64.wrap ((a.v.cnt : Int) + 1)) a.v (rtOf a.v.was) tp (zp q))) :: pt (ad q) (GiveO pb x.pool a.g) :: pt (ad u) (SupO mp pb x S) :: pt (ad mp) (MemO m) :: pt (ad pb) (SkO mp x.pool) :: pt (ad g) (GrO mp x) :: G)
    have e1 : alStep (x.al slot gen n) m S a = (T.2, S, ⟨6, { a.v with cnt := a.v.cnt + 1 }, a.t, T.1, T.1.done⟩) := by unfold alStep; rw [hd, h0]; simp only [bf, if_false, hT]
    rw [hT] at hts
    rw [e1]
    refine go ?_
    cases hq : T.1.done with
    | true =>
      refine Sa rfl (machStep (b := b) kr_ (machGoes (b := b) kr_ hts
       (R2 := fun v L' => v = .tuple #[] ∧ ∃ w : Value, w = .tuple #[] ∧ pt (ad q) (GiveO pb x.pool T.1) :: pt (ad mp) (MemO T.2) :: pt (ad b) (Blk 152 (alF .nilFunc (mth 208 q) (mth 188 q) (mth 209 b) g u slot gen n (IntKind.i64.wrap ((a.v.cnt : Int) + 1)) a.v (rtOf a.v.was) tp (zp q))) :: pt (ad u) (SupO mp pb x S) :: pt (ad pb) (SkO mp x.pool) :: pt (ad g) (GrO mp x) :: G = L') ?_)) ?_
      ·rintro v L1 ⟨rfl, rfl⟩
       exact machOnYes (b := b) kr_ ((giveDone (b := q) (pb := pb) (k := x.pool) (p := T.1)).mono (by rintro v L' ⟨rfl, rfl⟩; exact ⟨by rw [hq], rfl⟩)) kr_ alEnd
      ·rintro v L' ⟨rfl, w, _, w2, _, w3, _, rfl⟩
       refine go ?_
       refine Ko rfl ?_ ⟨rfl, rfl⟩
       refine Et (Ek (a := ad b)) ?_
       refine Et (AlO.closeD (v := a.v) (rt := rtOf a.v.was) ⟨6, { a.v with cnt := a.v.cnt + 1 }, a.t, T.1, true⟩ rfl (cntW k1) rfl rfl rfl) (Ec ?_)
       exact Et Ent.swap (Ec (Ec hback))
    | false =>
      refine Sa rfl (machStep (b := b) kr_ (machGoes (b := b) kr_ hts
       (R2 := fun v L' => v = .tuple #[] ∧ L' = alB b (mth 232 b) (mth 208 q) (mth 188 q) (mth 209 b) g u slot gen n (IntKind.i64.wrap ((a.v.cnt : Int) + 1)) a.v (rtOf a.v.was) tp (zp q) :: pt (ad q) (GiveO pb x.pool T.1) :: pt (ad mp) (MemO T.2) :: pt (ad u) (SupO mp pb x S) :: pt (ad pb) (SkO mp x.pool) :: pt (ad g) (GrO mp x) :: G) ?_)) ?_
      ·rintro v L1 ⟨rfl, rfl⟩
       refine (machOnNo (b := b) kr_ ((giveDone (b := q) (pb := pb) (k := x.pool) (p := T.1)).mono (by rintro v L' ⟨rfl, rfl⟩; exact ⟨by rw [hq], rfl⟩))).mono ?_
       rintro v L' ⟨rfl, rfl⟩
       exact ⟨rfl, rfl⟩
      ·rintro v L' ⟨rfl, w, _, w2, _, rfl⟩
       refine go ?_
       refine Ko rfl ?_ ⟨rfl, rfl⟩
       refine Et (AlO.closeG (v := a.v) (rt := rtOf a.v.was) ⟨6, { a.v with cnt := a.v.cnt + 1 }, a.t, T.1, false⟩ rfl rfl (cntW k1) rfl rfl rfl) (Ec ?_)
       exact Et Ent.swap (Ec (Ec hback))
end
section
variable {L F G : St}
def allM (x : Cn) : Mm := fillM x.spare (poolM x)
theorem allM_len (x : Cn) : (allM x).ws.length = x.len := by unfold allM; rw [fillM_len, poolM_len]
theorem zeroM_at (x : Cn) (a : Nat) : (zeroM x).at_ a = 0 := by
 unfold zeroM Mm.at_
 rw [List.getD_eq_getElem?_getD, List.getElem?_replicate]
 split <;> rfl
theorem allM_at {x : Cn} (hx : x.ok) {a : Nat} (h0 : a ≠ 0) (h1 : a ≠ 1) (hs : ¬ (x.slot ≤ a ∧ a < x.slot + x.sl)) (hl : ¬ (x.link ≤ a ∧ a < x.link + x.c)) : (allM x).at_ a = 0 := by
 have hlen := hx.len_le
 unfold allM
 rw [(fill_pool (hx.spare (n := x.len) (Nat.le_refl _) hlen) (poolM_len x)).2 a h1 (fun j hj => by have : j < x.sl := hj; show a ≠ x.slot + j; omega)]
 unfold poolM
 rw [(fill_pool (hx.pool (n := x.len) (Nat.le_refl _) hlen) (zeroM_len x)).2 a h0 (fun j hj => by have : j < x.c := hj; show a ≠ x.link + j; omega)]
 exact zeroM_at x a
theorem allM_ok {x : Cn} (hx : x.ok) : (allM x).ok := by
 obtain ⟨b1, b2, b3, b4, b5, b6, b7⟩ := hx.b
 refine fillM_ok (fillM_ok (fun w hw => ?_) (by show x.c ≤ 4096; omega)) (by show x.sl ≤ 4096; omega)
 simp only [zeroM] at hw; rw [List.eq_of_mem_replicate hw]; omega
theorem allM_pool {x : Cn} (hx : x.ok) : Pool x.pool (allM x) (iotaI x.c) := by
 have hlen := hx.len_le
 have hsp := hx.spare (n := x.len) (Nat.le_refl _) hlen
 have h1 := (fill_pool (hx.pool (n := x.len) (Nat.le_refl _) hlen) (zeroM_len x)).1
 have h2 := (fill_pool hsp (poolM_len x)).2
 have g : x.slot + x.sl = x.link := by unfold Cn.slot Cn.link; omega
 have g3 : 3 ≤ x.slot := by unfold Cn.slot; omega
 unfold allM
 refine ⟨?_, h1.nd⟩
 rw [h2 _ (by show (0 : Nat) ≠ 1; omega) (fun j hj => by have : j < x.sl := hj; show 0 ≠ x.slot + j; omega)]
 refine h1.c.congr fun z hz => ?_
 have hz2 := h1.c.mem z hz
 rw [h2 _ (by show x.link + z.toNat ≠ 1; omega) (fun j hj => by have : j < x.sl := hj; show x.link + z.toNat ≠ x.slot + j; omega)]
 rfl
theorem allM_spare {x : Cn} (hx : x.ok) : Pool x.spare (allM x) (iotaI x.sl) := (fill_pool (hx.spare (n := x.len) (Nat.le_refl _) hx.len_le) (poolM_len x)).1
structure Hn where
 a : Nat
 mp : Nat
 ro : Nat
 sp : Nat
 g : Nat
 pb : Nat
 w : Nat
 rm : Nat
 rp : Nat
 rs : Nat
 re : Nat
def updQ (Q : Nat → Who) (i : Nat) (q : Who) : Nat → Who := fun j => if j = i then q else Q j
end
end
end Go.Proofs.YtflalhdofhobmaaGreat
