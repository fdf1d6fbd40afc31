/-
  Parts of the proof, merged: what the statement leans on.
-/
import Derived.Test.YtflalhdofhobmaaGreatZHhE
set_option linter.unusedVariables false
set_option linter.unusedSimpArgs false

namespace Go.Proofs.YtflalhdofhobmaaGreat
open Go
attribute [local irreducible] Sx Cx Rx Fx Krg Ksq Kbl Klp Kr
section
variable {L F G : St}
theorem refGiveNew {s w st lm rm rp rs re : Nat} {x : Cn} {l : List Int} {a : Option Addr} {n c : Nat} (hn : n = l.length) (hb : n ≤ 1000000) {F1 F2 F3 : St} [t1 : Take L (some ⟨s, 0, none⟩) (Blk 183 [.pointer (some ⟨w, 0, none⟩), .pointer (some ⟨st, 0, none⟩), .pointer (some ⟨lm, 0, none⟩)]) F1] [t2 : Take F1 (some ⟨w, 0, none⟩) (RWO x rm rp rs re) F2] [t3 : Take F2 (some ⟨rp, 0, none⟩) (RSkO rm x.pool) F3] [t4 : Take F3 a (Row 3 1 n c (ints l)) G] :
  Fx Tryz.prog 196 [.pointer (some ⟨s, 0, none⟩), .slice a n c] L (fun v L' => ∃ q, v = .pointer (some ⟨q, 0, none⟩) ∧ L' = pt (some ⟨q, 0, none⟩) (RGiveO rp (PushS.init l)) :: pt (some ⟨s, 0, none⟩) (Blk 183 [.pointer (some ⟨w, 0, none⟩), .pointer (some ⟨st, 0, none⟩), .pointer (some ⟨lm, 0, none⟩)]) :: pt (some ⟨w, 0, none⟩) (RWO x rm rp rs re) :: pt (some ⟨rp, 0, none⟩) (RSkO rm x.pool) :: G) := by
 subst hn
 refine Fx.mk Tryz.func196 k196 nb_ ?_
 dsimp only [c196, kG, kS, kH, kM, kN, kF, kL, envOf, Nat.reduceAdd]
 refine Cx.ent (Ent.trans (Ent.of t1.out) (Ent.cons (Ent.trans (Ent.of t2.out) (Ent.cons (Ent.trans (Ent.of t3.out) (Ent.cons (Ent.of t4.out))))))) ?_
 refine Cx.rowkey (a := a) fun hxl hc1 _ hkr => ?_
 have hk2 : l.length = 0 ∨ ∃ g, a = some ⟨g, 0, none⟩ := hkr.imp (fun h => h.2.1) id
 refine go ?_
 refine Sx.ca rfl (refPushNew (sb := rp) (rm := rm) (k := x.pool) (l := l) (Rd.any (a := a) hxl hk2) (by omega)) ?_
 rintro v L' ⟨p, rfl, rfl⟩
 refine go ?_
 refine Sx.apn rfl rfl (Rd.any (a := a) hxl hk2) (ones_ints _) (by simp [maxLen]; omega) (by omega) fun r2 c2 h4 => ?_
 refine go ?_
 refine Sx.bx rfl rfl fun q => ?_
 refine Sx.re [.pointer (some ⟨p, 0, none⟩), .slice r2 l.length c2, .bool (decide ((l.length : Int) = 0))] rfl ?_
 refine go ?_
 refine Kr.one (.inr rfl) rfl ?_ ⟨q, rfl, rfl⟩
 refine Ent.trans (M := pt (some ⟨q, 0, none⟩) (Blk 189 [.pointer (some ⟨p, 0, none⟩), .slice r2 l.length c2, .bool (decide ((l.length : Int) = 0))]) :: pt (some ⟨p, 0, none⟩) (RPushO rp (PushS.init l)) :: pt r2 (Row 3 1 l.length c2 (ints l)) :: _) (Ent.trans (Ent.cons (Ent.take (a := some ⟨p, 0, none⟩))) (Ent.cons (Ent.cons (Ent.take (a := r2))))) ?_
 refine Ent.trans (RGiveO.close (PushS.init l) rfl rfl ?_ rfl) (Ent.cons ?_)
 ·show decide _ = decide (l = [])
  exact decide_eq_decide.2 ⟨fun h => List.eq_nil_of_length_eq_zero (by omega), fun h => by rw [h]; rfl⟩
 ·exact ent
theorem refSpill {s w rm rp rs re : Nat} {x : Cn} {S : SupS} {F1 F2 : St} (hb : S.xs.length ≤ 1000000) (hm0 : 0 ≤ S.most) (hm2 : S.most ≤ 64) [t2 : Take L (some ⟨s, 0, none⟩) (RSupO w S) F1] [t3 : Take F1 (some ⟨w, 0, none⟩) (RWO x rm rp rs re) F2] [t4 : Take F2 (some ⟨rp, 0, none⟩) (RSkO rm x.pool) G] :
  Fx Tryz.prog 128 [.pointer (some ⟨s, 0, none⟩)] L (fun v L' => ∃ q, v = .pointer (some ⟨q, 0, none⟩) ∧ L' = pt (some ⟨q, 0, none⟩) (RGiveO rp (PushS.init (S.xs.take (overK S.most S.xs)))) :: pt (some ⟨s, 0, none⟩) (RSupO w { S with xs := S.xs.drop (overK S.most S.xs) }) :: F1) := by
 have hov : overK S.most S.xs ≤ S.xs.length := by unfold overK; omega
 have hback : Ent (pt (some ⟨w, 0, none⟩) (RWO x rm rp rs re) :: pt (some ⟨rp, 0, none⟩) (RSkO rm x.pool) :: G) F1 := Ent.trans (Ent.cons (Ent.of t4.back)) (Ent.of t3.back)
 refine Fx.mk Tryz.func128 k128 nb_ ?_
 dsimp only [c128, kG, kS, kH, kM, kN, kF, kL, envOf, Nat.reduceAdd]
 refine Cx.ent (Ent.trans (Ent.of t2.out) (Ent.cons (Ent.trans (Ent.of t3.out) (Ent.cons (Ent.of t4.out))))) ?_
 refine Cx.openp (a := some ⟨s, 0, none⟩) rfl ?_
 rintro ⟨st, lm⟩
 simp only [rsupL, List.cons_append, List.nil_append]
 refine go ?_
 refine Sx.ca rfl (refOver (b := st) (most := S.most) (xs := S.xs) (by omega) hm0 hm2) ?_
 rintro v L' ⟨a, c, rfl, rfl⟩
 refine go ?_
 refine Sx.ca rfl (refGiveNew (s := s) (w := w) (st := st) (lm := lm) (rm := rm) (rp := rp) (rs := rs) (re := re) (x := x) (l := S.xs.take (overK S.most S.xs)) (a := a) (by rw [List.length_take]; omega) (by omega)) ?_
 rintro v L' ⟨q, rfl, rfl⟩
 refine go ?_
 refine Kr.one (.inr rfl) rfl (Ent.cons ?_) ⟨q, rfl, rfl⟩
 refine Ent.trans (M := pt (some ⟨s, 0, none⟩) (Blk 183 [.pointer (some ⟨w, 0, none⟩), .pointer (some ⟨st, 0, none⟩), .pointer (some ⟨lm, 0, none⟩)]) :: pt (some ⟨st, 0, none⟩) (RefO S.most (S.xs.drop (overK S.most S.xs))) :: pt (some ⟨lm, 0, none⟩) (RLimboO S.lm) :: pt (some ⟨w, 0, none⟩) (RWO x rm rp rs re) :: pt (some ⟨rp, 0, none⟩) (RSkO rm x.pool) :: G) (by exact ent) ?_
 exact Ent.trans (RSupO.close (a := some ⟨s, 0, none⟩) (st := st) (lm := lm) (w := w) { S with xs := S.xs.drop (overK S.most S.xs) } rfl rfl rfl) (Ent.cons hback)
def ralGL (T : TypeId) (sa rp slot : Nat) (gen : Int) (n : Nat) (s : AlS) (a : Option Addr) (y : Value × Nat × Bool) : St :=
 [pt a (Blk T (ralV sa slot gen n 6 (s.v.cnt : Nat) s.v y.1 (.pointer (some ⟨y.2.1, 0, none⟩)) y.2.2 s.done)), pt (some ⟨y.2.1, 0, none⟩) (RGiveO rp s.g)]
def RAgT (T : TypeId) (sa rp slot : Nat) (gen : Int) (n : Nat) (s : AlS) (a : Option Addr) : As := bif Nat.beq s.at_ 6 then exs (ralGL T sa rp slot gen n s a) else RAlT T sa rp slot gen n s a
abbrev RAgO := RAgT 87
theorem RAgO.g_ {T : TypeId} {sa rp slot : Nat} {gen : Int} {n : Nat} {s : AlS} {a : Option Addr} (h : s.at_ = 6) : RAgT T sa rp slot gen n s a = exs (ralGL T sa rp slot gen n s a) := by unfold RAgT; rw [h]; rfl
theorem RAgO.r_ {T : TypeId} {sa rp slot : Nat} {gen : Int} {n : Nat} {s : AlS} {a : Option Addr} (h : s.at_ ≠ 6) : RAgT T sa rp slot gen n s a = RAlT T sa rp slot gen n s a := by
 unfold RAgT
 cases hb : Nat.beq s.at_ 6 with
 | true => exact absurd (Nat.eq_of_beq_eq_true hb) h
 | false => rfl
theorem RAgO.closeG {b sa rp slot at_ q : Nat} {gen : Int} {n : Nat} {cnt : Int} {v : AlV} {tp : Value} {dry d : Bool} {g : PushS} (s : AlS) (h : s.at_ = 6) (hd : d = s.done) (ha : at_ = 6) (hc : cnt = (s.v.cnt : Nat)) (hv : { v with cnt := s.v.cnt, ends := s.v.ends, asked := s.v.asked } = s.v) (hg : g = s.g) :
  Ent (ralB b sa slot gen n at_ cnt v tp (.pointer (some ⟨q, 0, none⟩)) dry d :: pt (some ⟨q, 0, none⟩) (RGiveO rp g) :: G) (pt (some ⟨b, 0, none⟩) (RAgO sa rp slot gen n s) :: G) := by
 subst hd ha hc hg
 obtain ⟨a1, v0, t0, g0, d0⟩ := s
 obtain ⟨c1, c2, c3, c4, c5, c6, c7, c8, c9, c10⟩ := v0
 obtain ⟨e1, e2, e3, e4, e5, e6, e7, e8, e9, e10⟩ := v
 dsimp only at hv
 cases hv
 exact Ent.close (f := ralGL 87 sa rp slot gen n _ (some ⟨b, 0, none⟩)) (RAgO.g_ h) (tp, q, dry)
theorem alClose_eq {x : Cn} {s : SupS} {v : AlV} {t : TakeS} {code : Nat} {o : Hd} (hnd : (s.xs ++ (if 0 ≤ v.hand then [v.hand] else [])).Nodup) (hr : ∀ y ∈ s.xs ++ (if 0 ≤ v.hand then [v.hand] else []), 0 ≤ y ∧ y < (x.c : Int)) {l : List Int} (hl : s.xs ++ (if 0 ≤ v.hand then [v.hand] else []) = l) :
  alClose x.pool s v t code o = ({ s with xs := l.drop (overK s.most l) }, ⟨6, { v with code := code, obj := o, point := v.cnt, ends := true, hand := -1 }, t, PushS.init (l.take (overK s.most l)), (PushS.init (l.take (overK s.most l))).done⟩) := by
 have e1 : (if 0 ≤ v.hand then s.give [v.hand] else s) = { s with xs := l } := by
  rw [← hl]; unfold SupS.give
  by_cases h : 0 ≤ v.hand
  ·rw [if_pos h, if_pos h]
  ·rw [if_neg h, if_neg h, List.append_nil]
 rw [hl] at hnd hr
 have htd := List.take_append_drop (overK s.most l) l
 have hgi : giveInit x.pool (l.take (overK s.most l)) = PushS.init (l.take (overK s.most l)) := giveInit_yes ⟨by rw [← htd] at hnd; exact (List.nodup_append.1 hnd).1, fun y hy => hr y (List.mem_of_mem_take hy)⟩
 unfold alClose
 rw [e1]
 simp only [hgi]
end
end Go.Proofs.YtflalhdofhobmaaGreat


namespace Go.Proofs.YtflalhdofhobmaaGreat
open Go
attribute [local irreducible] Sx Cx Rx Fx Krg Ksq Kbl Klp Kr
section
variable {L F G : St}
set_option maxHeartbeats 2000000 in
theorem refAgCloses {b sa w rm rp rs re slot at_ : Nat} {gen : Int} {n : Nat} {x : Cn} {S : SupS} {v : AlV} {tp gp : Value} {dry : Bool} {cnt : Int} {l : List Int} (t : TakeS) (hcnt : cnt = (v.cnt : Nat)) (hh : -1 ≤ v.hand) (hb : S.xs.length ≤ 99999) (hm0 : 0 ≤ S.most) (hm2 : S.most ≤ 64) (hl : S.xs ++ (if 0 ≤ v.hand then [v.hand] else []) = l) :
  Fx Tryz.prog 177 [.pointer (some ⟨b, 0, none⟩)] (ralB b sa slot gen n at_ cnt v tp gp dry false :: pt (some ⟨sa, 0, none⟩) (RSupO w S) :: pt (some ⟨w, 0, none⟩) (RWO x rm rp rs re) :: pt (some ⟨rp, 0, none⟩) (RSkO rm x.pool) :: G)
   (fun _ L' => L' = pt (some ⟨b, 0, none⟩) (RAgO sa rp slot gen n ⟨6, { v with ends := true, hand := -1 }, t, PushS.init (l.take (overK S.most l)), (PushS.init (l.take (overK S.most l))).done⟩) :: pt (some ⟨sa, 0, none⟩) (RSupO w { S with xs := l.drop (overK S.most l) }) :: pt (some ⟨w, 0, none⟩) (RWO x rm rp rs re) :: pt (some ⟨rp, 0, none⟩) (RSkO rm x.pool) :: G) := by
 subst hcnt
 obtain ⟨c1, hd, c3, c4, c5, c6, c7, c8, c9, c10⟩ := v
 dsimp only at hh hl
 refine Fx.mk Tryz.func177 k177 nb_ ?_
 dsimp only [c177, kG, kS, kH, kM, kN, kF, kL, envOf, Nat.reduceAdd]
 refine go ?_
 by_cases h0 : 0 ≤ hd
 ·rw [if_pos h0] at hl
  have hll : l.length ≤ 100000 := by rw [← hl]; simp; omega
  refine Cx.cyes rfl (decide_eq_true h0) ?_
  refine Cx.ent (Ent.take (a := some ⟨sa, 0, none⟩)) ?_
  refine Cx.openp (a := some ⟨sa, 0, none⟩) rfl ?_
  rintro ⟨st, lm⟩
  simp only [rsupL, List.cons_append, List.nil_append]
  refine go ?_
  refine Cx.ordc rfl kr_ ?_
  refine ge ?_
  refine Ev.bsH (sz := 1) (cs := [.int .i64 hd]) kr_ rfl rfl rfl (.dep rfl (.keep (fun v L' ⟨_, _, e⟩ => by subst e; exact Has.cell rfl) (.keep (fun v L' ⟨_, _, e⟩ => by subst e; exact Has.cell rfl) .nil))) fun q => ?_
  refine ge ?_
  refine Ev.caH kr_ rfl rfl (refGive (b := st) (ys := [hd]) (Rd.row (b := q) (E := 3) (cap := 1) rfl) (by omega)) (Pres.deps kr_) ?_
  rintro v L' ⟨rfl, rfl⟩
  refine ge ?_
  refine go ?_
  rw [hl]
  refine Sx.ent (RSupO.close (a := some ⟨sa, 0, none⟩) (st := st) (lm := lm) (w := w) { S with xs := l } rfl rfl rfl) ?_
  refine Sx.ca rfl (refSpill (s := sa) (w := w) (rm := rm) (rp := rp) (rs := rs) (re := re) (x := x) (S := { S with xs := l }) (by show l.length ≤ _; omega) hm0 hm2) ?_
  rintro v' L' ⟨q2, rfl, rfl⟩
  refine go ?_
  refine Sx.ent (Ent.take (a := some ⟨q2, 0, none⟩)) ?_
  refine Sx.openp (a := some ⟨q2, 0, none⟩) rfl ?_
  rintro ⟨pp, ra, ca⟩
  simp only [rgiveL, List.cons_append, List.nil_append]
  refine go ?_
  refine Kr.none (.inl rfl) ?_ rfl
  refine Ent.trans (M := ralB b sa slot gen n 6 (c1 : Nat) ⟨c1, -1, c3, c4, c5, c6, c7, c8, c9, c10⟩ tp (.pointer (some ⟨q2, 0, none⟩)) dry (PushS.init (l.take (overK S.most l))).done :: pt (some ⟨q2, 0, none⟩) (RGiveO rp (PushS.init (l.take (overK S.most l)))) :: pt (some ⟨sa, 0, none⟩) (RSupO w { S with xs := l.drop (overK S.most l) }) :: pt (some ⟨w, 0, none⟩) (RWO x rm rp rs re) :: pt (some ⟨rp, 0, none⟩) (RSkO rm x.pool) :: G) ?_
   (RAgO.closeG (sa := sa) (v := ⟨c1, -1, c3, c4, c5, c6, c7, c8, c9, c10⟩) ⟨6, ⟨c1, -1, c3, c4, true, c6, c7, c8, c9, c10⟩, t, PushS.init (l.take (overK S.most l)), (PushS.init (l.take (overK S.most l))).done⟩ rfl rfl rfl rfl rfl rfl)
  refine Ent.trans (Ent.trans (Ent.take (a := some ⟨q2, 0, none⟩)) (Ent.cons (Ent.trans (Ent.take (a := some ⟨pp, 0, none⟩)) (Ent.cons (Ent.take (a := ra)))))) ?_
  refine Ent.trans (RGiveO.close (PushS.init (l.take (overK S.most l))) rfl rfl rfl rfl) ?_
  exact ent
 ·rw [if_neg h0, List.append_nil] at hl
  have hll : l.length ≤ 100000 := by rw [← hl]; omega
  have hS : S = { S with xs := l } := by rw [← hl]
  obtain rfl : hd = -1 := by omega
  refine Cx.cno rfl (decide_eq_false h0) ?_
  refine go ?_
  refine Sx.ca rfl (refSpill (s := sa) (w := w) (rm := rm) (rp := rp) (rs := rs) (re := re) (x := x) (S := S) (by omega) hm0 hm2) ?_
  rw [hl]
  rintro v' L' ⟨q2, rfl, rfl⟩
  refine go ?_
  refine Sx.ent (Ent.take (a := some ⟨q2, 0, none⟩)) ?_
  refine Sx.openp (a := some ⟨q2, 0, none⟩) rfl ?_
  rintro ⟨pp, ra, ca⟩
  simp only [rgiveL, List.cons_append, List.nil_append]
  refine go ?_
  refine Kr.none (.inl rfl) ?_ rfl
  refine Ent.trans (M := ralB b sa slot gen n 6 (c1 : Nat) ⟨c1, -1, c3, c4, c5, c6, c7, c8, c9, c10⟩ tp (.pointer (some ⟨q2, 0, none⟩)) dry (PushS.init (l.take (overK S.most l))).done :: pt (some ⟨q2, 0, none⟩) (RGiveO rp (PushS.init (l.take (overK S.most l)))) :: pt (some ⟨sa, 0, none⟩) (RSupO w { S with xs := l.drop (overK S.most l) }) :: pt (some ⟨w, 0, none⟩) (RWO x rm rp rs re) :: pt (some ⟨rp, 0, none⟩) (RSkO rm x.pool) :: G) ?_
   (RAgO.closeG (sa := sa) (v := ⟨c1, -1, c3, c4, c5, c6, c7, c8, c9, c10⟩) ⟨6, ⟨c1, -1, c3, c4, true, c6, c7, c8, c9, c10⟩, t, PushS.init (l.take (overK S.most l)), (PushS.init (l.take (overK S.most l))).done⟩ rfl rfl rfl rfl rfl rfl)
  refine Ent.trans (Ent.trans (Ent.take (a := some ⟨q2, 0, none⟩)) (Ent.cons (Ent.trans (Ent.take (a := some ⟨pp, 0, none⟩)) (Ent.cons (Ent.take (a := ra)))))) ?_
  refine Ent.trans (RGiveO.close (PushS.init (l.take (overK S.most l))) rfl rfl rfl rfl) ?_
  exact ent
theorem refAgFine {b sa w rm rp rs re slot at_ : Nat} {gen : Int} {n : Nat} {x : Cn} {S : SupS} {v : AlV} {tp gp : Value} {dry : Bool} {cnt : Int} (t : TakeS) (ch off : Int) (hcnt : cnt = (v.cnt : Nat)) (hh : -1 ≤ v.hand) (hco : v.code = 0) (hb : S.xs.length ≤ 99999) (hm0 : 0 ≤ S.most) (hm2 : S.most ≤ 64)
  (hnd : (S.xs ++ (if 0 ≤ v.hand then [v.hand] else [])).Nodup) (hr : ∀ y ∈ S.xs ++ (if 0 ≤ v.hand then [v.hand] else []), 0 ≤ y ∧ y < (x.c : Int)) :
  Fx Tryz.prog 107 [.pointer (some ⟨b, 0, none⟩), .int .i64 ch, .int .i64 off] (ralB b sa slot gen n at_ cnt v tp gp dry false :: pt (some ⟨sa, 0, none⟩) (RSupO w S) :: pt (some ⟨w, 0, none⟩) (RWO x rm rp rs re) :: pt (some ⟨rp, 0, none⟩) (RSkO rm x.pool) :: G)
   (fun _ L' => L' = pt (some ⟨b, 0, none⟩) (RAgO sa rp slot gen n (alClose x.pool S v t 0 ⟨slot, gen, ch, off, n⟩).2) :: pt (some ⟨sa, 0, none⟩) (RSupO w (alClose x.pool S v t 0 ⟨slot, gen, ch, off, n⟩).1) :: pt (some ⟨w, 0, none⟩) (RWO x rm rp rs re) :: pt (some ⟨rp, 0, none⟩) (RSkO rm x.pool) :: G) := by
 rw [alClose_eq hnd hr rfl]
 subst hcnt
 obtain ⟨c1, hd, c3, c4, c5, c6, c7, c8, c9, c10⟩ := v
 dsimp only at hh hco
 subst hco
 refine Fx.mk Tryz.func107 k107 nb_ ?_
 dsimp only [c107, kG, kS, kH, kM, kN, kF, kL, envOf, Nat.reduceAdd]
 refine Cx.sq ?_
 refine Cx.ordc rfl kr_ ?_
 refine ge ?_
 refine Ev.stnH (b := b) (ralV sa slot gen n at_ (c1 : Nat) ⟨c1, hd, c3, c4, c5, c6, c7, c8, 0, ⟨slot, gen, ch, off, n⟩⟩ tp gp dry false) kr_ rfl rfl rfl rfl rfl rfl rfl rfl (Pres.deps kr_) ?_
 refine ge ?_
 refine Ev.stbH (b := b) kr_ rfl rfl rfl rfl rfl (by rfl) rfl (Pres.deps kr_) ?_
 refine ge ?_
 refine go ?_
 refine Sx.ca rfl (refAgCloses (b := b) (sa := sa) (w := w) (rm := rm) (rp := rp) (rs := rs) (re := re) (slot := slot) (at_ := at_) (gen := gen) (n := n) (x := x) (S := S) (v := ⟨c1, hd, c3, c4, c5, c6, c1, c8, 0, ⟨slot, gen, ch, off, n⟩⟩) (tp := tp) (gp := gp) (dry := dry) t (by rfl) hh hb hm0 hm2 rfl) ?_
 rintro v' L' rfl
 refine go ?_
 exact Kr.none (.inl rfl) (Ent.refl _) rfl
theorem RAgO.fun_ {T : TypeId} {sa rp slot : Nat} {gen : Int} {n : Nat} {s : AlS} (h : s.at_ ≠ 6) : RAgT T sa rp slot gen n s = RAlT T sa rp slot gen n s := funext fun _ => RAgO.r_ h
theorem refAgTaken {b sa rp slot at_ q : Nat} {gen : Int} {n : Nat} {v : AlV} {gp : Value} {t : TakeS} {cnt : Int} (hcnt : cnt = (v.cnt : Nat)) (hd : t.done = true) (hask : v.asked = true) (hz : v.zat = 0) (hh : v.hand = -1) (hch : t.is_ = true → 0 ≤ t.chunk) :
  Fx Tryz.prog 109 [.pointer (some ⟨b, 0, none⟩)] (ralB b sa slot gen n at_ cnt v (.pointer (some ⟨q, 0, none⟩)) gp false false :: pt (some ⟨q, 0, none⟩) (RTakeO sa rp t) :: G)
   (fun _ L' => L' = pt (some ⟨b, 0, none⟩) (RAgO sa rp slot gen n (alTaken v t)) :: G) := by
 have h6 : (alTaken v t).at_ ≠ 6 := by
  unfold alTaken
  split
  ·intro h; cases h
  ·intro h; cases h
 rw [show RAgO sa rp slot gen n (alTaken v t) = RAlO sa rp slot gen n (alTaken v t) from RAgO.fun_ h6]
 exact refAlTaken hcnt hd hask hz hh hch
end
end Go.Proofs.YtflalhdofhobmaaGreat


namespace Go.Proofs.YtflalhdofhobmaaGreat
open Go
attribute [local irreducible] Sx Cx Rx Fx Krg Ksq Kbl Klp Kr
section
variable {L F G : St}
theorem takeInit_kept {ba : Int} {s : SupS} (h : (takeInit ba s).2.done = true) : (takeInit ba s).2.chunk ∈ s.xs := by
 unfold takeInit keepT at h ⊢
 by_cases hx : s.xs = []
 ·rw [if_pos hx] at h
  simp only at h
  split at h <;> cases h
 ·rw [if_neg hx]
  exact lastI_mem hx
set_option maxHeartbeats 2000000 in
theorem refAgSeen {b sa w rm rp rs re slot : Nat} {gen : Int} {n : Nat} {x : Cn} {S : SupS} {v : AlV} {tp gp : Value} {dry : Bool} {cnt : Int} (t : TakeS) (hcnt : cnt = (v.cnt : Nat)) (hx : x.ok) (hn : 1 ≤ n) (hn2 : n ≤ x.wd) (hw8 : x.wd % 8 = 0) (hok : (rtOf v.was).ok) (hh : -1 ≤ v.hand) (hz : v.hand < 0 → v.zat = 0) (hdry : v.hand < 0 → dry = v.asked) (hco : v.code = 0) (hob : v.obj = Hd.zero) (hb : S.xs.length + S.lm.size ≤ 99999) (hm0 : 0 ≤ S.most) (hm2 : S.most ≤ 64)
  (hnd : (S.xs ++ (if 0 ≤ v.hand then [v.hand] else [])).Nodup) (hr : ∀ y ∈ S.xs ++ (if 0 ≤ v.hand then [v.hand] else []), 0 ≤ y ∧ y < (x.c : Int)) :
  Fx Tryz.prog 106 [.pointer (some ⟨b, 0, none⟩)] (ralB b sa slot gen n 0 cnt v tp gp dry false :: pt (some ⟨sa, 0, none⟩) (RSupO w S) :: pt (some ⟨w, 0, none⟩) (RWO x rm rp rs re) :: pt (some ⟨rp, 0, none⟩) (RSkO rm x.pool) :: G)
   (fun _ L' => L' = pt (some ⟨b, 0, none⟩) (RAgO sa rp slot gen n (alSeen (x.al slot gen n) S v t).2) :: pt (some ⟨sa, 0, none⟩) (RSupO w (alSeen (x.al slot gen n) S v t).1) :: pt (some ⟨w, 0, none⟩) (RWO x rm rp rs re) :: pt (some ⟨rp, 0, none⟩) (RSkO rm x.pool) :: G) := by
 subst hcnt
 obtain ⟨b1, b2, b3, b4, b5, b6, b7⟩ := hx.b
 have hwl := rt_was_lt hok
 refine Fx.mk Tryz.func106 k106 nb_ ?_
 dsimp only [c106, kG, kS, kH, kM, kN, kF, kL, envOf, Nat.reduceAdd]
 refine go ?_
 refine Sx.ca rfl (refGetRoot v.was hwl) ?_
 rintro v' L' ⟨rfl, rfl⟩
 refine Sx.al fun o => ?_
 refine Sx.st (b := o) rfl rfl rfl rfl rfl rfl ?_
 refine Sx.re (rtL (rtOf v.was)) rfl ?_
 refine go ?_
 refine Cx.ordc rfl kr_ ?_
 refine ge ?_
 refine Ev.cakH kr_ rfl rfl (refLive (rtOf v.was) gen) ?_
 refine ge ?_
 by_cases hlive : (rtOf v.was).live gen
 case neg =>
  have e : alSeen (x.al slot gen n) S v t = alClose x.pool S v t 3 Hd.zero := by unfold alSeen; rw [if_neg hlive]
  rw [e, alClose_eq hnd hr rfl, decide_eq_false hlive]
  refine go ?_
  refine Sx.ent (Ent.take (a := some ⟨b, 0, none⟩)) ?_
  refine Sx.ent (M := ralB b sa slot gen n 0 (v.cnt : Nat) { v with code := 3, point := v.cnt } tp gp dry false :: pt (some ⟨sa, 0, none⟩) (RSupO w S) :: pt (some ⟨w, 0, none⟩) (RWO x rm rp rs re) :: pt (some ⟨rp, 0, none⟩) (RSkO rm x.pool) :: G) (Ent.cons (by exact ent)) ?_
  refine Sx.ca rfl (refAgCloses (b := b) (sa := sa) (w := w) (rm := rm) (rp := rp) (rs := rs) (re := re) (slot := slot) (at_ := 0) (gen := gen) (n := n) (x := x) (S := S) (v := { v with code := 3, point := v.cnt }) (tp := tp) (gp := gp) (dry := dry) t rfl hh (by omega) hm0 hm2 rfl) ?_
  rintro v' L' rfl
  refine go ?_
  refine Kr.none (.inr rfl) ?_ rfl
  rw [← hob]
  exact Ent.refl _
 case pos =>
  rw [decide_eq_true hlive]
  refine go ?_
  refine Cx.ordc rfl kr_ ?_
  refine ge ?_
  have hrl := roundS_le hok.c hn2 hw8
  have hrg := roundS_ge (n := n) hok.c
  refine Ev.cakH kr_ rfl rfl (refRound (rtOf v.was).cl n hok.c hn (by omega)) ?_
  obtain ⟨need, hneed⟩ : ∃ need, roundS (rtOf v.was).cl n = need := ⟨_, rfl⟩
  rw [hneed] at hrl hrg ⊢
  refine ge ?_
  refine Ev.stbH (b := b) kr_ rfl rfl rfl rfl rfl (by rfl) rfl (Pres.deps kr_) ?_
  refine ge ?_
  refine go ?_
  have hmk := rtOf_mrk v.was
  have hofs := rtOf_off v.was
  have e0 : alSeen (x.al slot gen n) S v t = (if 2 ≤ (rtOf v.was).mrk ∧ fitsS x.wd (rtOf v.was).off need then (S, ⟨1, { v with need := need }, t, gNone, false⟩)
    else if 0 ≤ v.hand then (S, ⟨4, { v with need := need }, t, gNone, false⟩)
    else if v.asked then alClose x.pool S { v with need := need } t 6 Hd.zero
    else if (takeInit x.ba S).2.done then ((takeInit x.ba S).1, alTaken { v with need := need, asked := true } (takeInit x.ba S).2)
    else ((takeInit x.ba S).1, ⟨2, { v with need := need, asked := true }, (takeInit x.ba S).2, gNone, false⟩)) := by
   unfold alSeen; rw [if_pos hlive]; dsimp only; rw [hneed]
  refine Cx.ent (Ent.take (a := some ⟨sa, 0, none⟩)) ?_
  refine Cx.openp (a := some ⟨sa, 0, none⟩) rfl ?_
  rintro ⟨st, lm⟩
  simp only [rsupL, List.cons_append, List.nil_append]
  refine Cx.ordc rfl kr_ ?_
  refine ge ?_
  by_cases hm2' : 2 ≤ (rtOf v.was).mrk
  ·refine Ev.yes 61 rfl (decide_eq_true (by omega)) ?_
   refine ge ?_
   refine Ev.cakH kr_ rfl rfl (refFits2 x.wd (rtOf v.was).off need (by omega) (by omega) (by omega) hrl (by omega)) ?_
   refine ge ?_
   by_cases hf : fitsS x.wd (rtOf v.was).off need
   ·rw [e0, if_pos ⟨hm2', hf⟩, decide_eq_true hf]
    refine go ?_
    refine Kr.none (.inl rfl) ?_ rfl
    refine Ent.trans (RSupO.close (a := some ⟨sa, 0, none⟩) (st := st) (lm := lm) (w := w) S rfl rfl rfl) ?_
    refine Ent.trans (Ent.take (a := some ⟨b, 0, none⟩)) ?_
    dsimp only
    rw [show RAgO sa rp slot gen n ⟨1, { v with need := need }, t, gNone, false⟩ = RAlO sa rp slot gen n ⟨1, { v with need := need }, t, gNone, false⟩ from RAgO.fun_ (by show 1 ≠ 6; omega)]
    refine Ent.trans (RAlO.closeS (rp := rp) (v := { v with need := need }) ⟨1, { v with need := need }, t, gNone, false⟩ (.inr (by show 1 ≠ 2; omega)) rfl rfl rfl rfl (fun _ hneg => hdry hneg)) (Ent.cons ?_)
    exact ent
   rw [if_neg (fun h => hf h.2)] at e0
   rw [decide_eq_false hf]
   refine go ?_
   by_cases h0 : 0 ≤ v.hand
   ·rw [e0, if_pos h0]
    refine Cx.cyes rfl (decide_eq_true h0) ?_
    refine go ?_
    refine Kr.none (.inl rfl) ?_ rfl
    refine Ent.trans (RSupO.close (a := some ⟨sa, 0, none⟩) (st := st) (lm := lm) (w := w) S rfl rfl rfl) ?_
    refine Ent.trans (Ent.take (a := some ⟨b, 0, none⟩)) ?_
    dsimp only
    rw [show RAgO sa rp slot gen n ⟨4, { v with need := need }, t, gNone, false⟩ = RAlO sa rp slot gen n ⟨4, { v with need := need }, t, gNone, false⟩ from RAgO.fun_ (by show 4 ≠ 6; omega)]
    refine Ent.trans (RAlO.closeS (rp := rp) (v := { v with need := need }) ⟨4, { v with need := need }, t, gNone, false⟩ (.inr (by show 4 ≠ 2; omega)) rfl rfl rfl rfl (fun h => absurd (show 4 ≤ 1 from h) (by omega))) (Ent.cons ?_)
    exact ent
   rw [if_neg h0] at e0
   have hhm : v.hand = -1 := by omega
   obtain rfl := hdry (by omega)
   refine Cx.cno rfl (decide_eq_false h0) ?_
   refine go ?_
   cases hask : v.asked with
   | true =>
     rw [hask] at e0
     simp only [if_true] at e0
     rw [alClose_eq (v := { v with need := need, asked := true }) hnd hr rfl] at e0
     rw [e0]
     refine go ?_
     refine Sx.ent (RSupO.close (a := some ⟨sa, 0, none⟩) (st := st) (lm := lm) (w := w) S rfl rfl rfl) ?_
     refine Sx.ent (Ent.take (a := some ⟨b, 0, none⟩)) ?_
     refine Sx.ent (M := ralB b sa slot gen n 0 (v.cnt : Nat) { v with need := need, asked := true, code := 6, point := v.cnt } tp gp true false :: pt (some ⟨sa, 0, none⟩) (RSupO w S) :: pt (some ⟨w, 0, none⟩) (RWO x rm rp rs re) :: pt (some ⟨rp, 0, none⟩) (RSkO rm x.pool) :: G) (Ent.cons (by exact ent)) ?_
     refine Sx.ca rfl (refAgCloses (b := b) (sa := sa) (w := w) (rm := rm) (rp := rp) (rs := rs) (re := re) (slot := slot) (at_ := 0) (gen := gen) (n := n) (x := x) (S := S) (v := { v with need := need, asked := true, code := 6, point := v.cnt }) (tp := tp) (gp := gp) (dry := true) t rfl hh (by omega) hm0 hm2 rfl) ?_
     rintro v' L' rfl
     refine go ?_
     refine Kr.none (.inl rfl) ?_ rfl
     rw [← hob]
     exact Ent.refl _
   | false =>
     rw [hask] at e0
     simp only [Bool.false_eq_true, if_false] at e0
     have hkept := takeInit_kept (ba := x.ba) (s := S)
     obtain ⟨⟨S1, T1⟩, hT1⟩ : ∃ R, takeInit x.ba S = R := ⟨_, rfl⟩
     rw [hT1] at e0 hkept
     dsimp only at e0 hkept
     refine go ?_
     refine Sx.ent (RSupO.close (a := some ⟨sa, 0, none⟩) (st := st) (lm := lm) (w := w) S rfl rfl rfl) ?_
     refine Sx.ca rfl (refTakeNew (s := sa) (w := w) (rm := rm) (rp := rp) (rs := rs) (re := re) (x := x) (S := S) hx (by omega)) ?_
     rw [hT1]
     dsimp only
     rintro v' L' ⟨q, rfl, rfl⟩
     cases hd1 : T1.done with
     | true =>
       rw [hd1] at e0
       simp only [if_true] at e0
       rw [e0]
       refine go ?_
       refine Sx.ent (Ent.take (a := some ⟨q, 0, none⟩)) ?_
       refine Sx.openp (a := some ⟨q, 0, none⟩) (RTakeO.d hd1) ?_
       rintro ⟨nn, pp⟩
       simp only [rtakeDL, List.cons_append, List.nil_append]
       refine go ?_
       refine Sx.ent (Ent.trans (Ent.take (a := some ⟨q, 0, none⟩)) (RTakeO.closeD (b := q) (s := sa) (rp := rp) T1 hd1 rfl rfl)) ?_
       refine Sx.ent (Ent.take (a := some ⟨b, 0, none⟩)) ?_
       refine Sx.ca rfl (refAgTaken (b := b) (sa := sa) (rp := rp) (slot := slot) (at_ := 2) (q := q) (gen := gen) (n := n) (v := { v with need := need, asked := true }) (gp := gp) (t := T1) rfl hd1 rfl (hz (by omega)) hhm (fun _ => (hr _ (List.mem_append_left _ (hkept hd1))).1)) ?_
       rintro v' L' rfl
       refine go ?_
       refine Kr.none (.inl rfl) (Ent.cons ?_) rfl
       exact ent
     | false =>
       rw [hd1] at e0
       simp only [Bool.false_eq_true, if_false] at e0
       rw [e0]
       have e6 : RAgO sa rp slot gen n ⟨2, { v with need := need, asked := true }, T1, gNone, false⟩ = RAlO sa rp slot gen n ⟨2, { v with need := need, asked := true }, T1, gNone, false⟩ := RAgO.fun_ (by show 2 ≠ 6; omega)
       dsimp only
       rw [e6]
       refine go ?_
       refine Sx.ent (Ent.take (a := some ⟨q, 0, none⟩)) ?_
       by_cases ha0 : T1.at_ = 0
       ·refine Sx.openp (a := some ⟨q, 0, none⟩) (RTakeO.l hd1 ha0) ?_
        intro p
        simp only [rtakeLL, List.cons_append, List.nil_append]
        refine go ?_
        refine Kr.none (.inl rfl) ?_ rfl
        refine Ent.trans (Ent.take (a := some ⟨q, 0, none⟩)) ?_
        refine Ent.trans (RTakeO.closeL (b := q) (s := sa) (rp := rp) T1 hd1 ha0 rfl) ?_
        refine Ent.trans (Ent.cons (Ent.take (a := some ⟨b, 0, none⟩))) ?_
        refine Ent.trans Ent.swap ?_
        refine Ent.trans (RAlO.closeT (rp := rp) (q := q) (v := { v with need := need }) ⟨2, { v with need := need, asked := true }, T1, gNone, false⟩ rfl rfl rfl rfl rfl) (Ent.cons ?_)
        exact ent
       ·refine Sx.openp (a := some ⟨q, 0, none⟩) (RTakeO.p hd1 ha0) ?_
        intro p
        simp only [rtakePL, List.cons_append, List.nil_append]
        refine go ?_
        refine Kr.none (.inl rfl) ?_ rfl
        refine Ent.trans (Ent.take (a := some ⟨q, 0, none⟩)) ?_
        refine Ent.trans (Ent.cons (Ent.take (a := some ⟨p, 0, none⟩))) ?_
        refine Ent.trans (RTakeO.closeP (b := q) (s := sa) (rp := rp) (p := p) T1 hd1 ha0 rfl rfl) ?_
        refine Ent.trans (Ent.cons (Ent.take (a := some ⟨b, 0, none⟩))) ?_
        refine Ent.trans Ent.swap ?_
        refine Ent.trans (RAlO.closeT (rp := rp) (q := q) (v := { v with need := need }) ⟨2, { v with need := need, asked := true }, T1, gNone, false⟩ rfl rfl rfl rfl rfl) (Ent.cons ?_)
        exact ent
  ·refine Ev.no 61 rfl (decide_eq_false (by omega)) ?_
   refine ge ?_
   rw [if_neg (fun h => hm2' h.1)] at e0
   refine go ?_
   by_cases h0 : 0 ≤ v.hand
   ·rw [e0, if_pos h0]
    refine Cx.cyes rfl (decide_eq_true h0) ?_
    refine go ?_
    refine Kr.none (.inl rfl) ?_ rfl
    refine Ent.trans (RSupO.close (a := some ⟨sa, 0, none⟩) (st := st) (lm := lm) (w := w) S rfl rfl rfl) ?_
    refine Ent.trans (Ent.take (a := some ⟨b, 0, none⟩)) ?_
    dsimp only
    rw [show RAgO sa rp slot gen n ⟨4, { v with need := need }, t, gNone, false⟩ = RAlO sa rp slot gen n ⟨4, { v with need := need }, t, gNone, false⟩ from RAgO.fun_ (by show 4 ≠ 6; omega)]
    refine Ent.trans (RAlO.closeS (rp := rp) (v := { v with need := need }) ⟨4, { v with need := need }, t, gNone, false⟩ (.inr (by show 4 ≠ 2; omega)) rfl rfl rfl rfl (fun h => absurd (show 4 ≤ 1 from h) (by omega))) (Ent.cons ?_)
    exact ent
   rw [if_neg h0] at e0
   have hhm : v.hand = -1 := by omega
   obtain rfl := hdry (by omega)
   refine Cx.cno rfl (decide_eq_false h0) ?_
   refine go ?_
   cases hask : v.asked with
   | true =>
     rw [hask] at e0
     simp only [if_true] at e0
     rw [alClose_eq (v := { v with need := need, asked := true }) hnd hr rfl] at e0
     rw [e0]
     refine go ?_
     refine Sx.ent (RSupO.close (a := some ⟨sa, 0, none⟩) (st := st) (lm := lm) (w := w) S rfl rfl rfl) ?_
     refine Sx.ent (Ent.take (a := some ⟨b, 0, none⟩)) ?_
     refine Sx.ent (M := ralB b sa slot gen n 0 (v.cnt : Nat) { v with need := need, asked := true, code := 6, point := v.cnt } tp gp true false :: pt (some ⟨sa, 0, none⟩) (RSupO w S) :: pt (some ⟨w, 0, none⟩) (RWO x rm rp rs re) :: pt (some ⟨rp, 0, none⟩) (RSkO rm x.pool) :: G) (Ent.cons (by exact ent)) ?_
     refine Sx.ca rfl (refAgCloses (b := b) (sa := sa) (w := w) (rm := rm) (rp := rp) (rs := rs) (re := re) (slot := slot) (at_ := 0) (gen := gen) (n := n) (x := x) (S := S) (v := { v with need := need, asked := true, code := 6, point := v.cnt }) (tp := tp) (gp := gp) (dry := true) t rfl hh (by omega) hm0 hm2 rfl) ?_
     rintro v' L' rfl
     refine go ?_
     refine Kr.none (.inl rfl) ?_ rfl
     rw [← hob]
     exact Ent.refl _
   | false =>
     rw [hask] at e0
     simp only [Bool.false_eq_true, if_false] at e0
     have hkept := takeInit_kept (ba := x.ba) (s := S)
     obtain ⟨⟨S1, T1⟩, hT1⟩ : ∃ R, takeInit x.ba S = R := ⟨_, rfl⟩
     rw [hT1] at e0 hkept
     dsimp only at e0 hkept
     refine go ?_
     refine Sx.ent (RSupO.close (a := some ⟨sa, 0, none⟩) (st := st) (lm := lm) (w := w) S rfl rfl rfl) ?_
     refine Sx.ca rfl (refTakeNew (s := sa) (w := w) (rm := rm) (rp := rp) (rs := rs) (re := re) (x := x) (S := S) hx (by omega)) ?_
     rw [hT1]
     dsimp only
     rintro v' L' ⟨q, rfl, rfl⟩
     cases hd1 : T1.done with
     | true =>
       rw [hd1] at e0
       simp only [if_true] at e0
       rw [e0]
       refine go ?_
       refine Sx.ent (Ent.take (a := some ⟨q, 0, none⟩)) ?_
       refine Sx.openp (a := some ⟨q, 0, none⟩) (RTakeO.d hd1) ?_
       rintro ⟨nn, pp⟩
       simp only [rtakeDL, List.cons_append, List.nil_append]
       refine go ?_
       refine Sx.ent (Ent.trans (Ent.take (a := some ⟨q, 0, none⟩)) (RTakeO.closeD (b := q) (s := sa) (rp := rp) T1 hd1 rfl rfl)) ?_
       refine Sx.ent (Ent.take (a := some ⟨b, 0, none⟩)) ?_
       refine Sx.ca rfl (refAgTaken (b := b) (sa := sa) (rp := rp) (slot := slot) (at_ := 2) (q := q) (gen := gen) (n := n) (v := { v with need := need, asked := true }) (gp := gp) (t := T1) rfl hd1 rfl (hz (by omega)) hhm (fun _ => (hr _ (List.mem_append_left _ (hkept hd1))).1)) ?_
       rintro v' L' rfl
       refine go ?_
       refine Kr.none (.inl rfl) (Ent.cons ?_) rfl
       exact ent
     | false =>
       rw [hd1] at e0
       simp only [Bool.false_eq_true, if_false] at e0
       rw [e0]
       have e6 : RAgO sa rp slot gen n ⟨2, { v with need := need, asked := true }, T1, gNone, false⟩ = RAlO sa rp slot gen n ⟨2, { v with need := need, asked := true }, T1, gNone, false⟩ := RAgO.fun_ (by show 2 ≠ 6; omega)
       dsimp only
       rw [e6]
       refine go ?_
       refine Sx.ent (Ent.take (a := some ⟨q, 0, none⟩)) ?_
       by_cases ha0 : T1.at_ = 0
       ·refine Sx.openp (a := some ⟨q, 0, none⟩) (RTakeO.l hd1 ha0) ?_
        intro p
        simp only [rtakeLL, List.cons_append, List.nil_append]
        refine go ?_
        refine Kr.none (.inl rfl) ?_ rfl
        refine Ent.trans (Ent.take (a := some ⟨q, 0, none⟩)) ?_
        refine Ent.trans (RTakeO.closeL (b := q) (s := sa) (rp := rp) T1 hd1 ha0 rfl) ?_
        refine Ent.trans (Ent.cons (Ent.take (a := some ⟨b, 0, none⟩))) ?_
        refine Ent.trans Ent.swap ?_
        refine Ent.trans (RAlO.closeT (rp := rp) (q := q) (v := { v with need := need }) ⟨2, { v with need := need, asked := true }, T1, gNone, false⟩ rfl rfl rfl rfl rfl) (Ent.cons ?_)
        exact ent
       ·refine Sx.openp (a := some ⟨q, 0, none⟩) (RTakeO.p hd1 ha0) ?_
        intro p
        simp only [rtakePL, List.cons_append, List.nil_append]
        refine go ?_
        refine Kr.none (.inl rfl) ?_ rfl
        refine Ent.trans (Ent.take (a := some ⟨q, 0, none⟩)) ?_
        refine Ent.trans (Ent.cons (Ent.take (a := some ⟨p, 0, none⟩))) ?_
        refine Ent.trans (RTakeO.closeP (b := q) (s := sa) (rp := rp) (p := p) T1 hd1 ha0 rfl rfl) ?_
        refine Ent.trans (Ent.cons (Ent.take (a := some ⟨b, 0, none⟩))) ?_
        refine Ent.trans Ent.swap ?_
        refine Ent.trans (RAlO.closeT (rp := rp) (q := q) (v := { v with need := need }) ⟨2, { v with need := need, asked := true }, T1, gNone, false⟩ rfl rfl rfl rfl rfl) (Ent.cons ?_)
        exact ent
end
end Go.Proofs.YtflalhdofhobmaaGreat


namespace Go.Proofs.YtflalhdofhobmaaGreat
open Go
attribute [local irreducible] Sx Cx Rx Fx Krg Ksq Kbl Klp Kr
structure RefA (x : Cn) (S : SupS) (a : AlS) : Prop where
 code : a.at_ ≠ 6 → a.v.code = 0
 obj : a.at_ ≠ 6 → a.v.obj = Hd.zero
 z : a.at_ ≠ 6 → a.v.hand < 0 → a.v.zat = 0
 tk : a.at_ = 2 → a.v.asked = true ∧ a.v.hand = -1 ∧ a.t.q.ok x.pool ∧ a.t.at_ = 1 ∧ a.t.done = false ∧ a.t.is_ = false
 gv : a.at_ = 6 → a.g.ok x.pool ∧ a.g.l.length ≤ 1000000
 nd : a.at_ ≠ 6 → (S.xs ++ (if 0 ≤ a.v.hand then [a.v.hand] else [])).Nodup
 rg : a.at_ ≠ 6 → ∀ y ∈ S.xs ++ (if 0 ≤ a.v.hand then [a.v.hand] else []), 0 ≤ y ∧ y < (x.c : Int)
section
variable {L F G : St}
theorem RAgO.closeS {b sa rp slot at_ : Nat} {gen : Int} {n : Nat} {cnt : Int} {v : AlV} {tp gp : Value} {dry d : Bool} (s : AlS) (h : s.done = true ∨ s.at_ ≠ 2) (hd : d = s.done) (ha : at_ = s.at_) (hc : cnt = (s.v.cnt : Nat)) (hv : { v with cnt := s.v.cnt, ends := s.v.ends, asked := s.v.asked } = s.v) (hdr : dryOk s dry) (h6 : s.at_ ≠ 6 := by intro h; cases h) :
  Ent (ralB b sa slot gen n at_ cnt v tp gp dry d :: G) (pt (some ⟨b, 0, none⟩) (RAgO sa rp slot gen n s) :: G) := by
 rw [show RAgO sa rp slot gen n s = RAlO sa rp slot gen n s from RAgO.fun_ h6]
 exact RAlO.closeS s h hd ha hc hv hdr
theorem RAgO.closeT {b sa rp slot q : Nat} {gen : Int} {n : Nat} {cnt : Int} {v : AlV} {gp : Value} {t : TakeS} (s : AlS) (h : s.done = false) (ha : s.at_ = 2) (hc : cnt = (s.v.cnt : Nat)) (hv : { v with cnt := s.v.cnt, ends := s.v.ends, asked := s.v.asked } = s.v) (ht : t = s.t) :
  Ent (ralB b sa slot gen n 2 cnt v (.pointer (some ⟨q, 0, none⟩)) gp false false :: pt (some ⟨q, 0, none⟩) (RTakeO sa rp t) :: G) (pt (some ⟨b, 0, none⟩) (RAgO sa rp slot gen n s) :: G) := by
 rw [show RAgO sa rp slot gen n s = RAlO sa rp slot gen n s from RAgO.fun_ (by omega)]
 exact RAlO.closeT s h ha hc hv ht
set_option maxRecDepth 100000 in
set_option maxHeartbeats 8000000 in
theorem refAgStep {b sa w rm rp rs re slot : Nat} {gen : Int} {n : Nat} {x : Cn} {S : SupS} {m : Mm} {a : AlS} {F1 F2 F3 F4 : St} (hx : x.ok) (hl : x.len ≤ m.ws.length) (hs : slot < x.sl) (hn : 1 ≤ n) (hn2 : n ≤ x.wd) (hw8 : x.wd % 8 = 0) (hok : (rtOf (m.at_ (x.root + slot))).ok) (hb : S.xs.length + S.lm.size ≤ 99999) (hm0 : 0 ≤ S.most) (hm2 : S.most ≤ 64)
  (ha : a.done = false → AlOk x a) (hr : a.done = false → RefA x S a) (hd6 : a.done = true → a.at_ = 6)
  [t1 : Take L (some ⟨b, 0, none⟩) (RAgO sa rp slot gen n a) F1] [t2 : Take F1 (some ⟨sa, 0, none⟩) (RSupO w S) F2] [t3 : Take F2 (some ⟨rm, 0, none⟩) (RMemO m) F3] [t4 : Take F3 (some ⟨w, 0, none⟩) (RWO x rm rp rs re) F4] [t5 : Take F4 (some ⟨rp, 0, none⟩) (RSkO rm x.pool) G] :
  Fx Tryz.prog 38 [.pointer (some ⟨b, 0, none⟩)] L
   (fun v L' => v = .bool (!a.done) ∧ L' = pt (some ⟨b, 0, none⟩) (RAgO sa rp slot gen n (alStep (x.al slot gen n) m S a).2.2) :: pt (some ⟨sa, 0, none⟩) (RSupO w (alStep (x.al slot gen n) m S a).2.1) :: pt (some ⟨rm, 0, none⟩) (RMemO (alStep (x.al slot gen n) m S a).1) :: F3) := by
 obtain ⟨b1, b2, b3, b4, b5, b6, b7⟩ := hx.b
 have hsz : x.root + x.sl ≤ x.len := by unfold Cn.root Cn.len; omega
 have hlz : x.link + x.c ≤ x.len := by unfold Cn.link Cn.len; omega
 have hback : Ent (pt (some ⟨w, 0, none⟩) (RWO x rm rp rs re) :: pt (some ⟨rp, 0, none⟩) (RSkO rm x.pool) :: G) F3 := Ent.trans (Ent.cons (Ent.of t5.back)) (Ent.of t4.back)
 refine Fx.mk Tryz.func38 k38 nb_ ?_
 dsimp only [c38, kG, kS, kH, kM, kN, kF, kL, envOf, Nat.reduceAdd]
 refine Cx.ent (Ent.trans (Ent.of t1.out) (Ent.cons (Ent.trans (Ent.of t2.out) (Ent.cons (Ent.trans (Ent.of t3.out) (Ent.cons (Ent.trans (Ent.of t4.out) (Ent.cons (Ent.of t5.out))))))))) ?_
 refine Cx.pure (rmemKey (rm := rm) (m := m)) fun hm => ?_
 cases hd : a.done with
 | true =>
   have e1 : alStep (x.al slot gen n) m S a = (m, S, a) := by unfold alStep; rw [hd]; rfl
   rw [e1]
   refine Cx.openp (a := some ⟨b, 0, none⟩) (RAgO.g_ (hd6 hd)) ?_
   rintro ⟨tp, gq, dry⟩
   simp only [ralGL, List.cons_append, List.nil_append]
   rw [hd]
   refine go ?_
   exact Kr.one (.inr rfl) rfl (Ent.trans (RAgO.closeG (rp := rp) (v := a.v) a (hd6 hd) hd.symm rfl rfl rfl rfl) (Ent.cons (Ent.cons (Ent.cons hback)))) ⟨rfl, rfl⟩
 | false =>
   obtain ⟨k0, k1, k2, k3, k4, k5, k6, k7, k8, k9⟩ := ha hd
   have hA := hr hd
   have hwl := rt_was_lt k4
   by_cases h6 : a.at_ = 6
   ·obtain ⟨u1, u2⟩ := hA.gv h6
    have hk := hx.pool (n := m.ws.length) hl hm.2
    refine Cx.openp (a := some ⟨b, 0, none⟩) (RAgO.g_ h6) ?_
    rintro ⟨tp, gq, dry⟩
    simp only [ralGL, List.cons_append, List.nil_append]
    rw [hd]
    refine Cx.ent (Ent.take (a := some ⟨sa, 0, none⟩)) ?_
    refine Cx.openp (a := some ⟨sa, 0, none⟩) rfl ?_
    rintro ⟨st, lm⟩
    simp only [rsupL, List.cons_append, List.nil_append]
    refine go ?_
    rw [cntW k1]
    refine Cx.ent (RSupO.close (a := some ⟨sa, 0, none⟩) (st := st) (lm := lm) (w := w) S rfl rfl rfl) ?_
    refine Cx.ordc rfl kr_ ?_
    refine ge ?_
    refine Ev.cakH kr_ rfl rfl (refRootAt hx slot hs) ?_
    refine ge ?_
    refine go ?_
    refine Sx.ca rfl (refGetRoot a.v.was hwl) ?_
    rintro v' L' ⟨rfl, rfl⟩
    refine Sx.al fun o => ?_
    refine Sx.st (b := o) rfl rfl rfl rfl rfl rfl ?_
    refine Sx.re (rtL (rtOf a.v.was)) rfl ?_
    refine go ?_
    have e1 : alStep (x.al slot gen n) m S a = ((pushStep x.pool m a.g).2, S, ⟨6, { a.v with cnt := a.v.cnt + 1 }, a.t, (pushStep x.pool m a.g).1, (pushStep x.pool m a.g).1.done⟩) := by unfold alStep; rw [hd, h6]; rfl
    rw [e1]
    obtain ⟨Q, hQ⟩ : ∃ Q, pushStep x.pool m a.g = Q := ⟨_, rfl⟩
    refine Sx.ca rfl (refGiveStep (b := gq) (rp := rp) (rm := rm) (k := x.pool) (m := m) (p := a.g) hk u1 u2) ?_
    rw [hQ]
    rintro v' L' ⟨rfl, rfl⟩
    refine go ?_
    refine Sx.openp (a := some ⟨gq, 0, none⟩) rfl ?_
    rintro ⟨pp, ra, ca⟩
    simp only [rgiveL, List.cons_append, List.nil_append]
    refine go ?_
    refine Kr.one (.inr rfl) rfl ?_ ⟨rfl, rfl⟩
    refine Ent.trans (M := ralB b sa slot gen n 6 ((a.v.cnt + 1 : Nat) : Int) a.v tp (.pointer (some ⟨gq, 0, none⟩)) dry Q.1.done :: pt (some ⟨gq, 0, none⟩) (RGiveO rp Q.1) :: pt (some ⟨sa, 0, none⟩) (RSupO w S) :: pt (some ⟨rm, 0, none⟩) (RMemO Q.2) :: pt (some ⟨w, 0, none⟩) (RWO x rm rp rs re) :: pt (some ⟨rp, 0, none⟩) (RSkO rm x.pool) :: G) ?_
     (Ent.trans (RAgO.closeG (rp := rp) (v := a.v) ⟨6, { a.v with cnt := a.v.cnt + 1 }, a.t, Q.1, Q.1.done⟩ rfl rfl rfl rfl rfl rfl) (Ent.cons (Ent.cons (Ent.cons hback))))
    refine Ent.trans (Ent.trans (Ent.take (a := some ⟨gq, 0, none⟩)) (Ent.cons (Ent.trans (Ent.take (a := some ⟨pp, 0, none⟩)) (Ent.cons (Ent.take (a := ra)))))) ?_
    refine Ent.trans (RGiveO.close Q.1 rfl rfl rfl rfl) ?_
    exact entm
   have t1' : Take L (some ⟨b, 0, none⟩) (RAlO sa rp slot gen n a) F1 := by
    rw [← show RAgO sa rp slot gen n a = RAlO sa rp slot gen n a from RAgO.fun_ h6]; exact t1
   rw [show RAgO sa rp slot gen n a = RAlO sa rp slot gen n a from RAgO.fun_ h6]
   have r1 := hA.code h6
   have r2 := hA.obj h6
   have r3 := k2
   have r4 := hA.z h6
   have hndA := hA.nd h6
   have hrgA := hA.rg h6
   by_cases h2 : a.at_ = 2
   ·have hk := hx.pool (n := m.ws.length) hl hm.2
    refine Cx.openp (a := some ⟨b, 0, none⟩) (RAlO.t_ hd h2) ?_
    rintro ⟨q, gp⟩
    simp only [ralTL, List.cons_append, List.nil_append]
    refine Cx.ent (Ent.take (a := some ⟨sa, 0, none⟩)) ?_
    refine Cx.openp (a := some ⟨sa, 0, none⟩) rfl ?_
    rintro ⟨st, lm⟩
    simp only [rsupL, List.cons_append, List.nil_append]
    refine go ?_
    rw [cntW k1]
    refine Cx.ent (RSupO.close (a := some ⟨sa, 0, none⟩) (st := st) (lm := lm) (w := w) S rfl rfl rfl) ?_
    refine Cx.ordc rfl kr_ ?_
    refine ge ?_
    refine Ev.cakH kr_ rfl rfl (refRootAt hx slot hs) ?_
    refine ge ?_
    refine go ?_
    refine Sx.ca rfl (refGetRoot a.v.was hwl) ?_
    rintro v' L' ⟨rfl, rfl⟩
    refine Sx.al fun o => ?_
    refine Sx.st (b := o) rfl rfl rfl rfl rfl rfl ?_
    refine Sx.re (rtL (rtOf a.v.was)) rfl ?_
    refine go ?_
    obtain ⟨T, hT⟩ : ∃ T, takeStep x.pool x.ba m S a.t = T := ⟨_, rfl⟩
    have htp := takeStep_pop (ba := x.ba) (m := m) (s := S) hk hm.1 (hA.tk h2).2.2.1 (hA.tk h2).2.2.2.1 (hA.tk h2).2.2.2.2.1
    refine Sx.ca rfl (refTakeStep (b := q) (s := sa) (w := w) (rm := rm) (rp := rp) (rs := rs) (re := re) (x := x) (S := S) (m := m) (t := a.t) hx hl (k9 h2) (fun _ _ => (hA.tk h2).2.2.1) (by omega)) ?_
    rw [hT] at htp ⊢
    rintro v' L' ⟨rfl, rfl⟩
    cases hq : T.2.2.done with
    | true =>
      have e1 : alStep (x.al slot gen n) m S a = (T.1, T.2.1, alTaken { a.v with cnt := a.v.cnt + 1 } T.2.2) := by unfold alStep; rw [hd, h2]; simp only [Bool.false_eq_true, if_false, hT, hq, if_true]
      rw [e1]
      refine Sx.nil ?_
      refine Krg.i ?_
      refine Ksq.nm ?_
      refine Cx.sq ?_
      refine Cx.openp (a := some ⟨q, 0, none⟩) (RTakeO.d hq) ?_
      rintro ⟨nn, pp⟩
      simp only [rtakeDL, List.cons_append, List.nil_append]
      refine go ?_
      refine Sx.ent (Ent.trans (Ent.take (a := some ⟨q, 0, none⟩)) (RTakeO.closeD (b := q) (s := sa) (rp := rp) T.2.2 hq rfl rfl)) ?_
      refine Sx.ent (Ent.take (a := some ⟨b, 0, none⟩)) ?_
      refine Sx.ca rfl (refAgTaken (b := b) (sa := sa) (rp := rp) (slot := slot) (at_ := 2) (q := q) (gen := gen) (n := n) (v := { a.v with cnt := a.v.cnt + 1 }) (gp := gp) (t := T.2.2) rfl hq (hA.tk h2).1 (r4 (by have := (hA.tk h2).2.1; omega)) (hA.tk h2).2.1 (fun h => htp.2 h hq (hA.tk h2).2.2.2.2.2)) ?_
      rintro v' L' rfl
      refine go ?_
      refine Kr.one (.inr rfl) rfl (Ent.cons ?_) ⟨rfl, rfl⟩
      refine Ent.trans (M := pt (some ⟨sa, 0, none⟩) (RSupO w T.2.1) :: pt (some ⟨rm, 0, none⟩) (RMemO T.1) :: _) (by exact ent) (Ent.cons (Ent.cons hback))
    | false =>
      have e1 : alStep (x.al slot gen n) m S a = (T.1, T.2.1, ⟨2, { a.v with cnt := a.v.cnt + 1 }, T.2.2, gNone, false⟩) := by unfold alStep; rw [hd, h2]; simp only [Bool.false_eq_true, if_false, hT, hq]
      rw [e1]
      refine Sx.nil ?_
      refine Krg.i ?_
      refine Ksq.nm ?_
      refine Cx.sq ?_
      refine Cx.openp (a := some ⟨q, 0, none⟩) (RTakeO.p hq (by rw [htp.1 hq]; decide)) ?_
      intro p
      simp only [rtakePL, List.cons_append, List.nil_append]
      refine go ?_
      refine Kr.one (.inr rfl) rfl ?_ ⟨rfl, rfl⟩
      refine Ent.trans (Ent.trans (Ent.take (a := some ⟨q, 0, none⟩)) (Ent.cons (Ent.take (a := some ⟨p, 0, none⟩)))) ?_
      refine Ent.trans (RTakeO.closeP (b := q) (s := sa) (rp := rp) (p := p) T.2.2 hq (by rw [htp.1 hq]; decide) rfl rfl) ?_
      refine Ent.trans (Ent.cons (Ent.take (a := some ⟨b, 0, none⟩))) ?_
      refine Ent.trans Ent.swap ?_
      refine Ent.trans (RAgO.closeT (rp := rp) (q := q) (v := a.v) ⟨2, { a.v with cnt := a.v.cnt + 1 }, T.2.2, gNone, false⟩ rfl rfl rfl rfl rfl) (Ent.cons ?_)
      refine Ent.trans (M := pt (some ⟨sa, 0, none⟩) (RSupO w T.2.1) :: pt (some ⟨rm, 0, none⟩) (RMemO T.1) :: _) (by exact ent) (Ent.cons (Ent.cons hback))
   ·refine Cx.openp (a := some ⟨b, 0, none⟩) (RAlO.s_ (.inr h2)) ?_
    rintro ⟨tp, gp, dry⟩
    simp only [ralSL, List.cons_append, List.nil_append]
    refine Cx.liftp fun hdr => ?_
    rw [hd]
    refine Cx.ent (Ent.take (a := some ⟨sa, 0, none⟩)) ?_
    refine Cx.openp (a := some ⟨sa, 0, none⟩) rfl ?_
    rintro ⟨st, lm⟩
    simp only [rsupL, List.cons_append, List.nil_append]
    refine go ?_
    rw [cntW k1]
    refine Cx.ent (RSupO.close (a := some ⟨sa, 0, none⟩) (st := st) (lm := lm) (w := w) S rfl rfl rfl) ?_
    refine Cx.ordc rfl kr_ ?_
    refine ge ?_
    refine Ev.cakH kr_ rfl rfl (refRootAt hx slot hs) ?_
    refine ge ?_
    refine go ?_
    refine Sx.ca rfl (refGetRoot a.v.was hwl) ?_
    rintro v' L' ⟨rfl, rfl⟩
    refine Sx.al fun o => ?_
    refine Sx.st (b := o) rfl rfl rfl rfl rfl rfl ?_
    refine Sx.re (rtL (rtOf a.v.was)) rfl ?_
    refine go ?_
    rcases (show a.at_ = 0 ∨ a.at_ = 1 ∨ a.at_ = 3 ∨ a.at_ = 4 ∨ a.at_ = 5 by omega) with h0 | h0 | h0 | h0 | h0
    ·rw [h0]
     refine go ?_
     have e1 : alStep (x.al slot gen n) m S a = (m.tick, alSeen (x.al slot gen n) S { a.v with cnt := a.v.cnt + 1, was := m.at_ (x.root + slot) } a.t) := by unfold alStep; rw [hd, h0]; rfl
     rw [e1]
     refine Sx.ca rfl (refLoad (rm := rm) (m := m) (x.root + slot) (by omega)) ?_
     rintro v' L' ⟨rfl, rfl⟩
     refine go ?_
     refine Sx.ent (Ent.take (a := some ⟨b, 0, none⟩)) ?_
     refine Sx.ent (M := ralB b sa slot gen n 0 ((a.v.cnt + 1 : Nat) : Int) { a.v with cnt := a.v.cnt + 1, was := m.at_ (x.root + slot) } tp gp dry false :: pt (some ⟨sa, 0, none⟩) (RSupO w S) :: pt (some ⟨w, 0, none⟩) (RWO x rm rp rs re) :: pt (some ⟨rp, 0, none⟩) (RSkO rm x.pool) :: pt (some ⟨rm, 0, none⟩) (RMemO m.tick) :: G) (Ent.cons (by exact entm)) ?_
     refine Sx.ca rfl (refAgSeen (b := b) (sa := sa) (w := w) (rm := rm) (rp := rp) (rs := rs) (re := re) (slot := slot) (gen := gen) (n := n) (x := x) (S := S) (v := { a.v with cnt := a.v.cnt + 1, was := m.at_ (x.root + slot) }) (tp := tp) (gp := gp) (dry := dry) a.t rfl hx hn hn2 hw8 hok r3 r4 (fun h => hdr (by omega) h) r1 r2 hb hm0 hm2 hndA hrgA) ?_
     rintro v' L' rfl
     refine go ?_
     refine Kr.one (.inr rfl) rfl (Ent.cons (Ent.cons ?_)) ⟨rfl, rfl⟩
     refine Ent.trans (M := pt (some ⟨rm, 0, none⟩) (RMemO m.tick) :: pt (some ⟨w, 0, none⟩) (RWO x rm rp rs re) :: pt (some ⟨rp, 0, none⟩) (RSkO rm x.pool) :: G) (by exact entm) (Ent.cons hback)
    ·have k5' := k5 h0
     have hR : Rt.ok ⟨(rtOf a.v.was).gen, (rtOf a.v.was).mrk, (rtOf a.v.was).cl, (rtOf a.v.was).off + a.v.need⟩ := ⟨k4.g, k4.m, k4.c, by show (rtOf a.v.was).off + a.v.need ≤ 1024; omega⟩
     rw [h0]
     refine go ?_
     refine Sx.al fun o2 => ?_
     refine Sx.st (b := o2) rfl rfl rfl rfl rfl rfl ?_
     refine Sx.re (rtL (rtOf a.v.was)) rfl ?_
     refine go ?_
     refine Cx.ordc rfl kr_ ?_
     refine ge ?_
     rw [w64 (n := ((rtOf a.v.was).off : Int) + (a.v.need : Nat)) (by omega) (by omega), show ((rtOf a.v.was).off : Int) + (a.v.need : Nat) = (((rtOf a.v.was).off + a.v.need : Nat) : Int) by push_cast; rfl]
     refine Ev.stbH (b := o2) kr_ rfl rfl rfl rfl rfl (by rfl) rfl (Pres.deps kr_) ?_
     refine ge ?_
     refine go ?_
     refine Sx.ca (vs := [rtV ⟨(rtOf a.v.was).gen, (rtOf a.v.was).mrk, (rtOf a.v.was).cl, (rtOf a.v.was).off + a.v.need⟩]) rfl (refPutRoot ⟨(rtOf a.v.was).gen, (rtOf a.v.was).mrk, (rtOf a.v.was).cl, (rtOf a.v.was).off + a.v.need⟩ hR) ?_
     rintro v' L' ⟨rfl, rfl⟩
     refine go ?_
     obtain ⟨wN, hwN⟩ : ∃ wN, Rt.w ⟨(rtOf a.v.was).gen, (rtOf a.v.was).mrk, (rtOf a.v.was).cl, (rtOf a.v.was).off + a.v.need⟩ = wN := ⟨_, rfl⟩
     have hwl2 := Rt.w_lt hR
     rw [hwN] at hwl2 ⊢
     refine Cx.ordc rfl kr_ ?_
     refine ge ?_
     refine Ev.caH kr_ rfl rfl (refCas (rm := rm) (m := m) (x.root + slot) a.v.was wN (by omega) hwl hwl2) (Pres.deps kr_) ?_
     rintro v' L' ⟨rfl, rfl⟩
     refine ge ?_
     by_cases hc : m.at_ (x.root + slot) = a.v.was
     ·have ecas : m.cas (x.root + slot) a.v.was wN = m.put (x.root + slot) wN := by unfold Mm.cas; rw [if_pos hc]
      have e1 : alStep (x.al slot gen n) m S a = (m.put (x.root + slot) wN, alClose x.pool S { a.v with cnt := a.v.cnt + 1 } a.t 0 ⟨slot, gen, (rtOf a.v.was).chunk, (rtOf a.v.was).off, n⟩) := by
       unfold alStep; rw [hd, h0]; simp only [Bool.false_eq_true, if_false]; rw [if_pos hc, hwN]
      rw [e1, ecas, decide_eq_true hc]
      refine go ?_
      refine Cx.orde rfl kr_ ?_
      refine ge ?_
      refine Ev.cakH (vs := [rtV (rtOf a.v.was)]) kr_ rfl rfl (refChunk (rtOf a.v.was) (rtOf_mrk _)) ?_
      refine ge ?_
      refine Ev.caH kr_ rfl rfl (Fx.ent (M := ralB b sa slot gen n 0 ((a.v.cnt + 1 : Nat) : Int) { a.v with cnt := a.v.cnt + 1 } tp gp dry false :: pt (some ⟨sa, 0, none⟩) (RSupO w S) :: pt (some ⟨w, 0, none⟩) (RWO x rm rp rs re) :: pt (some ⟨rp, 0, none⟩) (RSkO rm x.pool) :: pt (some ⟨rm, 0, none⟩) (RMemO (m.put (x.root + slot) wN)) :: G) (by exact entm)
       (refAgFine (b := b) (sa := sa) (w := w) (rm := rm) (rp := rp) (rs := rs) (re := re) (slot := slot) (at_ := 0) (gen := gen) (n := n) (x := x) (S := S) (v := { a.v with cnt := a.v.cnt + 1 }) (tp := tp) (gp := gp) (dry := dry) a.t (rtOf a.v.was).chunk (rtOf a.v.was).off rfl r3 r1 (by omega) hm0 hm2 hndA hrgA)) (Pres.deps kr_) ?_
      rintro v' L' rfl
      refine ge ?_
      refine go ?_
      refine Kr.one (.inr rfl) rfl (Ent.cons (Ent.cons ?_)) ⟨rfl, rfl⟩
      refine Ent.trans (M := pt (some ⟨rm, 0, none⟩) (RMemO (m.put (x.root + slot) wN)) :: pt (some ⟨w, 0, none⟩) (RWO x rm rp rs re) :: pt (some ⟨rp, 0, none⟩) (RSkO rm x.pool) :: G) (by exact entm) (Ent.cons hback)
     ·have ecas : m.cas (x.root + slot) a.v.was wN = m.tick := by unfold Mm.cas; rw [if_neg hc]
      have e1 : alStep (x.al slot gen n) m S a = (m.tick, S, ⟨0, { a.v with cnt := a.v.cnt + 1 }, a.t, gNone, false⟩) := by
       unfold alStep; rw [hd, h0]; simp only [Bool.false_eq_true, if_false]; rw [if_neg hc]
      rw [e1, ecas, decide_eq_false hc]
      refine go ?_
      refine Kr.one (.inr rfl) rfl ?_ ⟨rfl, rfl⟩
      refine Ent.trans (Ent.take (a := some ⟨b, 0, none⟩)) ?_
      refine Ent.trans (RAgO.closeS (rp := rp) (v := a.v) ⟨0, { a.v with cnt := a.v.cnt + 1 }, a.t, gNone, false⟩ (.inr (by show 0 ≠ 2; omega)) rfl rfl rfl rfl (fun _ h => hdr (by omega) h)) (Ent.cons ?_)
      refine Ent.trans (M := pt (some ⟨sa, 0, none⟩) (RSupO w S) :: pt (some ⟨rm, 0, none⟩) (RMemO _) :: _) (by exact ent) (Ent.cons (Ent.cons hback))
    ·obtain ⟨k, hkk⟩ : ∃ k : Nat, a.v.hand = k := ⟨a.v.hand.toNat, by have := k7 (.inl h0); omega⟩
     have k8' := k8 h0
     rw [h0]
     refine go ?_
     have hwd := word_lt (x := x) (k := k) (j := a.v.zat) (by omega) k8'
     have e1 : alStep (x.al slot gen n) m S a = (m.put (x.word + k * x.wd + a.v.zat) 0, S, ⟨if a.v.zat + 1 < x.wd then 3 else 4, { a.v with cnt := a.v.cnt + 1, zat := a.v.zat + 1 }, a.t, gNone, false⟩) := by unfold alStep; rw [hd, h0]; simp only [Bool.false_eq_true, if_false, hkk, Int.toNat_natCast]
     rw [e1]
     refine Cx.ordc rfl kr_ ?_
     refine ge ?_
     rw [hkk]
     refine Ev.cakH kr_ rfl rfl (refWord hx k a.v.zat (by omega) k8') ?_
     refine ge ?_
     refine Ev.caH kr_ rfl rfl (refStore (rm := rm) (m := m) (x.word + k * x.wd + a.v.zat) 0 (by omega) (by omega)) (Pres.deps kr_) ?_
     rintro v' L' ⟨rfl, rfl⟩
     refine ge ?_
     refine go ?_
     rw [w64 (n := (a.v.zat : Int) + 1) (by omega) (by omega)]
     refine Cx.ordc rfl kr_ ?_
     refine ge ?_
     refine Cx.ifp rfl (fun hz => ?_) (fun hz => ?_)
     ·rw [if_neg (by omega)]
      refine go ?_
      refine Kr.one (.inr rfl) rfl ?_ ⟨rfl, rfl⟩
      refine Ent.trans (Ent.take (a := some ⟨b, 0, none⟩)) ?_
      refine Ent.trans (RAgO.closeS (rp := rp) (v := { a.v with zat := a.v.zat + 1 }) ⟨4, { a.v with cnt := a.v.cnt + 1, zat := a.v.zat + 1 }, a.t, gNone, false⟩ (.inr (by show 4 ≠ 2; omega)) rfl rfl rfl rfl (fun h => absurd (show 4 ≤ 1 from h) (by omega))) (Ent.cons ?_)
      refine Ent.trans (M := pt (some ⟨sa, 0, none⟩) (RSupO w S) :: pt (some ⟨rm, 0, none⟩) (RMemO _) :: _) (by exact ent) (Ent.cons (Ent.cons hback))
     ·rw [if_pos (by omega)]
      refine go ?_
      refine Kr.one (.inr rfl) rfl ?_ ⟨rfl, rfl⟩
      refine Ent.trans (Ent.take (a := some ⟨b, 0, none⟩)) ?_
      refine Ent.trans (RAgO.closeS (rp := rp) (v := { a.v with zat := a.v.zat + 1 }) ⟨3, { a.v with cnt := a.v.cnt + 1, zat := a.v.zat + 1 }, a.t, gNone, false⟩ (.inr (by show 3 ≠ 2; omega)) rfl rfl rfl rfl (fun h => absurd (show 3 ≤ 1 from h) (by omega))) (Ent.cons ?_)
      refine Ent.trans (M := pt (some ⟨sa, 0, none⟩) (RSupO w S) :: pt (some ⟨rm, 0, none⟩) (RMemO _) :: _) (by exact ent) (Ent.cons (Ent.cons hback))
    ·obtain ⟨k, hkk⟩ : ∃ k : Nat, a.v.hand = k := ⟨a.v.hand.toNat, by have := k7 (.inr (.inl h0)); omega⟩
     have hc1 := (rtOf a.v.was).chunk_ge
     have hc2 := Rt.chunk_lt (rtOf_mrk a.v.was)
     rw [h0]
     refine go ?_
     have e1 : alStep (x.al slot gen n) m S a = (m.put (x.link + k) ((rtOf a.v.was).chunk + 1).toNat, S, ⟨5, { a.v with cnt := a.v.cnt + 1 }, a.t, gNone, false⟩) := by unfold alStep; rw [hd, h0]; simp only [Bool.false_eq_true, if_false, hkk, Int.toNat_natCast]; rfl
     rw [e1]
     refine Cx.ordc rfl kr_ ?_
     refine ge ?_
     rw [hkk]
     refine Ev.cakH kr_ rfl rfl (refLink hx k (by omega)) ?_
     refine ge ?_
     refine Ev.cakH kr_ rfl rfl (refChunk (rtOf a.v.was) (rtOf_mrk _)) ?_
     refine ge ?_
     rw [wrapS (x := (rtOf a.v.was).chunk + 1) (by omega) (by omega)]
     refine Ev.caH kr_ rfl rfl (refStore (rm := rm) (m := m) (x.link + k) ((rtOf a.v.was).chunk + 1).toNat (by omega) (by omega)) (Pres.deps kr_) ?_
     rintro v' L' ⟨rfl, rfl⟩
     refine ge ?_
     refine go ?_
     refine Kr.one (.inr rfl) rfl ?_ ⟨rfl, rfl⟩
     refine Ent.trans (Ent.take (a := some ⟨b, 0, none⟩)) ?_
     refine Ent.trans (RAgO.closeS (rp := rp) (v := a.v) ⟨5, { a.v with cnt := a.v.cnt + 1 }, a.t, gNone, false⟩ (.inr (by show 5 ≠ 2; omega)) rfl rfl rfl rfl (fun h => absurd (show 5 ≤ 1 from h) (by omega))) (Ent.cons ?_)
     refine Ent.trans (M := pt (some ⟨sa, 0, none⟩) (RSupO w S) :: pt (some ⟨rm, 0, none⟩) (RMemO _) :: _) (by exact ent) (Ent.cons (Ent.cons hback))
    ·obtain ⟨k, hkk⟩ : ∃ k : Nat, a.v.hand = k := ⟨a.v.hand.toNat, by have := k7 (.inr (.inr h0)); omega⟩
     obtain ⟨n1, n2⟩ := k6 h0
     have haf := afterS_le n2
     have hR : Rt.ok ⟨(rtOf a.v.was).gen, k + 2, (rtOf a.v.was).cl, afterS x.wd a.v.need⟩ := ⟨k4.g, by show k + 2 ≤ 4097; omega, k4.c, by show afterS x.wd a.v.need ≤ 1024; omega⟩
     rw [h0]
     refine go ?_
     refine Sx.al fun o2 => ?_
     refine Sx.st (b := o2) rfl rfl rfl rfl rfl rfl ?_
     refine Sx.re (rtL (rtOf a.v.was)) rfl ?_
     refine go ?_
     refine Cx.ordc rfl kr_ ?_
     refine ge ?_
     rw [hkk, w64 (n := (k : Int) + 2) (by omega) (by omega)]
     refine Ev.cakH kr_ rfl rfl (refAfter x.wd a.v.need (by omega) (by omega) n1 n2) ?_
     refine ge ?_
     refine Ev.stbH (b := o2) kr_ rfl rfl rfl rfl rfl (by rfl) rfl (Pres.deps kr_) ?_
     refine ge ?_
     refine Ev.stbH (b := o2) kr_ rfl rfl rfl rfl rfl (by rfl) rfl (Pres.deps kr_) ?_
     refine ge ?_
     refine go ?_
     refine Sx.ca (vs := [rtV ⟨(rtOf a.v.was).gen, k + 2, (rtOf a.v.was).cl, afterS x.wd a.v.need⟩]) rfl (refPutRoot ⟨(rtOf a.v.was).gen, k + 2, (rtOf a.v.was).cl, afterS x.wd a.v.need⟩ hR) ?_
     rintro v' L' ⟨rfl, rfl⟩
     refine go ?_
     obtain ⟨wN, hwN⟩ : ∃ wN, Rt.w ⟨(rtOf a.v.was).gen, k + 2, (rtOf a.v.was).cl, afterS x.wd a.v.need⟩ = wN := ⟨_, rfl⟩
     have hwl2 := Rt.w_lt hR
     rw [hwN] at hwl2 ⊢
     refine Cx.ordc rfl kr_ ?_
     refine ge ?_
     refine Ev.caH kr_ rfl rfl (refCas (rm := rm) (m := m) (x.root + slot) a.v.was wN (by omega) hwl hwl2) (Pres.deps kr_) ?_
     rintro v' L' ⟨rfl, rfl⟩
     refine ge ?_
     by_cases hc : m.at_ (x.root + slot) = a.v.was
     ·have ecas : m.cas (x.root + slot) a.v.was wN = m.put (x.root + slot) wN := by unfold Mm.cas; rw [if_pos hc]
      have e1 : alStep (x.al slot gen n) m S a = (m.put (x.root + slot) wN, alClose x.pool S { a.v with cnt := a.v.cnt + 1, hand := -1 } a.t 0 ⟨slot, gen, a.v.hand, 0, n⟩) := by
       unfold alStep; rw [hd, h0]; simp only [Bool.false_eq_true, if_false]; rw [if_pos hc, hkk, Int.toNat_natCast, Nat.add_comm 2 k, hwN]
      rw [e1, ecas, decide_eq_true hc]
      refine go ?_
      refine Sx.ent (Ent.take (a := some ⟨b, 0, none⟩)) ?_
      refine Sx.ent (M := ralB b sa slot gen n 0 ((a.v.cnt + 1 : Nat) : Int) { a.v with cnt := a.v.cnt + 1, hand := -1 } tp gp dry false :: pt (some ⟨sa, 0, none⟩) (RSupO w S) :: pt (some ⟨w, 0, none⟩) (RWO x rm rp rs re) :: pt (some ⟨rp, 0, none⟩) (RSkO rm x.pool) :: pt (some ⟨rm, 0, none⟩) (RMemO (m.put (x.root + slot) wN)) :: G) (Ent.cons (by exact entm)) ?_
      refine Sx.ca rfl (refAgFine (b := b) (sa := sa) (w := w) (rm := rm) (rp := rp) (rs := rs) (re := re) (slot := slot) (at_ := 0) (gen := gen) (n := n) (x := x) (S := S) (v := { a.v with cnt := a.v.cnt + 1, hand := -1 }) (tp := tp) (gp := gp) (dry := dry) a.t a.v.hand 0 rfl (by show (-1 : Int) ≤ -1; omega) r1 (by omega) hm0 hm2 (by show (S.xs ++ (if (0 : Int) ≤ -1 then [(-1 : Int)] else [])).Nodup; rw [if_neg (by omega), List.append_nil]; exact (List.nodup_append.1 hndA).1) (by show ∀ y ∈ S.xs ++ (if (0 : Int) ≤ -1 then [(-1 : Int)] else []), _; rw [if_neg (by omega), List.append_nil]; exact fun y hy => hrgA y (List.mem_append_left _ hy))) ?_
      rintro v' L' rfl
      refine go ?_
      refine Kr.one (.inr rfl) rfl (Ent.cons (Ent.cons ?_)) ⟨rfl, rfl⟩
      refine Ent.trans (M := pt (some ⟨rm, 0, none⟩) (RMemO (m.put (x.root + slot) wN)) :: pt (some ⟨w, 0, none⟩) (RWO x rm rp rs re) :: pt (some ⟨rp, 0, none⟩) (RSkO rm x.pool) :: G) (by exact entm) (Ent.cons hback)
     ·have ecas : m.cas (x.root + slot) a.v.was wN = m.tick := by unfold Mm.cas; rw [if_neg hc]
      have e1 : alStep (x.al slot gen n) m S a = (m.tick, S, ⟨0, { a.v with cnt := a.v.cnt + 1 }, a.t, gNone, false⟩) := by
       unfold alStep; rw [hd, h0]; simp only [Bool.false_eq_true, if_false]; rw [if_neg hc]
      rw [e1, ecas, decide_eq_false hc]
      refine go ?_
      refine Kr.one (.inr rfl) rfl ?_ ⟨rfl, rfl⟩
      refine Ent.trans (Ent.take (a := some ⟨b, 0, none⟩)) ?_
      refine Ent.trans (RAgO.closeS (rp := rp) (v := a.v) ⟨0, { a.v with cnt := a.v.cnt + 1 }, a.t, gNone, false⟩ (.inr (by show 0 ≠ 2; omega)) rfl rfl rfl rfl (fun _ h => absurd (show a.v.hand < 0 from h) (by omega))) (Ent.cons ?_)
      refine Ent.trans (M := pt (some ⟨sa, 0, none⟩) (RSupO w S) :: pt (some ⟨rm, 0, none⟩) (RMemO _) :: _) (by exact ent) (Ent.cons (Ent.cons hback))
end
end Go.Proofs.YtflalhdofhobmaaGreat


namespace Go.Proofs.YtflalhdofhobmaaGreat
structure RunG (x : Cn) (m : Mm) (P : List Int) (w : Wk) : Prop where
 h0 : -1 ≤ w.a.v.hand
 wok : (rtOf w.a.v.was).ok
 need : w.a.at_ ≠ 0 → w.a.at_ ≠ 6 → 1 ≤ w.a.v.need ∧ w.a.v.need ≤ x.wd
 fit : w.a.at_ = 1 → (rtOf w.a.v.was).off + w.a.v.need ≤ x.wd
 hand : w.a.at_ = 3 ∨ w.a.at_ = 4 ∨ w.a.at_ = 5 → 0 ≤ w.a.v.hand
 zlt : w.a.at_ = 3 → w.a.v.zat < x.wd
 z0 : w.a.at_ ≠ 6 → w.a.v.hand < 0 → w.a.v.zat = 0
 noh : w.a.at_ = 2 → w.a.v.hand = -1 ∧ w.a.v.asked = true
 tk : w.a.at_ = 2 → w.a.t.at_ = 1 ∧ w.a.t.done = false ∧ w.a.t.chunk = 0 ∧ w.a.t.is_ = false ∧ w.a.t.q.ok x.pool ∧ w.a.t.q.done = false ∧ PopH x.pool m P w.a.t.q
 ps : w.a.at_ = 6 → w.a.g.ok x.pool ∧ w.a.g.done = false ∧ PushH x.pool m w.a.g
 co : w.a.at_ ≠ 6 → w.a.v.code = 0 ∧ w.a.v.obj = Hd.zero
structure WkG (x : Cn) (T : Nat) (m : Mm) (P : List Int) (w : Wk) : Prop where
 n1 : 1 ≤ w.n
 n2 : w.n ≤ x.wd
 lm : w.s.lm.size = 0
 m0 : 0 ≤ w.s.most
 m2 : w.s.most ≤ 64
 a6 : w.a.at_ ≤ 6
 h6 : w.a.done = true ∨ w.a.at_ = 6 → w.a.v.hand = -1
 gd : w.a.done = true ∨ w.a.at_ ≠ 6 → w.a.g.done = true
 cnt : w.a.v.cnt ≤ T
 run : w.a.done = false → RunG x m P w
structure ApG (x : Cn) (m : Mm) (ws : List Wk) (P R : List Int) (T : Nat) : Prop where
 len : m.ws.length = x.len
 ok : m.ok
 root : ∀ s, s < x.sl → (rtOf (m.at_ (x.root + s))).ok
 pool : Pool x.pool m P
 tag : hdT (m.at_ x.pool.head) ≤ T + 10
 one : ∀ y, P.count y + R.count y + (ws.flatMap Wk.own).count y ≤ 1
 rng : ∀ y, 0 < P.count y + R.count y + (ws.flatMap Wk.own).count y → 0 ≤ y ∧ y < (x.c : Int)
 wk : ∀ w ∈ ws, WkG x T m P w
def FrG (x : Cn) (own : List Int) (m m' : Mm) : Prop := ∀ a, a ≠ x.pool.head → (a < x.root ∨ x.root + x.sl ≤ a) → (∀ y ∈ own, a ≠ x.link + y.toNat) → a < x.word → m'.at_ a = m.at_ a
theorem WkG.frame {x : Cn} {T : Nat} {m m' : Mm} {P P' own : List Int} {w : Wk} (h : WkG x T m P w) (hg : HeadGoes x.pool m m' P P') (hf : FrG x own m m') (hr : ∀ y ∈ w.own, 0 ≤ y ∧ y < (x.c : Int)) (hro : ∀ y ∈ own, 0 ≤ y ∧ y < (x.c : Int)) (hd : ∀ y ∈ w.own, y ∉ own) : WkG x (T + 1) m' P' w := by
 have g1 : x.root + x.sl ≤ x.link := by unfold Cn.root Cn.link; omega
 have g2 : x.link + x.c = x.word := by unfold Cn.link Cn.word; omega
 have g3 : 3 ≤ x.root := by unfold Cn.root; omega
 have g0 : x.pool.head = 0 := rfl
 have hlink : ∀ y ∈ w.own, m'.at_ (x.link + y.toNat) = m.at_ (x.link + y.toNat) := fun y hy => by
  have h1 := hr y hy
  refine hf _ (by omega) (by omega) (fun z hz => ?_) (by omega)
  have h2 := hro z hz
  have : y ≠ z := fun e => hd y hy (by rw [e]; exact hz)
  omega
 refine ⟨h.n1, h.n2, h.lm, h.m0, h.m2, h.a6, h.h6, h.gd, Nat.le_succ_of_le h.cnt, fun hdn => ?_⟩
 have r := h.run hdn
 refine ⟨r.h0, r.wok, r.need, r.fit, r.hand, r.zlt, r.z0, r.noh, fun h2 => ?_, fun h6 => ?_, r.co⟩
 ·obtain ⟨t1, t2, t3, t4, t5, t6, t7⟩ := r.tk h2
  exact ⟨t1, t2, t3, t4, t5, t6, t7.frame hg⟩
 ·obtain ⟨t1, t2, t3⟩ := r.ps h6
  refine ⟨t1, t2, t3.frame hg (fun y hy => hlink y ?_) t1.ne⟩
  unfold Wk.own ownG; rw [t2]
  exact List.mem_append_right _ (List.mem_append_right _ hy)
theorem ApG.upd {x : Cn} {T : Nat} {m m' : Mm} {A B : List Wk} {w w' : Wk} {P P' R R' : List Int} (h : ApG x m (A ++ w :: B) P R T)
  (hlen : m'.ws.length = x.len) (hok : m'.ok) (hroot : ∀ s, s < x.sl → (rtOf (m'.at_ (x.root + s))).ok) (hpool : Pool x.pool m' P')
  (hgo : HeadGoes x.pool m m' P P') (htag : hdT (m'.at_ x.pool.head) ≤ hdT (m.at_ x.pool.head) + 1)
  (hcnt : ∀ y, P'.count y + R'.count y + w'.own.count y = P.count y + R.count y + w.own.count y) (hfr : FrG x w.own m m') (hwk : WkG x (T + 1) m' P' w') :
  ApG x m' (A ++ w' :: B) P' R' (T + 1) := by
 have hcall : ∀ y, P'.count y + R'.count y + ((A ++ w' :: B).flatMap Wk.own).count y = P.count y + R.count y + ((A ++ w :: B).flatMap Wk.own).count y := fun y => by
  rw [ApI.cnt_mid, ApI.cnt_mid]; have := hcnt y; omega
 have hown : ∀ y ∈ w.own, 0 ≤ y ∧ y < (x.c : Int) := fun y hy => h.rng y (by rw [ApI.cnt_mid]; have := List.count_pos_iff.2 hy; omega)
 have hoth : ∀ v, v ∈ A ∨ v ∈ B → WkG x (T + 1) m' P' v := fun v hv => by
  have hle : ∀ y ∈ v.own, 0 < (A.flatMap Wk.own).count y + (B.flatMap Wk.own).count y := fun y hy => by
   rcases hv with hv | hv
   ·have := List.count_pos_iff.2 (List.mem_flatMap.2 ⟨v, hv, hy⟩); omega
   ·have := List.count_pos_iff.2 (List.mem_flatMap.2 ⟨v, hv, hy⟩); omega
  refine (h.wk v (by rcases hv with hv | hv <;> simp [hv])).frame hgo hfr (fun y hy => h.rng y (by rw [ApI.cnt_mid]; have := hle y hy; omega)) hown (fun y hy hy2 => ?_)
  have h1 := hle y hy
  have h2 := List.count_pos_iff.2 hy2
  have h3 := h.one y
  rw [ApI.cnt_mid] at h3
  omega
 refine ⟨hlen, hok, hroot, hpool, by have := h.tag; omega, fun y => by rw [hcall]; exact h.one y, fun y hy => h.rng y (by rw [← hcall]; exact hy), fun v hv => ?_⟩
 rcases List.mem_append.1 hv with hv | hv
 ·exact hoth v (.inl hv)
 ·rcases List.mem_cons.1 hv with rfl | hv
  ·exact hwk
  ·exact hoth v (.inr hv)
section
variable {x : Cn} {T : Nat} {m : Mm} {A B : List Wk} {w : Wk} {P R : List Int}
theorem ApG.mid (h : ApG x m (A ++ w :: B) P R T) : WkG x T m P w := h.wk w (by simp)
theorem ApG.own_rng (h : ApG x m (A ++ w :: B) P R T) : ∀ y ∈ w.own, 0 ≤ y ∧ y < (x.c : Int) := fun y hy => h.rng y (by rw [ApI.cnt_mid]; have := List.count_pos_iff.2 hy; omega)
theorem ApG.own_one (h : ApG x m (A ++ w :: B) P R T) (y : Int) : P.count y + R.count y + w.own.count y ≤ 1 := by
 have := h.one y; rw [ApI.cnt_mid] at this; omega
theorem ApG.own_nd (h : ApG x m (A ++ w :: B) P R T) : w.own.Nodup := List.nodup_iff_count.2 fun y => by have := h.own_one y; omega
theorem ApG.own_P (h : ApG x m (A ++ w :: B) P R T) {y : Int} (hy : y ∈ w.own) : y ∉ P := fun h2 => by
 have h1 := h.own_one y
 have := List.count_pos_iff.2 hy; have := List.count_pos_iff.2 h2; omega
theorem ApG.xs_le (h : ApG x m (A ++ w :: B) P R T) : w.s.xs.length ≤ x.c := by
 refine length_nodup x.c w.s.xs ?_ fun y hy => ?_
 ·have := h.own_nd; unfold Wk.own at this; exact (List.nodup_append.1 this).1
 ·exact h.own_rng y (by unfold Wk.own; exact List.mem_append_left _ hy)
theorem ApG.still {w' : Wk} (h : ApG x m (A ++ w :: B) P R T) (hcnt : ∀ y, w'.own.count y = w.own.count y) (hwk : WkG x (T + 1) m.tick P w') : ApG x m.tick (A ++ w' :: B) P R (T + 1) :=
 h.upd h.len (Mm.ok_tick h.ok) h.root h.pool.tick (.inl ⟨rfl, rfl⟩) (Nat.le_succ _) (fun y => by rw [hcnt]) (fun _ _ _ _ _ => rfl) hwk
theorem alClose_wkG {s : SupS} {v : AlV} {t : TakeS} {code : Nat} {o : Hd} {n : Nat} (h1 : 1 ≤ n) (h2 : n ≤ x.wd) (lm : s.lm.size = 0) (m0 : 0 ≤ s.most) (m2 : s.most ≤ 64) (hc : v.cnt ≤ T) (hwok : (rtOf v.was).ok)
  (hnd : (s.xs ++ (if 0 ≤ v.hand then [v.hand] else [])).Nodup) (hr : ∀ y ∈ s.xs ++ (if 0 ≤ v.hand then [v.hand] else []), 0 ≤ y ∧ y < (x.c : Int)) :
  WkG x T m P ⟨(alClose x.pool s v t code o).1, (alClose x.pool s v t code o).2, n⟩ ∧ (∀ y, (Wk.own ⟨(alClose x.pool s v t code o).1, (alClose x.pool s v t code o).2, n⟩).count y = s.xs.count y + (if 0 ≤ v.hand then [v.hand] else []).count y) := by
 obtain ⟨l, hl⟩ : ∃ l, s.xs ++ (if 0 ≤ v.hand then [v.hand] else []) = l := ⟨_, rfl⟩
 have hcl : ∀ y, s.xs.count y + (if 0 ≤ v.hand then [v.hand] else []).count y = l.count y := fun y => by rw [← List.count_append, hl]
 rw [alClose_eq hnd hr hl]
 rw [hl] at hnd hr
 obtain ⟨q, hq⟩ : ∃ q, overK s.most l = q := ⟨_, rfl⟩
 rw [hq]
 have htd := List.take_append_drop q l
 have hpd : (PushS.init (l.take q)).done = decide (l.take q = []) := rfl
 refine ⟨⟨h1, h2, lm, m0, m2, Nat.le_refl _, fun _ => rfl, fun h => h.elim id (fun h => absurd rfl h), hc, fun hd => ?_⟩, fun y => ?_⟩
 ·have hnil : (l.take q).length ≤ 0 → False := fun h => by
   have : l.take q = [] := List.eq_nil_of_length_eq_zero (by omega)
   rw [show (PushS.init (l.take q)).done = true by rw [hpd, this]; rfl] at hd
   cases hd
  exact ⟨Int.le_refl _, hwok, fun _ h => absurd rfl h, fun h => (by cases h), fun h => (by simp at h), fun h => (by cases h), fun h => absurd rfl h, fun h => (by cases h), fun h => (by cases h), fun _ => ⟨PushS.ok_init fun y hy => hr y (List.mem_of_mem_take hy), hd, fun _ => ⟨fun i _ h => by simp [PushS.init] at h, fun h => by simp [PushS.init] at h, fun h => (hnil h).elim, fun h => (hnil h).elim⟩⟩, fun h => absurd rfl h⟩
 ·rw [hcl]
  show (l.drop q ++ (ownH _ ++ ownG _)).count y = _
  have e3 : ownG ⟨6, { v with code := code, obj := o, point := v.cnt, ends := true, hand := -1 }, t, PushS.init (l.take q), (PushS.init (l.take q)).done⟩ = l.take q := by
   unfold ownG
   dsimp only
   rw [hpd]
   by_cases h : l.take q = []
   ·rw [h]; rfl
   ·rw [decide_eq_false h]; rfl
  rw [e3]
  show (l.drop q ++ ([] ++ l.take q)).count y = _
  rw [List.nil_append, List.count_append, Nat.add_comm, ← List.count_append, htd]
end
end Go.Proofs.YtflalhdofhobmaaGreat


namespace Go.Proofs.YtflalhdofhobmaaGreat
section
variable {x : Cn} {T : Nat} {m : Mm} {A B : List Wk} {w : Wk} {P R : List Int} {slot : Nat} {gen : Int}
def AgS (x : Cn) (A B : List Wk) (n : Nat) (T : Nat) (r : Mm × SupS × AlS) : Prop := ∃ P R, ApG x r.1 (A ++ ⟨r.2.1, r.2.2, n⟩ :: B) P R (T + 1)
theorem Wk.own_g (h : WkG x T m P w) (h6 : w.a.at_ ≠ 6) : w.own = w.s.xs ++ (if 0 ≤ w.a.v.hand then [w.a.v.hand] else []) := by
 unfold Wk.own ownG ownH
 rw [h.gd (.inr h6), if_pos rfl, List.append_nil]
theorem ag_look (h : ApG x m (A ++ w :: B) P R T) (hx : x.ok) (hs : slot < x.sl) (hw8 : x.wd % 8 = 0) (hd : w.a.done = false) (h0 : w.a.at_ = 0) :
  AgS x A B w.n T (alStep (x.al slot gen w.n) m w.s w.a) := by
 have hw := h.mid
 have r := hw.run hd
 have h6 : w.a.at_ ≠ 6 := by omega
 have ho := Wk.own_g hw h6
 have e1 : alStep (x.al slot gen w.n) m w.s w.a = (m.tick, alSeen (x.al slot gen w.n) w.s { w.a.v with cnt := w.a.v.cnt + 1, was := m.at_ (x.root + slot) } w.a.t) := by unfold alStep; rw [hd, h0]; rfl
 rw [e1]
 have hrt := h.root slot hs
 obtain ⟨W, hW⟩ : ∃ W, m.at_ (x.root + slot) = W := ⟨_, rfl⟩
 rw [hW] at hrt ⊢
 have hrl := roundS_le (n := w.n) (wd := x.wd) hrt.c hw.n2 hw8
 have hrg := roundS_ge (n := w.n) hrt.c
 have hn1 := hw.n1
 have hcnt := hw.cnt
 have hnd := h.own_nd
 have hor := h.own_rng
 rw [ho] at hnd hor
 have hz0 : w.a.v.hand < 0 → w.a.v.zat = 0 := r.z0 h6
 have hco := r.co h6
 unfold alSeen
 by_cases hlv : (rtOf W).live gen
 ·rw [if_pos hlv]
  dsimp only
  obtain ⟨need, hneed⟩ : ∃ need, roundS (rtOf W).cl w.n = need := ⟨_, rfl⟩
  rw [hneed] at hrl hrg ⊢
  by_cases hf : 2 ≤ (rtOf W).mrk ∧ fitsS x.wd (rtOf W).off need
  ·rw [if_pos hf]
   refine ⟨P, R, h.still (fun y => by rw [ho, own_n]) ⟨hw.n1, hw.n2, hw.lm, hw.m0, hw.m2, (by show 1 ≤ 6; omega), fun hh => (by rcases hh with hh | hh <;> cases hh), fun _ => rfl, (by show w.a.v.cnt + 1 ≤ T + 1; omega), fun _ => ?_⟩⟩
   exact ⟨r.h0, hrt, fun _ _ => ⟨by show 1 ≤ need; omega, hrl⟩, fun _ => hf.2.2, fun hh => (by simp at hh), fun hh => (by cases hh), fun _ => hz0, fun hh => (by cases hh), fun hh => (by cases hh), fun hh => (by cases hh), fun _ => hco⟩
  ·rw [if_neg hf]
   by_cases hh0 : 0 ≤ w.a.v.hand
   ·rw [if_pos hh0]
    refine ⟨P, R, h.still (fun y => by rw [ho, own_n]) ⟨hw.n1, hw.n2, hw.lm, hw.m0, hw.m2, (by show 4 ≤ 6; omega), fun hh => (by rcases hh with hh | hh <;> cases hh), fun _ => rfl, (by show w.a.v.cnt + 1 ≤ T + 1; omega), fun _ => ?_⟩⟩
    exact ⟨r.h0, hrt, fun _ _ => ⟨by show 1 ≤ need; omega, hrl⟩, fun hh => (by cases hh), fun _ => hh0, fun hh => (by cases hh), fun _ => hz0, fun hh => (by cases hh), fun hh => (by cases hh), fun hh => (by cases hh), fun _ => hco⟩
   ·rw [if_neg hh0]
    by_cases ha : w.a.v.asked = true
    ·rw [if_pos ha]
     obtain ⟨k1, k2⟩ := alClose_wkG (x := x) (T := T + 1) (m := m.tick) (P := P) (s := w.s) (v := { w.a.v with cnt := w.a.v.cnt + 1, was := W, need := need }) (t := w.a.t) (code := 6) (o := Hd.zero) hw.n1 hw.n2 hw.lm hw.m0 hw.m2 (by show w.a.v.cnt + 1 ≤ T + 1; omega) hrt hnd hor
     exact ⟨P, R, h.still (fun y => by rw [ho, List.count_append]; exact k2 y) k1⟩
    ·rw [if_neg ha]
     rw [if_neg hh0, List.append_nil] at ho
     by_cases hxs : w.s.xs = []
     ·have e2 : takeInit x.ba w.s = (w.s, { TakeS.none_ with at_ := 1, q := PopS.init x.ba }) := by
       unfold takeInit keepT
       rw [if_pos hxs]
       simp only
       rw [if_neg (by have := hw.lm; omega)]
      rw [e2]
      have e3 : TakeS.none_.done = false := rfl
      simp only [e3, Bool.false_eq_true, if_false]
      refine ⟨P, R, h.still (fun y => by rw [ho, own_n, if_neg hh0, List.append_nil]) ⟨hw.n1, hw.n2, hw.lm, hw.m0, hw.m2, (by show 2 ≤ 6; omega), fun hh => (by rcases hh with hh | hh <;> cases hh), fun _ => rfl, (by show w.a.v.cnt + 1 ≤ T + 1; omega), fun _ => ?_⟩⟩
      refine ⟨r.h0, hrt, fun _ _ => ⟨by show 1 ≤ need; omega, hrl⟩, fun hh => (by cases hh), fun hh => (by simp at hh), fun hh => (by cases hh), fun _ => hz0, fun _ => ⟨?_, rfl⟩, fun _ => ⟨rfl, rfl, rfl, rfl, PopS.ok_init ?_ _, rfl, fun _ hh => absurd rfl hh⟩, fun hh => (by cases hh), fun _ => hco⟩
      ·show w.a.v.hand = -1
       have := r.h0; omega
      ·show 1 ≤ x.c
       obtain ⟨b1, b2, b3, b4, b5, b6, b7⟩ := show MayC (x.w : Int) x.c x.wd x.sl x.ca x.ba from hx
       omega
     ·have e2 : takeInit x.ba w.s = (w.s.kept, { TakeS.none_ with chunk := lastI w.s.xs, is_ := true, done := true }) := by
       unfold takeInit keepT
       rw [if_neg hxs]
      rw [e2]
      simp only [if_true, alTaken]
      have hlm := lastI_mem hxs
      have hlr := h.own_rng (lastI w.s.xs) (by rw [ho]; exact hlm)
      refine ⟨P, R, h.still (fun y => ?_) ⟨hw.n1, hw.n2, hw.lm, hw.m0, hw.m2, (by show 3 ≤ 6; omega), fun hh => (by rcases hh with hh | hh <;> cases hh), fun _ => rfl, (by show w.a.v.cnt + 1 ≤ T + 1; omega), fun _ => ?_⟩⟩
      ·rw [ho, own_n]
       dsimp only
       rw [if_pos hlr.1, List.count_append]
       exact lastI_count hxs y
      ·have hz := hz0 (by omega)
       refine ⟨?_, hrt, fun _ _ => ⟨by show 1 ≤ need; omega, hrl⟩, fun hh => (by cases hh), fun _ => hlr.1, fun _ => ?_, fun _ _ => hz, fun hh => (by cases hh), fun hh => (by cases hh), fun hh => (by cases hh), fun _ => hco⟩
       ·show -1 ≤ lastI w.s.xs; omega
       ·show w.a.v.zat < x.wd
        have := hw.n2; omega
 ·rw [if_neg hlv]
  obtain ⟨k1, k2⟩ := alClose_wkG (x := x) (T := T + 1) (m := m.tick) (P := P) (s := w.s) (v := { w.a.v with cnt := w.a.v.cnt + 1, was := W }) (t := w.a.t) (code := 3) (o := Hd.zero) hw.n1 hw.n2 hw.lm hw.m0 hw.m2 (by show w.a.v.cnt + 1 ≤ T + 1; omega) hrt hnd hor
  exact ⟨P, R, h.still (fun y => by rw [ho, List.count_append]; exact k2 y) k1⟩
theorem ag_root (h : ApG x m (A ++ w :: B) P R T) (hx : x.ok) (hs : slot < x.sl) (v : Nat) (hv : (rtOf v).ok) :
  Pool x.pool (m.put (x.root + slot) v) P ∧ (m.put (x.root + slot) v).ws.length = x.len ∧ FrG x w.own m (m.put (x.root + slot) v) ∧
   (m.put (x.root + slot) v).at_ x.pool.head = m.at_ x.pool.head ∧ ∀ s, s < x.sl → (rtOf ((m.put (x.root + slot) v).at_ (x.root + s))).ok := by
 have g1 : x.root + x.sl ≤ x.link := by unfold Cn.root Cn.link; omega
 have g2 : x.link + x.c = x.word := by unfold Cn.link Cn.word; omega
 have g3 : 3 ≤ x.root := by unfold Cn.root; omega
 have g4 : x.word ≤ x.len := by unfold Cn.word Cn.len; omega
 have g0 : x.pool.head = 0 := rfl
 have hl : x.root + slot < m.ws.length := by rw [h.len]; omega
 have hput : ∀ a, (m.put (x.root + slot) v).at_ a = if x.root + slot = a then v else m.at_ a := fun a => Mm.at_put a hl
 refine ⟨h.pool.put_other hl (by omega) (fun y hy => ?_), by rw [Mm.len_put]; exact h.len, fun a _ h2 _ _ => by rw [hput, if_neg (by omega)], by rw [hput, if_neg (by omega)], fun s hs2 => ?_⟩
 ·have := h.pool.c.mem y hy
  show x.root + slot ≠ x.link + y.toNat
  omega
 ·rw [hput]
  split
  ·exact hv
  ·exact h.root s hs2
theorem ag_fit (h : ApG x m (A ++ w :: B) P R T) (hx : x.ok) (hs : slot < x.sl) (hd : w.a.done = false) (h0 : w.a.at_ = 1) :
  AgS x A B w.n T (alStep (x.al slot gen w.n) m w.s w.a) := by
 obtain ⟨b1, b2, b3, b4, b5, b6, b7⟩ := show MayC (x.w : Int) x.c x.wd x.sl x.ca x.ba from hx
 have hw := h.mid
 have r := hw.run hd
 have h6 : w.a.at_ ≠ 6 := by omega
 have ho := Wk.own_g hw h6
 have hcnt := hw.cnt
 have f2 := r.fit h0
 have hwas := r.wok
 have hnd := h.own_nd
 have hor := h.own_rng
 rw [ho] at hnd hor
 by_cases he : m.at_ (x.root + slot) = w.a.v.was
 ·have e1 : alStep (x.al slot gen w.n) m w.s w.a = (m.put (x.root + slot) (Rt.w ⟨(rtOf w.a.v.was).gen, (rtOf w.a.v.was).mrk, (rtOf w.a.v.was).cl, (rtOf w.a.v.was).off + w.a.v.need⟩), alClose x.pool w.s { w.a.v with cnt := w.a.v.cnt + 1 } w.a.t 0 ⟨slot, gen, (rtOf w.a.v.was).chunk, (rtOf w.a.v.was).off, w.n⟩) := by
   unfold alStep; rw [hd, h0]; simp only [Bool.false_eq_true, if_false]; rw [if_pos he]
  rw [e1]
  obtain ⟨q, hq⟩ : ∃ q : Rt, (⟨(rtOf w.a.v.was).gen, (rtOf w.a.v.was).mrk, (rtOf w.a.v.was).cl, (rtOf w.a.v.was).off + w.a.v.need⟩ : Rt) = q := ⟨_, rfl⟩
  have hqo : q.ok := by rw [← hq]; exact ⟨hwas.g, hwas.m, hwas.c, by show (rtOf w.a.v.was).off + w.a.v.need ≤ 1024; omega⟩
  rw [hq]
  obtain ⟨p2, p3, p4, p5, p6⟩ := ag_root h hx hs q.w (by rw [rtOf_w hqo]; exact hqo)
  obtain ⟨k1, k2⟩ := alClose_wkG (x := x) (T := T + 1) (m := m.put (x.root + slot) q.w) (P := P) (s := w.s) (v := { w.a.v with cnt := w.a.v.cnt + 1 }) (t := w.a.t) (code := 0) (o := ⟨slot, gen, (rtOf w.a.v.was).chunk, (rtOf w.a.v.was).off, w.n⟩) hw.n1 hw.n2 hw.lm hw.m0 hw.m2 (by show w.a.v.cnt + 1 ≤ T + 1; omega) hwas hnd hor
  exact ⟨P, R, h.upd p3 (Mm.ok_put h.ok (Rt.w_lt hqo)) p6 p2 (.inl ⟨p5, rfl⟩) (by dsimp only; rw [p5]; omega) (fun y => by rw [k2, ho, List.count_append]) p4 k1⟩
 ·have e1 : alStep (x.al slot gen w.n) m w.s w.a = (m.tick, w.s, ⟨0, { w.a.v with cnt := w.a.v.cnt + 1 }, w.a.t, gNone, false⟩) := by
   unfold alStep; rw [hd, h0]; simp only [Bool.false_eq_true, if_false]; rw [if_neg he]
  rw [e1]
  refine ⟨P, R, h.still (fun y => by rw [ho, own_n]) ⟨hw.n1, hw.n2, hw.lm, hw.m0, hw.m2, (by show 0 ≤ 6; omega), fun hh => (by rcases hh with hh | hh <;> cases hh), fun _ => rfl, (by show w.a.v.cnt + 1 ≤ T + 1; omega), fun _ => ?_⟩⟩
  exact ⟨r.h0, r.wok, fun hh => absurd rfl hh, fun hh => (by cases hh), fun hh => (by simp at hh), fun hh => (by cases hh), fun _ => r.z0 h6, fun hh => (by cases hh), fun hh => (by cases hh), fun hh => (by cases hh), fun _ => r.co h6⟩
theorem ag_new (h : ApG x m (A ++ w :: B) P R T) (hx : x.ok) (hs : slot < x.sl) (hd : w.a.done = false) (h0 : w.a.at_ = 5) :
  AgS x A B w.n T (alStep (x.al slot gen w.n) m w.s w.a) := by
 obtain ⟨b1, b2, b3, b4, b5, b6, b7⟩ := show MayC (x.w : Int) x.c x.wd x.sl x.ca x.ba from hx
 have hw := h.mid
 have r := hw.run hd
 have h6 : w.a.at_ ≠ 6 := by omega
 have ho := Wk.own_g hw h6
 have hcnt := hw.cnt
 have hh0 := r.hand (.inr (.inr h0))
 obtain ⟨n1, n2⟩ := r.need (by omega) h6
 have hwas := r.wok
 have hnd := h.own_nd
 have hor := h.own_rng
 rw [ho] at hnd hor
 have hmem : w.a.v.hand ∈ w.own := by rw [ho, if_pos hh0]; simp
 have hr := h.own_rng _ hmem
 by_cases he : m.at_ (x.root + slot) = w.a.v.was
 ·have e1 : alStep (x.al slot gen w.n) m w.s w.a = (m.put (x.root + slot) (Rt.w ⟨(rtOf w.a.v.was).gen, 2 + w.a.v.hand.toNat, (rtOf w.a.v.was).cl, afterS x.wd w.a.v.need⟩), alClose x.pool w.s { w.a.v with cnt := w.a.v.cnt + 1, hand := -1 } w.a.t 0 ⟨slot, gen, w.a.v.hand, 0, w.n⟩) := by
   unfold alStep; rw [hd, h0]; simp only [Bool.false_eq_true, if_false]; rw [if_pos he]
  rw [e1]
  have haf2 := afterS_le n2
  obtain ⟨q, hq⟩ : ∃ q : Rt, (⟨(rtOf w.a.v.was).gen, 2 + w.a.v.hand.toNat, (rtOf w.a.v.was).cl, afterS x.wd w.a.v.need⟩ : Rt) = q := ⟨_, rfl⟩
  have hqo : q.ok := by rw [← hq]; exact ⟨hwas.g, by show 2 + w.a.v.hand.toNat ≤ 4097; omega, hwas.c, by show afterS x.wd w.a.v.need ≤ 1024; omega⟩
  rw [hq]
  obtain ⟨p2, p3, p4, p5, p6⟩ := ag_root h hx hs q.w (by rw [rtOf_w hqo]; exact hqo)
  have hnd2 : w.s.xs.Nodup := (List.nodup_append.1 hnd).1
  obtain ⟨k1, k2⟩ := alClose_wkG (x := x) (T := T + 1) (m := m.put (x.root + slot) q.w) (P := P) (s := w.s) (v := { w.a.v with cnt := w.a.v.cnt + 1, hand := -1 }) (t := w.a.t) (code := 0) (o := ⟨slot, gen, w.a.v.hand, 0, w.n⟩) hw.n1 hw.n2 hw.lm hw.m0 hw.m2 (by show w.a.v.cnt + 1 ≤ T + 1; omega) hwas
   (by rw [if_neg (by show ¬ (0 : Int) ≤ -1; omega), List.append_nil]; exact hnd2) (by rw [if_neg (by show ¬ (0 : Int) ≤ -1; omega), List.append_nil]; exact fun y hy => hor y (List.mem_append_left _ hy))
  refine ⟨P, w.a.v.hand :: R, h.upd p3 (Mm.ok_put h.ok (Rt.w_lt hqo)) p6 p2 (.inl ⟨p5, rfl⟩) (by dsimp only; rw [p5]; omega) (fun y => ?_) p4 k1⟩
  rw [k2, ho, if_pos hh0]
  dsimp only
  rw [if_neg (by omega)]
  simp only [List.count_append, List.count_cons, List.count_nil]
  omega
 ·have e1 : alStep (x.al slot gen w.n) m w.s w.a = (m.tick, w.s, ⟨0, { w.a.v with cnt := w.a.v.cnt + 1 }, w.a.t, gNone, false⟩) := by
   unfold alStep; rw [hd, h0]; simp only [Bool.false_eq_true, if_false]; rw [if_neg he]
  rw [e1]
  refine ⟨P, R, h.still (fun y => by rw [ho, own_n]) ⟨hw.n1, hw.n2, hw.lm, hw.m0, hw.m2, (by show 0 ≤ 6; omega), fun hh => (by rcases hh with hh | hh <;> cases hh), fun _ => rfl, (by show w.a.v.cnt + 1 ≤ T + 1; omega), fun _ => ?_⟩⟩
  exact ⟨r.h0, r.wok, fun hh => absurd rfl hh, fun hh => (by cases hh), fun hh => (by simp at hh), fun hh => (by cases hh), fun _ => r.z0 h6, fun hh => (by cases hh), fun hh => (by cases hh), fun hh => (by cases hh), fun _ => r.co h6⟩
end
end Go.Proofs.YtflalhdofhobmaaGreat


namespace Go.Proofs.YtflalhdofhobmaaGreat
section
variable {x : Cn} {T : Nat} {m : Mm} {A B : List Wk} {w : Wk} {P R : List Int} {slot : Nat} {gen : Int}
theorem ag_take (h : ApG x m (A ++ w :: B) P R T) (hx : x.ok) (hT : T ≤ 1000) (hd : w.a.done = false) (h0 : w.a.at_ = 2) :
  AgS x A B w.n T (alStep (x.al slot gen w.n) m w.s w.a) := by
 have hlen := hx.len_le
 have hpok := hx.pool (n := x.len) (Nat.le_refl _) hlen
 have g1 : x.root + x.sl ≤ x.link := by unfold Cn.root Cn.link; omega
 have g3 : 3 ≤ x.root := by unfold Cn.root; omega
 have g0 : x.pool.head = 0 := rfl
 have hw := h.mid
 have r := hw.run hd
 have h6 : w.a.at_ ≠ 6 := by omega
 have ho := Wk.own_g hw h6
 have hcnt := hw.cnt
 obtain ⟨hhand, hask⟩ := r.noh h0
 have hz0 := r.z0 h6 (by omega)
 have hne := r.need (by omega) h6
 have hn1 := hw.n1
 have hn2 := hw.n2
 have hco := r.co h6
 rw [if_neg (by omega), List.append_nil] at ho
 obtain ⟨t1, t2, t3, t4, t5, t6, t7⟩ := r.tk h0
 have htag : Tagged x.pool m := by unfold Tagged; have := h.tag; omega
 obtain ⟨P', p1, p2, p3, p4, p5, p6, p7⟩ := popStep_inv hpok h.len h.pool t5 htag t7
 have hq := popStep_ok (m := m) hpok h.ok t5
 have hmm := popStep_mem (m := m) hpok h.ok t5
 obtain ⟨Q, hQ⟩ : ∃ Q, popStep x.pool m w.a.t.q = Q := ⟨_, rfl⟩
 have e0 : takeStep x.pool x.ba m w.s w.a.t = if Q.1.done then (Q.2, popped w.s { w.a.t with q := Q.1 }) else (Q.2, w.s, { w.a.t with q := Q.1 }) := by
  unfold takeStep; rw [t2, t1]; simp only [Bool.false_eq_true, if_false, hQ, t1, t2]
 rw [hQ] at p1 p2 p3 p4 p5 p6 p7 hq hmm
 have hroot : ∀ s, s < x.sl → (rtOf (Q.2.at_ (x.root + s))).ok := fun s hs => by rw [p4 _ (by omega)]; exact h.root s hs
 have hfr : FrG x w.own m Q.2 := fun a h1 _ _ _ => p4 a h1
 have hout : ∀ w', (∀ y, P'.count y + w'.own.count y = P.count y + w.own.count y) → WkG x (T + 1) Q.2 P' w' → ApG x Q.2 (A ++ w' :: B) P' R (T + 1) := fun w' hc hk =>
  h.upd (by rw [hmm.2]; exact h.len) hmm.1 hroot p1 p3 p5 (fun y => by have := hc y; omega) hfr hk
 cases hqd : Q.1.done with
 | false =>
   have e2 : alStep (x.al slot gen w.n) m w.s w.a = (Q.2, w.s, ⟨2, { w.a.v with cnt := w.a.v.cnt + 1 }, { w.a.t with q := Q.1 }, gNone, false⟩) := by
    unfold alStep; rw [hd, h0]; simp only [Bool.false_eq_true, if_false, e0, hqd, t2]
   rw [e2]
   have hP := p6 hqd
   refine ⟨P', R, hout _ (fun y => ?_) ⟨hw.n1, hw.n2, hw.lm, hw.m0, hw.m2, (by show 2 ≤ 6; omega), fun hh => (by rcases hh with hh | hh <;> cases hh), fun _ => rfl, (by show w.a.v.cnt + 1 ≤ T + 1; omega), fun _ => ?_⟩⟩
   ·rw [ho, own_n, hP]
    dsimp only
    rw [if_neg (by omega), List.append_nil]
   ·exact ⟨r.h0, r.wok, fun _ _ => hne, fun hh => (by cases hh), fun hh => (by simp at hh), fun hh => (by cases hh), fun _ _ => hz0, fun _ => ⟨hhand, hask⟩, fun _ => ⟨t1, t2, t3, t4, hq, hqd, p2⟩, fun hh => (by cases hh), fun _ => hco⟩
 | true =>
   have hP := p7 t6 hqd
   cases hg : Q.1.got with
   | nil =>
     rw [hg, List.nil_append] at hP
     have e2 : alStep (x.al slot gen w.n) m w.s w.a = (Q.2, w.s, ⟨0, { w.a.v with cnt := w.a.v.cnt + 1 }, { w.a.t with q := Q.1, done := true }, gNone, false⟩) := by
      unfold alStep; rw [hd, h0]; simp only [Bool.false_eq_true, if_false, e0, hqd, if_true, popped, hg, alTaken, t4]
     rw [e2]
     refine ⟨P', R, hout _ (fun y => ?_) ⟨hw.n1, hw.n2, hw.lm, hw.m0, hw.m2, (by show 0 ≤ 6; omega), fun hh => (by rcases hh with hh | hh <;> cases hh), fun _ => rfl, (by show w.a.v.cnt + 1 ≤ T + 1; omega), fun _ => ?_⟩⟩
     ·rw [ho, own_n, hP]
      dsimp only
      rw [if_neg (by omega), List.append_nil]
     ·exact ⟨r.h0, r.wok, fun hh => absurd rfl hh, fun hh => (by cases hh), fun hh => (by simp at hh), fun hh => (by cases hh), fun _ _ => hz0, fun hh => (by cases hh), fun hh => (by cases hh), fun hh => (by cases hh), fun _ => hco⟩
   | cons z l =>
     rw [hg] at hP
     have hzr : 0 ≤ z ∧ z < (x.c : Int) := h.rng z (by rw [hP]; simp; omega)
     have e2 : alStep (x.al slot gen w.n) m w.s w.a = (Q.2, w.s.give l, ⟨3, { w.a.v with cnt := w.a.v.cnt + 1, hand := z }, { w.a.t with q := Q.1, chunk := z, is_ := true, done := true }, gNone, false⟩) := by
      unfold alStep; rw [hd, h0]; simp only [Bool.false_eq_true, if_false, e0, hqd, if_true, popped, hg, alTaken]
     rw [e2]
     refine ⟨P', R, hout _ (fun y => ?_) ⟨hw.n1, hw.n2, hw.lm, hw.m0, hw.m2, (by show 3 ≤ 6; omega), fun hh => (by rcases hh with hh | hh <;> cases hh), fun _ => rfl, (by show w.a.v.cnt + 1 ≤ T + 1; omega), fun _ => ?_⟩⟩
     ·rw [ho, own_n, hP]
      dsimp only
      rw [if_pos hzr.1]
      simp only [SupS.give, List.count_append, List.count_cons, List.cons_append, List.count_nil]
      omega
     ·refine ⟨by show -1 ≤ z; omega, r.wok, fun _ _ => hne, fun hh => (by cases hh), fun _ => hzr.1, fun _ => ?_, fun _ _ => hz0, fun hh => (by cases hh), fun hh => (by cases hh), fun hh => (by cases hh), fun _ => hco⟩
      show w.a.v.zat < x.wd
      omega
theorem ag_zero (h : ApG x m (A ++ w :: B) P R T) (hx : x.ok) (hd : w.a.done = false) (h0 : w.a.at_ = 3) :
  AgS x A B w.n T (alStep (x.al slot gen w.n) m w.s w.a) := by
 have g1 : x.root + x.sl ≤ x.link := by unfold Cn.root Cn.link; omega
 have g2 : x.link + x.c = x.word := by unfold Cn.link Cn.word; omega
 have g3 : 3 ≤ x.root := by unfold Cn.root; omega
 have g5 : x.word + x.c * x.wd = x.len := by unfold Cn.word Cn.len; omega
 have g0 : x.pool.head = 0 := rfl
 have hw := h.mid
 have r := hw.run hd
 have h6 : w.a.at_ ≠ 6 := by omega
 have ho := Wk.own_g hw h6
 have hcnt := hw.cnt
 have hh0 := r.hand (.inl h0)
 have hzl := r.zlt h0
 have hmem : w.a.v.hand ∈ w.own := by rw [ho, if_pos hh0]; simp
 have hr := h.own_rng _ hmem
 have e1 : alStep (x.al slot gen w.n) m w.s w.a = (m.put (x.word + w.a.v.hand.toNat * x.wd + w.a.v.zat) 0, w.s, ⟨if w.a.v.zat + 1 < x.wd then 3 else 4, { w.a.v with cnt := w.a.v.cnt + 1, zat := w.a.v.zat + 1 }, w.a.t, gNone, false⟩) := by
  unfold alStep; rw [hd, h0]; rfl
 rw [e1]
 have hmul : w.a.v.hand.toNat * x.wd + x.wd ≤ x.c * x.wd := by
  have : (w.a.v.hand.toNat + 1) * x.wd ≤ x.c * x.wd := Nat.mul_le_mul_right _ (by omega)
  rw [Nat.succ_mul] at this; exact this
 obtain ⟨q, hq⟩ : ∃ q, x.word + w.a.v.hand.toNat * x.wd + w.a.v.zat = q := ⟨_, rfl⟩
 have hql : q < m.ws.length := by rw [h.len]; omega
 have hput : ∀ a, (m.put q 0).at_ a = if q = a then 0 else m.at_ a := fun a => Mm.at_put a hql
 rw [hq]
 have hhead : (m.put q 0).at_ x.pool.head = m.at_ x.pool.head := by rw [hput, if_neg (by omega)]
 refine ⟨P, R, h.upd (by rw [Mm.len_put]; exact h.len) (Mm.ok_put h.ok (by omega)) (fun s hs => by dsimp only; rw [hput, if_neg (by omega)]; exact h.root s hs) (h.pool.put_other hql (by omega) (fun y hy => ?_)) (.inl ⟨hhead, rfl⟩) (by dsimp only; rw [hhead]; omega) (fun y => ?_) (fun a _ _ _ h4 => ?_) ?_⟩
 ·have := h.pool.c.mem y hy
  have h2 : y < (x.c : Int) := this.2
  show q ≠ x.link + y.toNat
  omega
 ·rw [ho, own_n]
 ·dsimp only
  rw [hput, if_neg (by omega)]
 ·refine ⟨hw.n1, hw.n2, hw.lm, hw.m0, hw.m2, (by dsimp only; split <;> omega), fun hh => ?_, fun _ => rfl, (by show w.a.v.cnt + 1 ≤ T + 1; omega), fun _ => ?_⟩
  ·dsimp only at hh
   rcases hh with hh | hh
   ·cases hh
   ·split at hh <;> omega
  ·refine ⟨r.h0, r.wok, fun _ _ => r.need (by omega) h6, fun hh => ?_, fun _ => hh0, fun hh => ?_, fun _ hh => absurd hh0 (by have : w.a.v.hand < 0 := hh; omega), fun hh => ?_, fun hh => ?_, fun hh => ?_, fun _ => r.co h6⟩
   ·dsimp only at hh; split at hh <;> omega
   ·dsimp only at hh ⊢
    split at hh
    ·assumption
    ·omega
   ·dsimp only at hh; split at hh <;> omega
   ·dsimp only at hh; split at hh <;> omega
   ·dsimp only at hh; split at hh <;> omega
theorem ag_link (h : ApG x m (A ++ w :: B) P R T) (hx : x.ok) (hd : w.a.done = false) (h0 : w.a.at_ = 4) :
  AgS x A B w.n T (alStep (x.al slot gen w.n) m w.s w.a) := by
 have g1 : x.root + x.sl ≤ x.link := by unfold Cn.root Cn.link; omega
 have g2 : x.link + x.c = x.word := by unfold Cn.link Cn.word; omega
 have g3 : 3 ≤ x.root := by unfold Cn.root; omega
 have g5 : x.word + x.c * x.wd = x.len := by unfold Cn.word Cn.len; omega
 have g0 : x.pool.head = 0 := rfl
 have hw := h.mid
 have r := hw.run hd
 have h6 : w.a.at_ ≠ 6 := by omega
 have ho := Wk.own_g hw h6
 have hcnt := hw.cnt
 have hh0 := r.hand (.inr (.inl h0))
 have hmem : w.a.v.hand ∈ w.own := by rw [ho, if_pos hh0]; simp
 have hr := h.own_rng _ hmem
 obtain ⟨V, hV⟩ : ∃ V, ((rtOf w.a.v.was).chunk + 1).toNat = V := ⟨_, rfl⟩
 have hVl : V < 18446744073709551616 := by
  rw [← hV]; unfold Rt.chunk
  have := rtOf_mrk w.a.v.was
  split <;> omega
 have e1 : alStep (x.al slot gen w.n) m w.s w.a = (m.put (x.link + w.a.v.hand.toNat) V, w.s, ⟨5, { w.a.v with cnt := w.a.v.cnt + 1 }, w.a.t, gNone, false⟩) := by
  unfold alStep; rw [hd, h0, ← hV]; rfl
 rw [e1]
 obtain ⟨q, hq⟩ : ∃ q, x.link + w.a.v.hand.toNat = q := ⟨_, rfl⟩
 have hql : q < m.ws.length := by rw [h.len]; omega
 have hput : ∀ a, (m.put q V).at_ a = if q = a then V else m.at_ a := fun a => Mm.at_put a hql
 rw [hq]
 have hhead : (m.put q V).at_ x.pool.head = m.at_ x.pool.head := by rw [hput, if_neg (by omega)]
 refine ⟨P, R, h.upd (by rw [Mm.len_put]; exact h.len) (Mm.ok_put h.ok hVl) (fun s hs => by dsimp only; rw [hput, if_neg (by omega)]; exact h.root s hs) (h.pool.put_other hql (by omega) (fun y hy => ?_)) (.inl ⟨hhead, rfl⟩) (by dsimp only; rw [hhead]; omega) (fun y => by rw [ho, own_n]) (fun a _ _ h3 _ => ?_) ?_⟩
 ·have := h.pool.c.mem y hy
  have hyn : y ≠ w.a.v.hand := fun e => h.own_P hmem (by rw [← e]; exact hy)
  show q ≠ x.link + y.toNat
  omega
 ·dsimp only
  rw [hput, if_neg (fun e => h3 _ hmem (by rw [hq]; exact e.symm))]
 ·refine ⟨hw.n1, hw.n2, hw.lm, hw.m0, hw.m2, (by show 5 ≤ 6; omega), fun hh => (by rcases hh with hh | hh <;> cases hh), fun _ => rfl, (by show w.a.v.cnt + 1 ≤ T + 1; omega), fun _ => ?_⟩
  exact ⟨r.h0, r.wok, fun _ _ => r.need (by omega) h6, fun hh => (by cases hh), fun _ => hh0, fun hh => (by cases hh), fun _ => r.z0 h6, fun hh => (by cases hh), fun hh => (by cases hh), fun hh => (by cases hh), fun _ => r.co h6⟩
theorem ag_push (h : ApG x m (A ++ w :: B) P R T) (hx : x.ok) (hT : T ≤ 1000) (hd : w.a.done = false) (h0 : w.a.at_ = 6) :
  AgS x A B w.n T (alStep (x.al slot gen w.n) m w.s w.a) := by
 have hlen := hx.len_le
 have hpok := hx.pool (n := x.len) (Nat.le_refl _) hlen
 have g1 : x.root + x.sl ≤ x.link := by unfold Cn.root Cn.link; omega
 have g3 : 3 ≤ x.root := by unfold Cn.root; omega
 have g0 : x.pool.head = 0 := rfl
 have gl : x.pool.links = x.link := rfl
 have hw := h.mid
 have r := hw.run hd
 have hcnt := hw.cnt
 have hhand := hw.h6 (.inr h0)
 obtain ⟨t1, t2, t3⟩ := r.ps h0
 have hog : ownG w.a = w.a.g.l := by unfold ownG; rw [t2]; rfl
 have ho : w.own = w.s.xs ++ w.a.g.l := by unfold Wk.own ownH; rw [if_neg (by omega), hog, List.nil_append]
 have hsub : ∀ y ∈ w.a.g.l, y ∈ w.own := fun y hy => by rw [ho]; exact List.mem_append_right _ hy
 have htag : Tagged x.pool m := by unfold Tagged; have := h.tag; omega
 have hnd := h.own_nd
 rw [ho] at hnd
 obtain ⟨P', p1, p2, p3, p4, p5, p6, p7, p8⟩ := pushStep_inv hpok h.len h.pool t1 (List.nodup_append.1 hnd).2.1 (fun y hy => h.own_P (hsub y hy)) htag t3
 have hq := pushStep_ok (k := x.pool) (m := m) h.ok t1
 have hmm := pushStep_mem (m := m) hpok h.ok t1
 obtain ⟨Q, hQ⟩ : ∃ Q, pushStep x.pool m w.a.g = Q := ⟨_, rfl⟩
 rw [hQ] at p1 p2 p3 p4 p5 p6 p7 p8 hq hmm
 have e1 : alStep (x.al slot gen w.n) m w.s w.a = (Q.2, w.s, ⟨6, { w.a.v with cnt := w.a.v.cnt + 1 }, w.a.t, Q.1, Q.1.done⟩) := by
  unfold alStep; rw [hd, h0, ← hQ]; rfl
 rw [e1]
 refine ⟨P', R, h.upd (by dsimp only; rw [hmm.2]; exact h.len) hmm.1 (fun s hs => by dsimp only; rw [p4 _ (by omega) (fun y hy => by rw [gl]; omega)]; exact h.root s hs) p1 p3 p5 (fun y => ?_) (fun a k1 _ k3 _ => p4 a k1 (fun y hy => k3 y (hsub y hy))) ?_⟩
 ·rw [ho]
  cases hqd : Q.1.done with
  | false =>
    have e : Wk.own ⟨w.s, ⟨6, { w.a.v with cnt := w.a.v.cnt + 1 }, w.a.t, Q.1, Q.1.done⟩, w.n⟩ = w.s.xs ++ w.a.g.l := by
     show w.s.xs ++ ((if 0 ≤ w.a.v.hand then [w.a.v.hand] else []) ++ (if Q.1.done = true then [] else Q.1.l)) = _
     rw [hqd, if_neg (by omega), p6]; rfl
    rw [hqd] at e
    rw [p7 hqd]
    dsimp only
    rw [e]
  | true =>
    have e : Wk.own ⟨w.s, ⟨6, { w.a.v with cnt := w.a.v.cnt + 1 }, w.a.t, Q.1, Q.1.done⟩, w.n⟩ = w.s.xs := by
     show w.s.xs ++ ((if 0 ≤ w.a.v.hand then [w.a.v.hand] else []) ++ (if Q.1.done = true then [] else Q.1.l)) = _
     rw [hqd, if_neg (by omega)]; simp
    rw [hqd] at e
    rw [p8 t2 hqd]
    dsimp only
    rw [e]
    simp only [List.count_append]; omega
 ·refine ⟨hw.n1, hw.n2, hw.lm, hw.m0, hw.m2, Nat.le_refl _, fun _ => hhand, fun hh => hh.elim id (fun hh => absurd rfl hh), (by show w.a.v.cnt + 1 ≤ T + 1; omega), fun hh => ?_⟩
  exact ⟨r.h0, r.wok, fun _ hh => absurd rfl hh, fun hh => (by cases hh), fun hh => (by simp at hh), fun hh => (by cases hh), fun hh => absurd rfl hh, fun hh => (by cases hh), fun hh => (by cases hh), fun _ => ⟨hq, hh, p2⟩, fun hh => absurd rfl hh⟩
theorem ag_step (h : ApG x m (A ++ w :: B) P R T) (hx : x.ok) (hs : slot < x.sl) (hT : T ≤ 1000) (hw8 : x.wd % 8 = 0) (hd : w.a.done = false) : AgS x A B w.n T (alStep (x.al slot gen w.n) m w.s w.a) := by
 have ha := h.mid.a6
 rcases (show w.a.at_ = 0 ∨ w.a.at_ = 1 ∨ w.a.at_ = 2 ∨ w.a.at_ = 3 ∨ w.a.at_ = 4 ∨ w.a.at_ = 5 ∨ w.a.at_ = 6 by omega) with h0 | h0 | h0 | h0 | h0 | h0 | h0
 ·exact ag_look h hx hs hw8 hd h0
 ·exact ag_fit h hx hs hd h0
 ·exact ag_take h hx hT hd h0
 ·exact ag_zero h hx hd h0
 ·exact ag_link h hx hd h0
 ·exact ag_new h hx hs hd h0
 ·exact ag_push h hx hT hd h0
theorem ApG.alOk (h : ApG x m (A ++ w :: B) P R T) (hT : T ≤ 1000) (hd : w.a.done = false) : AlOk x w.a := by
 have hw := h.mid
 have r := hw.run hd
 refine ⟨hw.a6, by have := hw.cnt; omega, r.h0, ?_, r.wok, r.fit, fun h5 => r.need (by omega) (by omega), r.hand, r.zlt, fun h2 => ?_⟩
 ·by_cases hh : 0 ≤ w.a.v.hand
  ·exact (h.own_rng w.a.v.hand (by unfold Wk.own ownH; rw [if_pos hh]; simp)).2
  ·omega
 ·obtain ⟨t1, t2, t3, t4, _⟩ := r.tk h2
  exact ⟨by omega, fun _ => ⟨t3, t4⟩⟩
theorem ApG.refA (h : ApG x m (A ++ w :: B) P R T) (hx : x.ok) (hd : w.a.done = false) : RefA x w.s w.a := by
 obtain ⟨b1, b2, b3, b4, b5, b6, b7⟩ := show MayC (x.w : Int) x.c x.wd x.sl x.ca x.ba from hx
 have hw := h.mid
 have r := hw.run hd
 have hnd := h.own_nd
 have hor := h.own_rng
 refine ⟨fun h6 => (r.co h6).1, fun h6 => (r.co h6).2, r.z0, fun h2 => ?_, fun h6 => ?_, fun h6 => ?_, fun h6 => ?_⟩
 ·obtain ⟨t1, t2, t3, t4, t5, _⟩ := r.tk h2
  exact ⟨(r.noh h2).2, (r.noh h2).1, t5, t1, t2, t4⟩
 ·obtain ⟨t1, t2, _⟩ := r.ps h6
  refine ⟨t1, ?_⟩
  have hog : ownG w.a = w.a.g.l := by unfold ownG; rw [t2]; rfl
  have : w.a.g.l.length ≤ x.c := by
   refine length_nodup x.c _ ?_ t1.g
   unfold Wk.own at hnd; rw [hog] at hnd
   exact (List.nodup_append.1 (List.nodup_append.1 hnd).2.1).2.1
  omega
 ·rw [Wk.own_g hw h6] at hnd; exact hnd
 ·rw [Wk.own_g hw h6] at hor; exact hor
end
end Go.Proofs.YtflalhdofhobmaaGreat


namespace Go.Proofs.YtflalhdofhobmaaGreat
open Go
attribute [local irreducible] Sx Cx Rx Fx Krg Ksq Kbl Klp Kr
section
variable {L F G : St}
end
end Go.Proofs.YtflalhdofhobmaaGreat


namespace Go.Proofs.YtflalhdofhobmaaGreat
open Go
attribute [local irreducible] Sx Cx Rx Fx Krg Ksq Kbl Klp Kr
section
variable {L F G : St}
end
end Go.Proofs.YtflalhdofhobmaaGreat


namespace Go.Proofs.YtflalhdofhobmaaGreat
def wl (W : Nat → Wk) : List Wk := [W 0, W 1, W 2]
section
variable {x : Cn} {cl T i : Nat} {m : Mm} {W : Nat → Wk} {has : List Hd}
end
end Go.Proofs.YtflalhdofhobmaaGreat


namespace Go.Proofs.YtflalhdofhobmaaGreat
structure EndI (e : EndS) : Prop where
 a : e.at_ ≤ 1
 w : e.was < 18446744073709551616
 o : (rtOf e.was).ok
def Ag (x : Cn) (m : Mm) (W : Nat → Wk) (T : Nat) : Prop := ∃ P R, ApG x m (wl W) P R T
section
variable {x : Cn} {T i : Nat} {m : Mm} {W : Nat → Wk}
end
end Go.Proofs.YtflalhdofhobmaaGreat


namespace Go.Proofs.YtflalhdofhobmaaGreat
open Go
attribute [local irreducible] Sx Cx Rx Fx Krg Ksq Kbl Klp Kr
structure LM (x : Cn) (m : Mm) : Prop where
 l : m.ws.length = x.len
 o : m.ok
 e : ∀ a, a < x.word → m.at_ a = (allM x).at_ a
theorem allM_0 {x : Cn} (hx : x.ok) : (allM x).at_ 0 = 1 := by
 have hlen := hx.len_le
 have hk := hx.spare (n := x.len) (Nat.le_refl _) hlen
 have hp := hx.pool (n := x.len) (Nat.le_refl _) hlen
 have h1 := (fill_pool hk (poolM_len x)).2 0 (by show (0 : Nat) ≠ 1; omega) (fun j _ => by show 0 ≠ x.slot + j; unfold Cn.slot; omega)
 unfold allM
 rw [h1]
 have hh := hp.h
 unfold poolM fillM
 rw [Mm.at_lay _ (by rw [Mm.len_lay, fillUp_len, zeroM_len]; exact hh)]
 exact if_pos rfl
def hds (l : List Hd) : List Value := l.flatMap fun o => [.int .i64 o.slot, .int .i64 o.gen, .int .i64 o.chunk, .int .i64 o.off, .int .i64 o.len]
section
variable {L F G : St}
theorem many_ent {n : Nat} {f g : Nat → St} (h : ∀ i, i < n → ∀ G, Ent (f i ++ G) (g i ++ G)) : ∀ {G : St}, Ent (many n f ++ G) (many n g ++ G) := by
 induction n with
 | zero => exact Ent.refl _
 | succ n ih =>
   intro G
   rw [many_succ, many_succ, List.append_assoc, List.append_assoc]
   exact Ent.trans (ih fun i hi => h i (by omega)) (Ent.app (h n (by omega) G))
def updN (f : Nat → Nat) (i v : Nat) : Nat → Nat := fun j => if j = i then v else f j
end
end Go.Proofs.YtflalhdofhobmaaGreat


namespace Go.Proofs.YtflalhdofhobmaaGreat
section
variable {x : Cn} {T i : Nat} {m : Mm} {W : Nat → Wk}
end
end Go.Proofs.YtflalhdofhobmaaGreat


namespace Go.Proofs.YtflalhdofhobmaaGreat
section
variable {x : Cn} {slot n : Nat} {gen : Int} {m : Mm} {S : SupS}
theorem takeInit_askB {ba : Int} (hxs : S.xs = []) (hlm : S.lm.size = 0) : takeInit ba S = (S, ⟨1, 0, false, -1, PopS.init ba, false⟩) := by
 unfold takeInit keepT
 rw [if_pos hxs]
 dsimp only
 first | (rw [if_pos hlm]; rfl) | (simp [hlm, TakeS.none_])
theorem al_firstB (hxs : S.xs = []) (hlm : S.lm.size = 0) (hlv : (rtOf (m.at_ (x.root + slot))).live gen) (need : Nat) (hneed : roundS (rtOf (m.at_ (x.root + slot))).cl n = need) (hf : ¬ (2 ≤ (rtOf (m.at_ (x.root + slot))).mrk ∧ fitsS x.wd (rtOf (m.at_ (x.root + slot))).off need)) :
  alIt (x.al slot gen n) 1 (alR m S) = (m.tick, S, ⟨2, ⟨1, -1, 0, true, false, need, 0, m.at_ (x.root + slot), 0, Hd.zero⟩, ⟨1, 0, false, -1, PopS.init x.ba, false⟩, gNone, false⟩) := by
 show (m.tick, alSeen (x.al slot gen n) S { AlV.init with cnt := 1, was := m.at_ (x.root + slot) } TakeS.zero) = _
 unfold alSeen
 rw [if_pos hlv]
 dsimp only
 rw [hneed, if_neg hf, if_neg (by show ¬ (0 : Int) ≤ -1; omega), if_neg (by show ¬ false = true; decide), takeInit_askB hxs hlm, if_neg (by show ¬ false = true; decide)]
 rfl
theorem al_anew (hx : x.ok) (hl : m.ws.length = x.len) (hm : m.ok) (hsl : slot < x.sl) (hk : (rtOf (m.at_ (x.root + slot))).ok) (hm0 : 0 ≤ S.most) (hm2 : S.most ≤ 64) (hxs : S.xs = []) (hlm : S.lm.size = 0) (hw8 : x.wd % 8 = 0) (hn : 1 ≤ n) (hnw : n ≤ x.wd)
  (hlv : (rtOf (m.at_ (x.root + slot))).live gen) (need : Nat) (hneed : roundS (rtOf (m.at_ (x.root + slot))).cl n = need) (hf : ¬ (2 ≤ (rtOf (m.at_ (x.root + slot))).mrk ∧ fitsS x.wd (rtOf (m.at_ (x.root + slot))).off need)) (y : Nat) (l : List Int) (hp : Pool x.pool m ((y : Int) :: l)) :
  ∃ (N : Nat) (M : Mm) (S' : SupS) (a : AlS) (P' : List Int), alIt (x.al slot gen n) N (alR m S) = (M, S', a) ∧ N ≤ x.wd + 30 ∧ a.done = true ∧ (∀ j, j < N → (alIt (x.al slot gen n) j (alR m S)).2.2.done = false) ∧
   M.ws.length = x.len ∧ M.ok ∧ Pool x.pool M P' ∧ S'.lm = S.lm ∧ S'.most = S.most ∧ (S'.xs.length : Int) ≤ S.most ∧ (S'.xs ++ P').Perm l ∧ M.at_ (x.root + slot) = Rt.w ⟨(rtOf (m.at_ (x.root + slot))).gen, 2 + y, (rtOf (m.at_ (x.root + slot))).cl, afterS x.wd need⟩ ∧
   M.at_ (x.link + y) = ((rtOf (m.at_ (x.root + slot))).chunk + 1).toNat ∧ (∀ a, a ≠ 0 → a < x.link → a ≠ x.root + slot → M.at_ a = m.at_ a) := by
 have hlen := hx.len_le
 obtain ⟨b1, b2, b3, b4, b5, b6, b7⟩ := show MayC (x.w : Int) x.c x.wd x.sl x.ca x.ba from hx
 have hpk := hx.pool (n := m.ws.length) (by omega) (by omega)
 obtain ⟨_, hy0, hy1, hpc⟩ := hp.c
 have hyc : y < x.c := by have : (y : Int) < x.c := hy1; omega
 have hwl := Mm.at_lt hm (x.root + slot)
 have hwd : x.word + y * x.wd + x.wd ≤ x.len := by
  have := word_lt (x := x) (k := y) (j := x.wd - 1) hyc (by omega); omega
 have g1 : x.root + x.sl ≤ x.link := by unfold Cn.root Cn.link; omega
 have g2 : x.link + x.c = x.word := by unfold Cn.link Cn.word; omega
 have g3 : 3 ≤ x.root := by unfold Cn.root; omega
 have e1 := al_firstB (x := x) (slot := slot) (gen := gen) (n := n) (m := m) (S := S) hxs hlm hlv need hneed hf
 have hcl := hk.c
 obtain ⟨W, hW⟩ : ∃ W, m.at_ (x.root + slot) = W := ⟨_, rfl⟩
 have hk' := hk
 rw [hW] at hk hlv hneed hf hwl e1 hcl ⊢
 have hn1 : 1 ≤ need := by have := roundS_ge (cl := (rtOf W).cl) (n := n) hcl; omega
 have hn2 : need ≤ x.wd := by rw [← hneed]; exact roundS_le hcl hnw hw8
 -- the Pop
 have hp1 : Pool x.pool m.tick ((y : Int) :: l) := ⟨hp.c.congr fun _ _ => rfl, hp.nd⟩
 obtain ⟨c, hc⟩ : ∃ c : Nat, (c : Int) = min (x.ba : Int) ((y : Int) :: l).length := ⟨(min (x.ba : Int) ((y : Int) :: l).length).toNat, by simp only [List.length_cons]; omega⟩
 have hcl1 := hc
 simp only [List.length_cons] at hcl1
 obtain ⟨d, rfl⟩ : ∃ d, c = d + 1 := ⟨c - 1, by omega⟩
 obtain ⟨m1, p1, n1, l1, po1, a1, d1⟩ := pop_alone (k := x.pool) (m := m.tick) (len := m.ws.length) hpk rfl hp1 x.ba (by omega) (by omega) (by simp) (d + 1) hc
 simp only [List.drop_succ_cons, List.take_succ_cons] at p1 po1
 have hin : ∀ j, (popIt x.pool j (PopS.init x.ba, m.tick)).2.ok ∧ (popIt x.pool j (PopS.init x.ba, m.tick)).1.ok x.pool ∧ (popIt x.pool j (PopS.init x.ba, m.tick)).2.ws.length = m.ws.length := by
  intro j
  induction j with
  | zero => exact ⟨hm, PopS.ok_init hpk.n1 x.ba, rfl⟩
  | succ j ih =>
    rw [popIt_succ]
    exact ⟨(popStep_mem hpk ih.1 ih.2.1).1, popStep_ok hpk ih.1 ih.2.1, (popStep_mem hpk ih.1 ih.2.1).2.trans ih.2.2⟩
 have hm1 : m1.ok := by have := (hin (d + 1 + 2)).1; rw [p1] at this; exact this
 have e2 : ∀ j, j < d + 1 + 2 → alIt (x.al slot gen n) (1 + j) (alR m S) = ((popIt x.pool j (PopS.init x.ba, m.tick)).2, S, ⟨2, ⟨1 + j, -1, 0, true, false, need, 0, W, 0, Hd.zero⟩, ⟨1, 0, false, -1, (popIt x.pool j (PopS.init x.ba, m.tick)).1, false⟩, gNone, false⟩) := by
  intro j
  induction j with
  | zero => intro _; exact e1
  | succ j ih =>
    intro hj
    show alStep (x.al slot gen n) (alIt (x.al slot gen n) (1 + j) (alR m S)).1 (alIt (x.al slot gen n) (1 + j) (alR m S)).2.1 (alIt (x.al slot gen n) (1 + j) (alR m S)).2.2 = _
    rw [ih (by omega), popIt_succ]
    have hdn := d1 (j + 1) hj
    rw [popIt_succ] at hdn
    have ht : takeStep x.pool x.ba (popIt x.pool j (PopS.init x.ba, m.tick)).2 S ⟨1, 0, false, -1, (popIt x.pool j (PopS.init x.ba, m.tick)).1, false⟩ = ((popStep x.pool (popIt x.pool j (PopS.init x.ba, m.tick)).2 (popIt x.pool j (PopS.init x.ba, m.tick)).1).2, S, ⟨1, 0, false, -1, (popStep x.pool (popIt x.pool j (PopS.init x.ba, m.tick)).2 (popIt x.pool j (PopS.init x.ba, m.tick)).1).1, false⟩) := by
     unfold takeStep
     simp only [Bool.false_eq_true, if_false]
     rw [hdn]
     rfl
    unfold alStep
    simp only [Bool.false_eq_true, if_false]
    rw [ht]
    rfl
 have e3 := e2 (d + 2) (by omega)
 have p2 : popStep x.pool (popIt x.pool (d + 2) (PopS.init x.ba, m.tick)).2 (popIt x.pool (d + 2) (PopS.init x.ba, m.tick)).1 = (⟨x.ba, 0, (l.drop d).headD (-1), m.tick.at_ x.pool.head, (y : Int) :: l.take d, true⟩, m1) := by
  have := p1
  rw [show d + 1 + 2 = (d + 2) + 1 by omega, popIt_succ] at this
  exact this
 obtain ⟨T, hT⟩ : ∃ T : TakeS, T = ⟨1, y, true, -1, ⟨x.ba, 0, (l.drop d).headD (-1), m.tick.at_ x.pool.head, (y : Int) :: l.take d, true⟩, true⟩ := ⟨_, rfl⟩
 obtain ⟨S1, hS1⟩ : ∃ S1, S1 = S.give (l.take d) := ⟨_, rfl⟩
 have hS1x : S1.xs = l.take d := by rw [hS1]; show S.xs ++ l.take d = _; rw [hxs, List.nil_append]
 have e4 : alIt (x.al slot gen n) (d + 4) (alR m S) = (m1, S1, ⟨3, ⟨d + 4, y, 0, true, false, need, 0, W, 0, Hd.zero⟩, T, gNone, false⟩) := by
  show alStep (x.al slot gen n) (alIt (x.al slot gen n) (d + 3) (alR m S)).1 (alIt (x.al slot gen n) (d + 3) (alR m S)).2.1 (alIt (x.al slot gen n) (d + 3) (alR m S)).2.2 = _
  rw [show d + 3 = 1 + (d + 2) by omega, e3]
  have ht : takeStep x.pool x.ba (popIt x.pool (d + 2) (PopS.init x.ba, m.tick)).2 S ⟨1, 0, false, -1, (popIt x.pool (d + 2) (PopS.init x.ba, m.tick)).1, false⟩ = (m1, S1, T) := by
   unfold takeStep
   simp only [Bool.false_eq_true, if_false]
   rw [p2]
   dsimp only
   unfold popped
   dsimp only
   rw [if_pos rfl, hT, hS1]
  unfold alStep
  simp only [Bool.false_eq_true, if_false]
  rw [ht]
  dsimp only
  rw [show T.done = true by rw [hT], if_pos rfl]
  unfold alTaken
  rw [show T.is_ = true by rw [hT], if_pos rfl, show T.chunk = y by rw [hT], show 1 + (d + 2) + 1 = d + 4 by omega]
 have hwk : 1 ≤ x.wd := by omega
 have e5 : ∀ i, i ≤ x.wd → alIt (x.al slot gen n) (d + 4 + i) (alR m S) = (clrM m1 (x.word + y * x.wd) i, S1, ⟨if i < x.wd then 3 else 4, ⟨d + 4 + i, y, i, true, false, need, 0, W, 0, Hd.zero⟩, T, gNone, false⟩) := by
  intro i
  induction i with
  | zero => intro _; rw [if_pos (by omega)]; exact e4
  | succ i ih =>
    intro hi
    show alStep (x.al slot gen n) (alIt (x.al slot gen n) (d + 4 + i) (alR m S)).1 (alIt (x.al slot gen n) (d + 4 + i) (alR m S)).2.1 (alIt (x.al slot gen n) (d + 4 + i) (alR m S)).2.2 = _
    rw [ih (by omega), if_pos (by omega)]
    unfold alStep
    simp only [Bool.false_eq_true, if_false, Int.toNat_natCast]
    rfl
 obtain ⟨K, hK⟩ : ∃ K, K = d + 4 + x.wd := ⟨_, rfl⟩
 have e6 : alIt (x.al slot gen n) (K + 1) (alR m S) = ((clrM m1 (x.word + y * x.wd) x.wd).put (x.link + y) ((rtOf W).chunk + 1).toNat, S1, ⟨5, ⟨K + 1, y, x.wd, true, false, need, 0, W, 0, Hd.zero⟩, T, gNone, false⟩) := by
  have := e5 x.wd (Nat.le_refl _)
  rw [if_neg (by omega), ← hK] at this
  show alStep (x.al slot gen n) (alIt (x.al slot gen n) K (alR m S)).1 (alIt (x.al slot gen n) K (alR m S)).2.1 (alIt (x.al slot gen n) K (alR m S)).2.2 = _
  rw [this]
  unfold alStep
  simp only [Bool.false_eq_true, if_false, Int.toNat_natCast]
  rfl
 have hl1 : m1.ws.length = x.len := l1.trans hl
 have hlc : ∀ i, (clrM m1 (x.word + y * x.wd) i).ws.length = x.len := fun i => (clrM_len _ _ _).trans hl1
 have hcat : ∀ i, i ≤ x.wd → ∀ a, (clrM m1 (x.word + y * x.wd) i).at_ a = if x.word + y * x.wd ≤ a ∧ a < x.word + y * x.wd + i then 0 else m1.at_ a := fun i hi a => clrM_at (by omega) a
 obtain ⟨v5, hv5⟩ : ∃ v5, v5 = ((rtOf W).chunk + 1).toNat := ⟨_, rfl⟩
 have hv5l : v5 < 18446744073709551616 := by
  have := Rt.chunk_lt (rtOf_mrk W); have := (rtOf W).chunk_ge; omega
 rw [← hv5] at e6
 have hat5 : ∀ a, ((clrM m1 (x.word + y * x.wd) x.wd).put (x.link + y) v5).at_ a = if x.link + y = a then v5 else if x.word + y * x.wd ≤ a ∧ a < x.word + y * x.wd + x.wd then 0 else m1.at_ a := fun a => by
  rw [Mm.at_put _ (by rw [hlc]; omega), hcat _ (Nat.le_refl _)]
 obtain ⟨m5, hm5⟩ : ∃ m5, m5 = (clrM m1 (x.word + y * x.wd) x.wd).put (x.link + y) v5 := ⟨_, rfl⟩
 rw [← hm5] at e6 hat5
 have hl5 : m5.ws.length = x.len := by rw [hm5, Mm.len_put]; exact hlc _
 have hok5 : m5.ok := by rw [hm5]; exact Mm.ok_put (clrM_ok hm1 _ _) hv5l
 have hr1 : m1.at_ (x.root + slot) = W := by rw [a1 _ (by show x.root + slot ≠ 0; omega)]; exact hW
 have hr5 : m5.at_ (x.root + slot) = W := by rw [hat5, if_neg (by omega), if_neg (by omega), hr1]
 have hR : Rt.ok ⟨(rtOf W).gen, 2 + y, (rtOf W).cl, afterS x.wd need⟩ := ⟨hk.g, by show 2 + y ≤ 4097; omega, hk.c, by have := afterS_le hn2; show afterS x.wd need ≤ 1024; omega⟩
 obtain ⟨m6, hm6⟩ : ∃ m6, m6 = m5.put (x.root + slot) (Rt.w ⟨(rtOf W).gen, 2 + y, (rtOf W).cl, afterS x.wd need⟩) := ⟨_, rfl⟩
 have hput : ∀ a, m6.at_ a = if x.root + slot = a then Rt.w ⟨(rtOf W).gen, 2 + y, (rtOf W).cl, afterS x.wd need⟩ else m5.at_ a := fun a => by rw [hm6]; exact Mm.at_put a (by omega)
 have hl6 : m6.ws.length = x.len := by rw [hm6, Mm.len_put]; exact hl5
 have hok6 : m6.ok := by rw [hm6]; exact Mm.ok_put hok5 (Rt.w_lt hR)
 -- the end begins
 have hnd0 := hp.nd
 rw [List.nodup_cons] at hnd0
 have hndt : (l.take d).Nodup := (List.nodup_append.1 (by rw [List.take_append_drop]; exact hnd0.2 : (l.take d ++ l.drop d).Nodup)).1
 have hrg : ∀ z ∈ l, 0 ≤ z ∧ z < (x.c : Int) := fun z hz => hp.c.mem z (List.mem_cons_of_mem _ hz)
 obtain ⟨q, hq⟩ : ∃ q, overK S1.most S1.xs = q := ⟨_, rfl⟩
 have hS1m : S1.most = S.most := by rw [hS1]; rfl
 have hS1l : S1.lm = S.lm := by rw [hS1]; rfl
 have e7 : alIt (x.al slot gen n) (K + 2) (alR m S) = (m6, { S1 with xs := S1.xs.drop q }, ⟨6, ⟨K + 2, -1, x.wd, true, true, need, K + 2, W, 0, ⟨slot, gen, y, 0, n⟩⟩, T, PushS.init (S1.xs.take q), (PushS.init (S1.xs.take q)).done⟩) := by
  show alStep (x.al slot gen n) (alIt (x.al slot gen n) (K + 1) (alR m S)).1 (alIt (x.al slot gen n) (K + 1) (alR m S)).2.1 (alIt (x.al slot gen n) (K + 1) (alR m S)).2.2 = _
  rw [e6]
  unfold alStep
  simp only [Bool.false_eq_true, if_false, Int.toNat_natCast]
  rw [if_pos hr5, ← hm6, alClose_eq (x := x) (l := S1.xs) (by simp; rw [hS1x]; exact hndt) (fun z hz => by simp at hz; exact hrg z (List.mem_of_mem_take (by rw [← hS1x]; exact hz))) (by simp), hq]
 -- the pool
 have hnl : ∀ z ∈ l, z ≠ (y : Int) := fun z hz e => hnd0.1 (e ▸ hz)
 have pool6 : Pool x.pool m6 (l.drop d) := by
  refine ⟨?_, po1.nd⟩
  rw [hput, if_neg (by show ¬ x.root + slot = 0; omega), hat5, if_neg (by show ¬ x.link + y = 0; omega), if_neg (by show ¬ (_ ≤ 0 ∧ 0 < _); omega)]
  refine po1.c.congr fun z hz => ?_
  have hz2 := po1.c.mem z hz
  have hz3 : z < x.c := hz2.2
  have := hnl z (List.mem_of_mem_drop hz)
  rw [hput, if_neg (by show ¬ x.root + slot = x.link + z.toNat; omega), hat5, if_neg (by show ¬ x.link + y = x.link + z.toNat; omega), if_neg (by show ¬ (_ ≤ x.link + z.toNat ∧ _); omega)]
 have hnd : ∀ j, j < K + 2 → (alIt (x.al slot gen n) j (alR m S)).2.2.done = false := fun j hj => by
  rcases (show j = 0 ∨ (1 ≤ j ∧ j < d + 4) ∨ (d + 4 ≤ j ∧ j ≤ K) ∨ j = K + 1 by omega) with rfl | h | h | rfl
  ·rfl
  ·have := e2 (j - 1) (by omega); rw [show 1 + (j - 1) = j by omega] at this; rw [this]
  ·have := e5 (j - (d + 4)) (by omega); rw [show d + 4 + (j - (d + 4)) = j by omega] at this; rw [this]
  ·rw [e6]
 have hlast : ∀ a, a ≠ 0 → a < x.link → a ≠ x.root + slot → m6.at_ a = m.at_ a := fun a h0 h1 h2 => by
  rw [hput, if_neg (fun h => h2 h.symm), hat5, if_neg (by omega), if_neg (by omega)]
  exact a1 a h0
 have hql : q ≤ S1.xs.length := by rw [← hq]; unfold overK; omega
 have hqm : ((S1.xs.drop q).length : Int) ≤ S.most := by rw [List.length_drop, ← hq, ← hS1m]; unfold overK; omega
 have hperm : (S1.xs.drop q ++ (S1.xs.take q ++ l.drop d)).Perm l := by
  rw [← List.append_assoc]
  refine (List.perm_append_comm.append_right _).trans ?_
  rw [List.take_append_drop, hS1x, List.take_append_drop]
 have hdl : d + 1 ≤ 8 := by omega
 by_cases hq0 : S1.xs.take q = []
 ·refine ⟨K + 2, m6, { S1 with xs := S1.xs.drop q }, _, l.drop d, e7, by omega, by rw [hq0]; rfl, hnd, hl6, hok6, pool6, hS1l, hS1m, hqm, ?_, by rw [hput, if_pos rfl], ?_, hlast⟩
  ·rw [hq0, List.nil_append] at hperm; exact hperm
  ·rw [hput, if_neg (by omega), hat5, if_pos rfl, hv5]
 ·have hsub : ∀ z ∈ S1.xs.take q, z ∈ l := fun z hz => by
   have := List.mem_of_mem_take hz
   rw [hS1x] at this
   exact List.mem_of_mem_take this
  have hpk6 := hx.pool (n := m6.ws.length) (by omega) (by omega)
  have hndT : (S1.xs.take q).Nodup := by
   have : (S1.xs.take q ++ S1.xs.drop q).Nodup := by rw [List.take_append_drop, hS1x]; exact hndt
   exact (List.nodup_append.1 this).1
  have hdis : ∀ i ∈ S1.xs.take q, i ∉ l.drop d := fun i hi hi2 => by
   have h1 := List.mem_of_mem_take hi
   rw [hS1x] at h1
   have hn' : (l.take d ++ l.drop d).Nodup := by rw [List.take_append_drop]; exact hnd0.2
   exact (List.nodup_append.1 hn').2.2 _ h1 _ hi2 rfl
  obtain ⟨M, p7, _, l7, po7, a7, d7⟩ := push_alone (k := x.pool) (m := m6) (len := m6.ws.length) hpk6 rfl pool6 hq0 hndT (fun i hi => hrg i (hsub i hi)) hdis
  obtain ⟨X, hX⟩ : ∃ X, S1.xs.take q = X := ⟨_, rfl⟩
  rw [hX] at e7 p7 po7 a7 d7 hperm hndT hsub hq0
  have hXl : X.length ≤ d := by rw [← hX, List.length_take, hS1x, List.length_take]; omega
  have hin2 : ∀ j, (pushIt x.pool j (PushS.init X, m6)).2.ok ∧ (pushIt x.pool j (PushS.init X, m6)).1.ok x.pool ∧ (pushIt x.pool j (PushS.init X, m6)).2.ws.length = m6.ws.length := by
   intro j
   induction j with
   | zero => exact ⟨hok6, PushS.ok_init fun i hi => hrg i (hsub i hi), rfl⟩
   | succ j ih =>
     rw [pushIt_succ]
     exact ⟨(pushStep_mem hpk6 ih.1 ih.2.1).1, pushStep_ok ih.1 ih.2.1, (pushStep_mem hpk6 ih.1 ih.2.1).2.trans ih.2.2⟩
  have hX0 : (PushS.init X).done = false := d7 0 (by omega)
  have e8 : ∀ j, j ≤ X.length + 2 → alIt (x.al slot gen n) (K + 2 + j) (alR m S) = ((pushIt x.pool j (PushS.init X, m6)).2, { S1 with xs := S1.xs.drop q }, ⟨6, ⟨K + 2 + j, -1, x.wd, true, true, need, K + 2, W, 0, ⟨slot, gen, y, 0, n⟩⟩, T, (pushIt x.pool j (PushS.init X, m6)).1, (pushIt x.pool j (PushS.init X, m6)).1.done⟩) := by
   intro j
   induction j with
   | zero => intro _; exact e7
   | succ j ih =>
     intro hj
     show alStep (x.al slot gen n) (alIt (x.al slot gen n) (K + 2 + j) (alR m S)).1 (alIt (x.al slot gen n) (K + 2 + j) (alR m S)).2.1 (alIt (x.al slot gen n) (K + 2 + j) (alR m S)).2.2 = _
     rw [ih (by omega), d7 j (by omega), pushIt_succ]
     unfold alStep
     simp only [Bool.false_eq_true, if_false]
     rfl
  have e9 := e8 (X.length + 2) (Nat.le_refl _)
  rw [p7] at e9
  refine ⟨K + 2 + (X.length + 2), M, { S1 with xs := S1.xs.drop q }, _, X ++ l.drop d, e9, by omega, rfl, fun j hj => ?_, l7.trans hl6, ?_, po7, hS1l, hS1m, hqm, hperm, ?_, ?_, fun a h0 h1 h2 => ?_⟩
  ·by_cases hjk : j < K + 2
   ·exact hnd j hjk
   ·have := e8 (j - (K + 2)) (by omega)
    rw [show K + 2 + (j - (K + 2)) = j by omega] at this
    rw [this]
    exact d7 _ (by omega)
  ·have := (hin2 (X.length + 2)).1; rw [p7] at this; exact this
  ·rw [a7 _ (by show x.root + slot ≠ 0; omega) (fun i hi => by show x.root + slot ≠ x.link + i.toNat; omega), hput, if_pos rfl]
  ·rw [a7 _ (by show x.link + y ≠ 0; omega) (fun i hi => ?_), hput, if_neg (by omega), hat5, if_pos rfl, hv5]
   have h1 := hnl i (hsub i hi)
   have h2 := hrg i (hsub i hi)
   show x.link + y ≠ x.link + i.toNat
   omega
  ·rw [a7 _ h0 (fun i hi => by show a ≠ x.link + i.toNat; omega)]
   exact hlast a h0 h1 h2
end
end Go.Proofs.YtflalhdofhobmaaGreat


namespace Go.Proofs.YtflalhdofhobmaaGreat
structure Fresh (x : Cn) (T W0 : Nat) (f : FrS) : Prop where
 a : f.at_ = 0
 d : f.done = false
 n : f.v.cnt ≤ T
 b : f.v.back = 0
 c : f.v.code = 0
 ed : f.e.done = false
 ea : f.e.at_ = 0 ∨ (f.e.at_ = 1 ∧ f.e.was = W0)
 en : f.e.cnt ≤ T
 ec : f.e.code = 0
 ew : f.e.was < 18446744073709551616
structure Lost (x : Cn) (T W0 : Nat) (f : FrS) : Prop where
 h : Fresh x T W0 f ∨ (f.done = true ∧ f.v.code = 3 ∧ f.v.back = 0)
structure Leave (x : Cn) (m : Mm) (p : PushS) : Prop where
 l : p.l = [((0 : Nat) : Int)]
 d : p.done = false
 a : p.at_ = 0 ∨ ((p.at_ = 1 ∨ p.at_ = 2) ∧ p.was = m.at_ 1)
 k : p.at_ = 2 → m.at_ (x.slot + 0) = (x.spare.top p.was + 1).toNat
structure Won1 (x : Cn) (T y : Nat) (sp : List Int) (m : Mm) (S0 S : SupS) (f : FrS) : Prop where
 d : f.done = false
 n : f.v.cnt ≤ T
 c : f.v.code = 0
 sp : Pool x.spare m sp
 at_ : (f.at_ = 1 ∧ f.v.chunk = y ∧ S = S0 ∧ m.at_ (x.link + y) = 0) ∨ (f.at_ = 2 ∧ f.w = ⟨[(y : Int)], false⟩ ∧ 0 ≤ f.v.tag ∧ f.v.tag ≤ 4611686018427387903 ∧ S = S0 ∧ m.at_ (x.link + y) = 0) ∨
  (f.at_ = 3 ∧ Leave x m f.p ∧ S.xs = S0.xs ∧ S.most = S0.most ∧ S.lm.size = 1)
structure Won2 (x : Cn) (sp : List Int) (m : Mm) (S0 S : SupS) (f : FrS) : Prop where
 d : f.done = true
 c : f.v.code = 0
 sp : Pool x.spare m (((0 : Nat) : Int) :: sp)
 xs : S.xs = S0.xs
 most : S.most = S0.most
 lm : S.lm.size = 1
structure OncC (x : Cn) (m : Mm) (pl : List Int) : Prop where
 len : m.ws.length = x.len
 ok : m.ok
 pool : Pool x.pool m pl
structure OncA (x : Cn) (T y W0 : Nat) (sp pl : List Int) (m : Mm) (S0 S : Nat → SupS) (f : Nat → FrS) : Prop where
 c : OncC x m pl
 r : m.at_ (x.root + 0) = W0
 sp : Pool x.spare m sp
 k : m.at_ (x.link + y) = 0
 f : ∀ i, i < 3 → Fresh x T W0 (f i) ∧ S i = S0 i
structure OncB (x : Cn) (T y W0 : Nat) (sp pl : List Int) (m : Mm) (S0 S : Nat → SupS) (f : Nat → FrS) (k : Nat) : Prop where
 c : OncC x m pl
 k3 : k < 3
 r : m.at_ (x.root + 0) ≠ W0
 live : ¬ (rtOf (m.at_ (x.root + 0))).live 1
 rok : (rtOf (m.at_ (x.root + 0))).ok
 w : Won1 x T y sp m (S0 k) (S k) (f k) ∨ Won2 x sp m (S0 k) (S k) (f k)
 f : ∀ i, i < 3 → i ≠ k → Lost x T W0 (f i) ∧ S i = S0 i
def left (x : Cn) (W0 : Nat) (m : Mm) (f : FrS) : Nat := if f.done then 0 else
 match f.at_ with
 | 0 => if m.at_ (x.root + 0) = W0 then 9 - f.e.at_ else 1 + f.e.at_
 | 1 => 6
 | 2 => 5
 | _ => 4 - f.p.at_
def updG {α : Type} (f : Nat → α) (i : Nat) (v : α) : Nat → α := fun j => if j = i then v else f j
theorem updG_at {α : Type} (f : Nat → α) (i : Nat) (v : α) : updG f i v i = v := if_pos rfl
theorem updG_ne {α : Type} {f : Nat → α} {i j : Nat} {v : α} (h : j ≠ i) : updG f i v j = f j := if_neg h
theorem left_done {x : Cn} {W0 : Nat} {m : Mm} {f : FrS} (h : f.done = true) : left x W0 m f = 0 := by unfold left; rw [if_pos h]
section
variable {x : Cn} {T y W0 : Nat} {sp pl : List Int} {m : Mm} {S0 S : Nat → SupS} {f : Nat → FrS}
theorem Fresh.mono {g : FrS} (h : Fresh x T W0 g) : Fresh x (T + 1) W0 g := ⟨h.a, h.d, by have := h.n; omega, h.b, h.c, h.ed, h.ea, by have := h.en; omega, h.ec, h.ew⟩
theorem Lost.mono {g : FrS} (h : Lost x T W0 g) : Lost x (T + 1) W0 g := ⟨h.h.imp Fresh.mono id⟩
theorem Pool.congL {k : Sk} {m m' : Mm} {l : List Int} (h : Pool k m l) (h0 : m'.at_ k.head = m.at_ k.head) (hl : ∀ z ∈ l, m'.at_ (k.links + z.toNat) = m.at_ (k.links + z.toNat)) : Pool k m' l := by
 refine ⟨?_, h.nd⟩
 rw [h0]
 exact h.c.congr fun z hz => hl z hz
theorem OncC.same {m' : Mm} (h : OncC x m pl) (hl : m'.ws.length = m.ws.length) (ho : m'.ok) (ha : ∀ a, a = 0 ∨ (x.link ≤ a ∧ a < x.link + x.c) → m'.at_ a = m.at_ a) : OncC x m' pl :=
 ⟨hl.trans h.len, ho, h.pool.congL (ha _ (.inl rfl)) fun (z : Int) hz => ha _ (.inr (by
  have := h.pool.c.mem z hz
  have h2 : z < (x.c : Int) := this.2
  show x.link ≤ x.link + z.toNat ∧ x.link + z.toNat < x.link + x.c
  omega))⟩
structure OnP (x : Cn) (y W0 : Nat) (sp : List Int) (S0 : Nat → SupS) : Prop where
 ok : x.ok
 yc : y < x.c
 w : W0 < 18446744073709551616
 rt : ∃ off, rtOf W0 = ⟨1, y + 2, 0, off⟩
 rk : (rtOf W0).ok
 n : ((0 : Nat) : Int) ∉ sp
 xs : ∀ i, i < 3 → ((S0 i).xs.length : Int) ≤ (S0 i).most
 lm : ∀ i, i < 3 → (S0 i).lm = Lm.nil
theorem dead_ok : Rt.ok ⟨1, 0, 0, 0⟩ := ⟨by show 1 < 4294967296; omega, by show 0 ≤ 4097; omega, by show 0 ≤ 3; omega, by show 0 ≤ 1024; omega⟩
theorem OnP.live (h : OnP x y W0 sp S0) : (rtOf W0).live 1 := by
 obtain ⟨off, e⟩ := h.rt
 rw [e]; exact ⟨by show 1 ≤ y + 2; omega, rfl⟩
theorem OnP.chunk (h : OnP x y W0 sp S0) : (rtOf W0).chunk = y := by
 obtain ⟨off, e⟩ := h.rt
 rw [e]; unfold Rt.chunk; dsimp only; rw [if_neg (by omega)]; push_cast; omega
theorem OnP.gen (h : OnP x y W0 sp S0) : (rtOf W0).gen = 1 := by obtain ⟨off, e⟩ := h.rt; rw [e]
theorem OnP.mrk (h : OnP x y W0 sp S0) : (rtOf W0).mrk = y + 2 := by obtain ⟨off, e⟩ := h.rt; rw [e]
theorem OnP.dead (h : OnP x y W0 sp S0) : Rt.w ⟨1, 0, 0, 0⟩ ≠ W0 := fun e => by
 have h1 := h.mrk
 rw [← e, rtOf_w dead_ok] at h1
 have h1 : 0 = y + 2 := h1
 omega
theorem fresh_live (hP : OnP x y W0 sp S0) {g : FrS} {s : SupS} (F : Fresh x T W0 g) (hr : m.at_ (x.root + 0) = W0) :
  (∃ g', frStep (x.fr 0 1) m s g = (m.tick, s, g') ∧ Fresh x (T + 1) W0 g' ∧ g.e.at_ = 0 ∧ g'.e.at_ = 1) ∨
  (∃ g', frStep (x.fr 0 1) m s g = (m.put (x.root + 0) (Rt.w ⟨1, 0, 0, 0⟩), s, g') ∧ g'.done = false ∧ g'.v.cnt ≤ T + 1 ∧ g'.v.code = 0 ∧ g'.at_ = 1 ∧ g'.v.chunk = y ∧ g.e.at_ = 1) := by
 have hlv := hP.live
 obtain ⟨f1, f2, f3, f4, f5, f6, f7, f8, f9, f10⟩ := F
 obtain ⟨ga, gv, ge, gw, gp, gg, gd⟩ := g
 obtain ⟨e1, e2, e3, e4, e5, e6, e7⟩ := ge
 dsimp only at f1 f2 f3 f4 f5 f6 f7 f8 f9 f10 ⊢
 subst f1 f2 f6
 rcases f7 with rfl | ⟨rfl, rfl⟩
 ·refine .inl ⟨⟨0, { gv with cnt := gv.cnt + 1 }, ⟨1, e2 + 1, W0, e4, e5, e6, false⟩, WalkS.zero, gNone, gNone, false⟩, ?_, ⟨rfl, rfl, by dsimp only; omega, f4, f5, rfl, .inr ⟨rfl, rfl⟩, by dsimp only; omega, f9, hP.w⟩, rfl, rfl⟩
  unfold frStep endStep
  simp only [Bool.false_eq_true, if_false, hr, if_pos hlv]
 ·refine .inr ⟨⟨1, { gv with cnt := gv.cnt + 1, point := gv.cnt + 1, code := 0, slot := 0, chunk := y }, ⟨1, e2 + 1, e3, e4, (rtOf e3).chunk, e2 + 1, true⟩, WalkS.zero, gNone, gNone, false⟩, ?_, rfl, by dsimp only; omega, rfl, rfl, rfl, rfl⟩
  have hc := hP.chunk
  unfold frStep endStep
  simp only [Bool.false_eq_true, if_false, hr, if_true]
  unfold frEnded Mm.cas
  dsimp only
  rw [if_pos hr, hP.gen, hc, f9]
  simp only [ne_eq, not_true_eq_false, if_false]
  rw [if_pos (by omega)]
  rfl
theorem fresh_dead {g : FrS} {s : SupS} (F : Fresh x T W0 g) (hr : m.at_ (x.root + 0) ≠ W0) (hl : ¬ (rtOf (m.at_ (x.root + 0))).live 1) (hm : m.ok) :
  ∃ g', frStep (x.fr 0 1) m s g = (m.tick, s, g') ∧ ((g'.done = true ∧ g'.v.code = 3 ∧ g'.v.back = 0) ∨ (Fresh x (T + 1) W0 g' ∧ g.e.at_ = 1 ∧ g'.e.at_ = 0)) := by
 have hwl := Mm.at_lt hm (x.root + 0)
 obtain ⟨f1, f2, f3, f4, f5, f6, f7, f8, f9, f10⟩ := F
 obtain ⟨ga, gv, ge, gw, gp, gg, gd⟩ := g
 obtain ⟨e1, e2, e3, e4, e5, e6, e7⟩ := ge
 dsimp only at f1 f2 f3 f4 f5 f6 f7 f8 f9 f10 ⊢
 subst f1 f2 f6
 rcases f7 with rfl | ⟨rfl, rfl⟩
 ·refine ⟨⟨0, { gv with cnt := gv.cnt + 1, point := gv.cnt + 1, code := 3 }, ⟨0, e2 + 1, m.at_ (x.root + 0), 3, e5, e2 + 1, true⟩, WalkS.zero, gNone, gNone, true⟩, ?_, .inl ⟨rfl, rfl, f4⟩⟩
  unfold frStep endStep
  simp only [Bool.false_eq_true, if_false, if_neg hl, if_true]
  rfl
 ·refine ⟨⟨0, { gv with cnt := gv.cnt + 1 }, ⟨0, e2 + 1, e3, e4, e5, e6, false⟩, WalkS.zero, gNone, gNone, false⟩, ?_, .inr ⟨⟨rfl, rfl, by dsimp only; omega, f4, f5, rfl, .inl rfl, by dsimp only; omega, f9, f10⟩, rfl, rfl⟩⟩
  unfold frStep endStep
  simp only [Bool.false_eq_true, if_false, if_neg hr]
  unfold Mm.cas
  rw [if_neg hr]
theorem supRet_one {s : SupS} {tag : Int} {y : Nat} (hs : s.lm = Lm.nil) (ht : 0 ≤ tag) (ht2 : tag ≤ 4611686018427387903) : (supRet s tag [(y : Int)]).xs = s.xs ∧ (supRet s tag [(y : Int)]).most = s.most ∧ (supRet s tag [(y : Int)]).lm.size = 1 := by
 have hout : outM Lm.nil tag = [] := by
  unfold outM
  have h0 : ∀ k, Lm.nil.items k = [] := fun k => by unfold Lm.items Lm.nil; split <;> rfl
  rw [h0, ite_self]
 have e : supRet s tag [(y : Int)] = ⟨s.most, s.xs ++ outM s.lm tag, retireM s.lm tag [(y : Int)]⟩ := by
  unfold supRet
  rw [if_neg (by
   intro h
   rcases h with h | h | h | h
   ·cases h
   ·omega
   ·omega
   ·rw [hs] at h
    have h' : tag < 0 := h
    omega)]
 rw [e, hs, hout]
 exact ⟨List.append_nil _, rfl, (retired ht (by simp)).1⟩
theorem won_step (hP : OnP x y W0 sp S0) {k : Nat} (hk3 : k < 3) {g : FrS} {s : SupS} (hW : Won1 x T y sp m (S0 k) s g) (hml : m.ws.length = x.len) (hmo : m.ok) :
  ∃ m' s' g', frStep (x.fr 0 1) m s g = (m', s', g') ∧ m'.ws.length = x.len ∧ m'.ok ∧ (∀ a, a ≠ 1 → a ≠ x.slot + 0 → m'.at_ a = m.at_ a) ∧ (Won1 x (T + 1) y sp m' (S0 k) s' g' ∨ Won2 x sp m' (S0 k) s' g') ∧ left x W0 m' g' + 1 ≤ left x W0 m g := by
 have hx := hP.ok
 have hyc := hP.yc
 obtain ⟨b1, b2, b3, b4, b5, b6, b7⟩ := show MayC (x.w : Int) x.c x.wd x.sl x.ca x.ba from hx
 have hlen := hx.len_le
 have hkk := hx.spare (n := m.ws.length) (by omega) (by omega)
 have g1 : x.root + x.sl = x.slot := by unfold Cn.root Cn.slot; omega
 have g2 : x.slot + x.sl = x.link := by unfold Cn.slot Cn.link; omega
 have g3 : x.link + x.c ≤ x.len := by unfold Cn.link Cn.len; omega
 have g4 : 3 ≤ x.root := by unfold Cn.root; omega
 obtain ⟨h1, h2, h3, h4, h5⟩ := hW
 obtain ⟨ga, gv, ge, gw, gp, gg, gd⟩ := g
 dsimp only at h1 h2 h3 h5
 subst h1
 rcases h5 with ⟨rfl, hc, rfl, hl⟩ | ⟨rfl, rfl, ht, ht2, rfl, hl⟩ | ⟨rfl, hL, hxs, hmo2, hlm⟩
 ·refine ⟨m.tick, S0 k, ⟨2, { gv with cnt := gv.cnt + 1, tag := cutE (m.at_ 2) }, ge, ⟨[gv.chunk], false⟩, gNone, gNone, false⟩, ?_, hml, Mm.ok_tick hmo, fun _ _ _ => rfl, .inl ⟨rfl, by dsimp only; omega, h3, h4.tick, .inr (.inl ⟨rfl, by rw [hc], ?_, ?_, rfl, hl⟩)⟩, Nat.le_refl _⟩
  ·unfold frStep
   simp only [Bool.false_eq_true, if_false]
  ·show 0 ≤ cutE (m.at_ 2); unfold cutE; omega
  ·show cutE (m.at_ 2) ≤ _; unfold cutE; omega
 ·obtain ⟨r1, r2, r3⟩ := supRet_one (s := S0 k) (tag := gv.tag) (y := y) (hP.lm k hk3) ht ht2
  have hb : behindN x.c (m.at_ (x.link + y)) = -1 := by rw [hl]; unfold behindN; rw [if_neg (by omega)]; omega
  have hwk : walkStep x.link x.c m ⟨[(y : Int)], false⟩ = (⟨[(y : Int)], true⟩, m.tick) := by
   unfold walkStep
   have e0 : lastI [(y : Int)] = y := rfl
   simp only [Bool.false_eq_true, if_false, e0, Int.toNat_natCast, hb]
   rw [if_neg (fun h => by have := h.1; omega)]
  refine ⟨m.tick, supRet (S0 k) gv.tag [(y : Int)], frLeave (x.fr 0 1) { gv with cnt := gv.cnt + 1 } ge ⟨[(y : Int)], true⟩, ?_, hml, Mm.ok_tick hmo, fun _ _ _ => rfl, .inl ⟨rfl, by show gv.cnt + 1 ≤ T + 1; omega, h3, h4.tick, .inr (.inr ⟨rfl, ⟨rfl, rfl, .inl rfl, (fun h => by cases h)⟩, r1, r2, r3⟩)⟩, Nat.le_refl _⟩
  unfold frStep
  simp only [Bool.false_eq_true, if_false, hwk, if_true]
 ·obtain ⟨q1, q2, q3, q4⟩ := hL
  obtain ⟨pl, pa, pw, pd⟩ := gp
  dsimp only at q1 q2 q3 q4
  subst q1 q2
  have hlk : ∀ z ∈ sp, z ≠ ((0 : Nat) : Int) := fun z hz e => hP.n (e ▸ hz)
  rcases q3 with rfl | ⟨rfl | rfl, hw⟩
  ·refine ⟨m.tick, s, ⟨3, { gv with cnt := gv.cnt + 1 }, ge, gw, ⟨[((0 : Nat) : Int)], 1, m.at_ 1, false⟩, gNone, false⟩, ?_, hml, Mm.ok_tick hmo, fun _ _ _ => rfl, .inl ⟨rfl, by dsimp only; omega, h3, h4.tick, .inr (.inr ⟨rfl, ⟨rfl, rfl, .inr ⟨.inl rfl, rfl⟩, (fun h => by cases h)⟩, hxs, hmo2, hlm⟩)⟩, Nat.le_refl _⟩
   rfl
  ·have hput : ∀ a, (m.put (x.slot + 0) (x.spare.top pw + 1).toNat).at_ a = if x.slot + 0 = a then (x.spare.top pw + 1).toNat else m.at_ a := fun a => Mm.at_put a (by omega)
   have htl := x.spare.top_lt pw
   have htg := x.spare.top_ge pw
   have hsn : x.spare.n = x.sl := rfl
   refine ⟨m.put (x.slot + 0) (x.spare.top pw + 1).toNat, s, ⟨3, { gv with cnt := gv.cnt + 1 }, ge, gw, ⟨[((0 : Nat) : Int)], 2, pw, false⟩, gNone, false⟩, ?_, by rw [Mm.len_put]; exact hml, Mm.ok_put hmo (by omega), fun a _ h => by rw [hput, if_neg (fun e => h e.symm)], .inl ⟨rfl, by dsimp only; omega, h3, h4.congL (by rw [hput, if_neg (by show ¬ x.slot + 0 = 1; omega)]) (fun z hz => ?_), .inr (.inr ⟨rfl, ⟨rfl, rfl, .inr ⟨.inr rfl, by dsimp only; rw [hput, if_neg (by omega)]; exact hw⟩, fun _ => by dsimp only; rw [hput, if_pos rfl]⟩, hxs, hmo2, hlm⟩)⟩, Nat.le_refl _⟩
   ·rfl
   ·have h0 := hlk z hz
    have h6 := h4.c.mem z hz
    rw [hput, if_neg (by show ¬ x.slot + 0 = x.slot + z.toNat; omega)]
  ·have hk4 := q4 rfl
   have hcas : m.cas 1 pw (nextW pw ((0 : Nat) : Int)) = m.put 1 (nextW pw ((0 : Nat) : Int)) := by unfold Mm.cas; rw [if_pos hw.symm]
   have hwl : pw < 18446744073709551616 := by rw [hw]; exact Mm.at_lt hmo 1
   have hput : ∀ a, (m.put 1 (nextW pw ((0 : Nat) : Int))).at_ a = if 1 = a then nextW pw ((0 : Nat) : Int) else m.at_ a := fun a => Mm.at_put a (by omega)
   have hov : overK s.most s.xs = 0 := by have := hP.xs k hk3; unfold overK; rw [hmo2, hxs]; omega
   have hps : pushStep x.spare m ⟨[((0 : Nat) : Int)], 2, pw, false⟩ = (⟨[((0 : Nat) : Int)], 0, pw, true⟩, m.put 1 (nextW pw ((0 : Nat) : Int))) := by
    rw [← hcas]
    unfold pushStep
    simp only [Bool.false_eq_true, if_false]
    rw [if_neg (by simp), if_neg (by simp), if_neg (by simp)]
    have : decide (m.at_ x.spare.head = pw) = true := decide_eq_true hw.symm
    rw [this]
    rfl
   refine ⟨m.put 1 (nextW pw ((0 : Nat) : Int)), s, ⟨4, { gv with cnt := gv.cnt + 1, back := gv.cnt + 1, slot := -1 }, ge, gw, ⟨[((0 : Nat) : Int)], 0, pw, true⟩, PushS.init [], true⟩, ?_, by rw [Mm.len_put]; exact hml, Mm.ok_put hmo (nextW_lt hwl (by omega)), fun a h _ => by rw [hput, if_neg (fun e => h e.symm)], .inr ⟨rfl, h3, ⟨?_, ?_⟩, hxs, hmo2, hlm⟩, by show 0 + 1 ≤ 2; omega⟩
   ·unfold frStep
    simp only [Bool.false_eq_true, if_false, hps, if_true, hov, List.take_zero, List.drop_zero, giveInit_nil]
    rfl
   ·have e1 : x.spare.top ((m.put 1 (nextW pw ((0 : Nat) : Int))).at_ x.spare.head) = ((0 : Nat) : Int) := by
     rw [hput, if_pos (show 1 = x.spare.head from rfl)]
     unfold Sk.top
     rw [hdI_next (by omega) (by omega), if_pos (by show ((0 : Nat) : Int) < x.sl; omega)]
    rw [e1]
    refine ⟨rfl, by omega, by show ((0 : Nat) : Int) < x.sl; omega, ?_⟩
    rw [hput, if_neg (by show ¬ 1 = x.slot + 0; omega)]
    show ChainL x.spare _ (x.spare.below (m.at_ (x.slot + 0))) sp
    have htw : x.spare.top pw = x.spare.top (m.at_ 1) := by rw [← hw]
    rw [hk4, x.spare.below_link (x.spare.top_ge _) (x.spare.top_lt _), htw]
    refine h4.c.congr fun z hz => ?_
    rw [hput, if_neg (by show ¬ 1 = x.slot + z.toNat; omega)]
   ·exact List.nodup_cons.2 ⟨hP.n, h4.nd⟩
inductive Onc (x : Cn) (T y W0 : Nat) (sp pl : List Int) (m : Mm) (S0 S : Nat → SupS) (f : Nat → FrS) : Prop
 | a (h : OncA x T y W0 sp pl m S0 S f)
 | b (k : Nat) (h : OncB x T y W0 sp pl m S0 S f k)
theorem left_goes {m m' : Mm} {g : FrS} (F : g.at_ = 0 → g.e.at_ ≤ 1) (h : m'.at_ (x.root + 0) = m.at_ (x.root + 0) ∨ m'.at_ (x.root + 0) ≠ W0) : left x W0 m' g ≤ left x W0 m g := by
 unfold left
 split
 ·exact Nat.le_refl _
 split
 ·rename_i ha
  have := F ha
  rcases h with h | h
  ·rw [h]; exact Nat.le_refl _
  ·rw [if_neg h]; split <;> omega
 ·exact Nat.le_refl _
 ·exact Nat.le_refl _
 ·exact Nat.le_refl _
theorem fr_idle {g : FrS} {s : SupS} {p : FrP} (h : g.done = true) : frStep p m s g = (m, s, g) := by unfold frStep; rw [if_pos h]
theorem Won1.mono {g : FrS} {s s0 : SupS} (h : Won1 x T y sp m s0 s g) : Won1 x (T + 1) y sp m s0 s g := ⟨h.d, by have := h.n; omega, h.c, h.sp, h.at_⟩
theorem Leave.same {m' : Mm} {p : PushS} (h : Leave x m p) (h1 : m'.at_ 1 = m.at_ 1) (h2 : m'.at_ (x.slot + 0) = m.at_ (x.slot + 0)) : Leave x m' p := ⟨h.l, h.d, by rw [h1]; exact h.a, fun hk => by rw [h2]; exact h.k hk⟩
theorem Won1.tick {g : FrS} {s s0 : SupS} (h : Won1 x T y sp m s0 s g) : Won1 x T y sp m.tick s0 s g :=
 ⟨h.d, h.n, h.c, h.sp.tick, h.at_.imp id (fun h => h.imp id fun ⟨a, b, c⟩ => ⟨a, b.same rfl rfl, c⟩)⟩
theorem Won2.tick {g : FrS} {s s0 : SupS} (h : Won2 x sp m s0 s g) : Won2 x sp m.tick s0 s g := ⟨h.d, h.c, h.sp.tick, h.xs, h.most, h.lm⟩
theorem OncC.tick (h : OncC x m pl) : OncC x m.tick pl := ⟨h.len, Mm.ok_tick h.ok, h.pool.tick⟩
theorem onc_step (hP : OnP x y W0 sp S0) {i : Nat} (h : Onc x T y W0 sp pl m S0 S f) (hi : i < 3) :
  ∃ m' s' g', frStep (x.fr 0 1) m (S i) (f i) = (m', s', g') ∧ Onc x (T + 1) y W0 sp pl m' S0 (updG S i s') (updG f i g') ∧ left x W0 m' g' ≤ left x W0 m (f i) - 1 ∧ (∀ j, j < 3 → j ≠ i → left x W0 m' (f j) ≤ left x W0 m (f j)) ∧ ((f i).done = true → s' = S i ∧ g' = f i) := by
 have hx := hP.ok
 have hyc := hP.yc
 obtain ⟨b1, b2, b3, b4, b5, b6, b7⟩ := show MayC (x.w : Int) x.c x.wd x.sl x.ca x.ba from hx
 have g1 : x.root + x.sl = x.slot := by unfold Cn.root Cn.slot; omega
 have g2 : x.slot + x.sl = x.link := by unfold Cn.slot Cn.link; omega
 have g3 : x.link + x.c ≤ x.len := by unfold Cn.link Cn.len; omega
 have g4 : 3 ≤ x.root := by unfold Cn.root; omega
 have hF0 : ∀ {g : FrS}, Fresh x T W0 g → g.e.at_ ≤ 1 := fun F => by rcases F.ea with h | h <;> omega
 have hL0 : ∀ {g : FrS}, Lost x T W0 g → g.done = true ∨ Fresh x T W0 g := fun F => F.h.symm.imp (fun h => h.1) id
 have hleft1 : ∀ {g : FrS} {m : Mm}, Fresh x T W0 g → m.at_ (x.root + 0) = W0 → left x W0 m g = 9 - g.e.at_ := fun {g m} F hr => by
  unfold left; rw [F.d, F.a, if_neg (by decide)]; show (if _ then _ else _) = _; rw [if_pos hr]
 have hleft2 : ∀ {g : FrS} {m : Mm} {T : Nat}, Fresh x T W0 g → m.at_ (x.root + 0) ≠ W0 → left x W0 m g = 1 + g.e.at_ := fun {g m T} F hr => by
  unfold left; rw [F.d, F.a, if_neg (by decide)]; show (if _ then _ else _) = _; rw [if_neg hr]
 cases h with
 | a hA =>
   obtain ⟨F, hS⟩ := hA.f i hi
   have hnd : ¬ (f i).done = true := by rw [F.d]; decide
   rcases fresh_live hP (s := S i) F hA.r with ⟨g', e, F', k1, k2⟩ | ⟨g', e, k1, k2, k3, k4, k5, k6⟩
   ·refine ⟨m.tick, S i, g', e, .a ⟨hA.c.tick, hA.r, hA.sp.tick, hA.k, fun j hj => ?_⟩, ?_, fun j hj hji => ?_, fun h => absurd h hnd⟩
    ·by_cases hji : j = i
     ·subst hji; rw [updG_at, updG_at]; exact ⟨F', hS⟩
     ·rw [updG_ne hji, updG_ne hji]; exact ⟨(hA.f j hj).1.mono, (hA.f j hj).2⟩
    ·rw [hleft1 F hA.r, k1]
     have : left x W0 m.tick g' = 9 - g'.e.at_ := by
      unfold left; rw [F'.d, F'.a, if_neg (by decide)]; show (if _ then _ else _) = _; rw [if_pos (show m.tick.at_ (x.root + 0) = W0 from hA.r)]
     rw [this, k2]; omega
    ·exact left_goes (fun _ => hF0 (hA.f j hj).1) (.inl rfl)
   ·have hput : ∀ a, (m.put (x.root + 0) (Rt.w ⟨1, 0, 0, 0⟩)).at_ a = if x.root + 0 = a then Rt.w ⟨1, 0, 0, 0⟩ else m.at_ a := fun a => Mm.at_put a (by rw [hA.c.len]; omega)
    have hroot : (m.put (x.root + 0) (Rt.w ⟨1, 0, 0, 0⟩)).at_ (x.root + 0) = Rt.w ⟨1, 0, 0, 0⟩ := by rw [hput, if_pos rfl]
    refine ⟨_, S i, g', e, .b i ⟨hA.c.same Mm.len_put (Mm.ok_put hA.c.ok (Rt.w_lt dead_ok)) (fun a ha => by rw [hput, if_neg (by omega)]), hi, by rw [hroot]; exact hP.dead, ?_, by rw [hroot, rtOf_w dead_ok]; exact dead_ok, ?_, fun j hj hji => ?_⟩, ?_, fun j hj hji => ?_, fun h => absurd h hnd⟩
    ·rw [hroot, rtOf_w dead_ok]; intro hh; have := hh.1; exact absurd this (by decide)
    ·rw [updG_at, updG_at]
     refine .inl ⟨k1, k2, k3, hA.sp.congL (by rw [hput, if_neg (by show ¬ x.root + 0 = 1; omega)]) (fun z hz => ?_), .inl ⟨k4, k5, hS, by rw [hput, if_neg (by omega)]; exact hA.k⟩⟩
     have h6 := hA.sp.c.mem z hz
     rw [hput, if_neg (by show ¬ x.root + 0 = x.slot + z.toNat; omega)]
    ·rw [updG_ne hji, updG_ne hji]; exact ⟨⟨.inl (hA.f j hj).1.mono⟩, (hA.f j hj).2⟩
    ·rw [hleft1 F hA.r, k6]
     unfold left
     rw [k1, k4, if_neg (by decide)]
     exact Nat.le_of_ble_eq_true rfl
    ·exact left_goes (fun _ => hF0 (hA.f j hj).1) (.inr (by rw [hroot]; exact hP.dead))
 | b k hB =>
   have hoth : ∀ j, j < 3 → (f j).at_ = 0 → (f j).done = false → (f j).e.at_ ≤ 1 := fun j hj ha hd => by
    by_cases hjk : j = k
    ·subst hjk
     rcases hB.w with hw | hw
     ·rcases hw.at_ with h | h | h <;> omega
     ·have := hw.d; rw [hd] at this; cases this
    ·rcases hL0 (hB.f j hj hjk).1 with h | h
     ·rw [hd] at h; cases h
     ·exact hF0 h
   have hlg : ∀ {m' : Mm} (j : Nat), j < 3 → m'.at_ (x.root + 0) = m.at_ (x.root + 0) → left x W0 m' (f j) ≤ left x W0 m (f j) := fun {m'} j hj hr => by
    cases hd : (f j).done with
    | true => rw [left_done hd, left_done hd]; exact Nat.le_refl _
    | false => exact left_goes (fun ha => hoth j hj ha hd) (.inl hr)
   by_cases hik : i = k
   ·subst hik
    rcases hB.w with hw | hw
    ·obtain ⟨m', s', g', e, w1, w2, w3, w4, w5⟩ := won_step hP hi hw hB.c.len hB.c.ok
     have hr : m'.at_ (x.root + 0) = m.at_ (x.root + 0) := w3 _ (by omega) (by omega)
     refine ⟨m', s', g', e, .b i ⟨hB.c.same (by rw [w1, hB.c.len]) w2 (fun a ha => w3 a (by omega) (by omega)), hi, by rw [hr]; exact hB.r, by rw [hr]; exact hB.live, by rw [hr]; exact hB.rok, by rw [updG_at, updG_at]; exact w4, fun j hj hji => ?_⟩, by omega, fun j hj hji => hlg j hj hr, fun h => ?_⟩
     ·rw [updG_ne hji, updG_ne hji]; exact ⟨(hB.f j hj hji).1.mono, (hB.f j hj hji).2⟩
     ·rw [hw.d] at h; cases h
    ·refine ⟨m, S i, f i, fr_idle hw.d, .b i ⟨hB.c, hi, hB.r, hB.live, hB.rok, by rw [updG_at, updG_at]; exact .inr hw, fun j hj hji => ?_⟩, by rw [left_done hw.d]; exact Nat.zero_le _, fun j hj hji => hlg j hj rfl, fun _ => ⟨rfl, rfl⟩⟩
     rw [updG_ne hji, updG_ne hji]; exact ⟨(hB.f j hj hji).1.mono, (hB.f j hj hji).2⟩
   ·obtain ⟨hLo, hS⟩ := hB.f i hi hik
    have hki : k ≠ i := fun e => hik e.symm
    rcases hLo.h with F | ⟨hd, hc, hb⟩
    ·obtain ⟨g', e, hg⟩ := fresh_dead (s := S i) F hB.r hB.live hB.c.ok
     have hnd : ¬ (f i).done = true := by rw [F.d]; decide
     refine ⟨m.tick, S i, g', e, .b k ⟨hB.c.tick, hB.k3, hB.r, hB.live, hB.rok, by rw [updG_ne hki, updG_ne hki]; exact hB.w.imp (fun h => h.mono.tick) Won2.tick, fun j hj hjk => ?_⟩, ?_, fun j hj hji => hlg j hj rfl, fun h => absurd h hnd⟩
     ·by_cases hji : j = i
      ·subst hji; rw [updG_at, updG_at]; exact ⟨⟨hg.symm.imp (fun h => h.1) id⟩, hS⟩
      ·rw [updG_ne hji, updG_ne hji]; exact ⟨(hB.f j hj hjk).1.mono, (hB.f j hj hjk).2⟩
     ·rw [hleft2 F hB.r]
      rcases hg with hg | ⟨F', h1, h2⟩
      ·rw [left_done hg.1]; omega
      ·rw [hleft2 (m := m.tick) F' hB.r, h1, h2]; omega
    ·refine ⟨m, S i, f i, fr_idle hd, .b k ⟨hB.c, hB.k3, hB.r, hB.live, hB.rok, by rw [updG_ne hki, updG_ne hki]; exact hB.w.imp (fun h => h.mono) id, fun j hj hjk => ?_⟩, by rw [left_done hd]; exact Nat.zero_le _, fun j hj hji => hlg j hj rfl, fun _ => ⟨rfl, rfl⟩⟩
     by_cases hji : j = i
     ·subst hji; rw [updG_at, updG_at]; exact ⟨⟨.inr ⟨hd, hc, hb⟩⟩, hS⟩
     ·rw [updG_ne hji, updG_ne hji]; exact ⟨(hB.f j hj hjk).1.mono, (hB.f j hj hjk).2⟩
theorem onc_ok (hP : OnP x y W0 sp S0) {i : Nat} (h : Onc x T y W0 sp pl m S0 S f) (hi : i < 3) (hT : T ≤ 100000) (hd : (f i).done = false) : FrOk x (f i) := by
 have hyc := hP.yc
 obtain ⟨b1, b2, b3, b4, b5, b6, b7⟩ := show MayC (x.w : Int) x.c x.wd x.sl x.ca x.ba from hP.ok
 have hmk := hP.mrk
 have hF : ∀ {g : FrS}, Fresh x T W0 g → FrOk x g := fun {g} F => by
  refine ⟨by rw [F.a]; omega, by have := F.n; omega, fun _ => ⟨by rcases F.ea with h | h <;> omega, F.ew, fun h1 => ?_, by have := F.en; omega⟩, fun _ h1 => ?_, (fun h1 => by rw [F.a] at h1; cases h1)⟩
  ·rcases F.ea with h | h
   ·omega
   ·rw [h.2, hmk]; omega
  ·rcases F.ea with h | h
   ·omega
   ·rw [h.2, hmk]; omega
 cases h with
 | a hA => exact hF (hA.f i hi).1
 | b k hB =>
   by_cases hik : i = k
   ·subst hik
    rcases hB.w with hw | hw
    ·have hn := hw.n
     rcases hw.at_ with h | h | h
     ·exact ⟨by rw [h.1]; omega, by omega, (fun h0 => by rw [h.1] at h0; cases h0), (fun h0 => by rw [h.1] at h0; cases h0), fun _ => by rw [h.2.1]; exact ⟨by omega, by omega⟩⟩
     ·exact ⟨by rw [h.1]; omega, by omega, (fun h0 => by rw [h.1] at h0; cases h0), (fun h0 => by rw [h.1] at h0; cases h0), (fun h0 => by rw [h.1] at h0; cases h0)⟩
     ·exact ⟨by rw [h.1]; omega, by omega, (fun h0 => by rw [h.1] at h0; cases h0), (fun h0 => by rw [h.1] at h0; cases h0), (fun h0 => by rw [h.1] at h0; cases h0)⟩
    ·rw [hw.d] at hd; cases hd
   ·rcases (hB.f i hi hik).1.h with F | h
    ·exact hF F
    ·rw [h.1] at hd; cases hd
theorem onc_mem (h : Onc x T y W0 sp pl m S0 S f) : OncC x m pl := by
 cases h with
 | a h => exact h.c
 | b k h => exact h.c
theorem onc_sup (hP : OnP x y W0 sp S0) {i : Nat} (h : Onc x T y W0 sp pl m S0 S f) (hi : i < 3) : (S i).xs = (S0 i).xs ∧ (S i).most = (S0 i).most ∧ (S i).lm.size ≤ 1 := by
 have h0 : (S0 i).lm.size = 0 := by rw [hP.lm i hi]; rfl
 cases h with
 | a hA => have := (hA.f i hi).2; rw [this]; exact ⟨rfl, rfl, by omega⟩
 | b k hB =>
   by_cases hik : i = k
   ·subst hik
    rcases hB.w with hw | hw
    ·rcases hw.at_ with h | h | h
     ·rw [h.2.2.1]; exact ⟨rfl, rfl, by omega⟩
     ·rw [h.2.2.2.2.1]; exact ⟨rfl, rfl, by omega⟩
     ·exact ⟨h.2.2.1, h.2.2.2.1, by omega⟩
    ·exact ⟨hw.xs, hw.most, by have := hw.lm; omega⟩
   ·rw [(hB.f i hi hik).2]; exact ⟨rfl, rfl, by omega⟩
theorem onc_left {i : Nat} (h : Onc x T y W0 sp pl m S0 S f) (hi : i < 3) (hl : left x W0 m (f i) = 0) : (f i).done = true := by
 cases hd : (f i).done with
 | true => rfl
 | false =>
   exfalso
   have hF : ∀ {g : FrS}, Fresh x T W0 g → left x W0 m g ≠ 0 := fun {g} F => by
    have : g.e.at_ ≤ 1 := by rcases F.ea with h | h <;> omega
    unfold left; rw [F.d, F.a, if_neg (by decide)]
    show (if m.at_ (x.root + 0) = W0 then 9 - g.e.at_ else 1 + g.e.at_) ≠ 0
    split <;> omega
   cases h with
   | a hA => exact hF (hA.f i hi).1 hl
   | b k hB =>
     by_cases hik : i = k
     ·subst hik
      rcases hB.w with hw | hw
      ·unfold left at hl
       rw [hd, if_neg (by decide)] at hl
       rcases hw.at_ with h | h | h
       ·rw [h.1] at hl; cases hl
       ·rw [h.1] at hl; cases hl
       ·rw [h.1] at hl
        have hl' : 4 - (f i).p.at_ = 0 := hl
        have := h.2.1.a
        omega
      ·rw [hw.d] at hd; cases hd
     ·rcases (hB.f i hi hik).1.h with F | h
      ·exact hF F hl
      ·rw [h.1] at hd; cases hd
theorem left_le {i : Nat} (h : Onc x T y W0 sp pl m S0 S f) (hi : i < 3) : left x W0 m (f i) ≤ 9 := by
 unfold left
 split
 ·omega
 split
 ·split
  ·omega
  ·cases h with
   | a hA => have := hA.r; contradiction
   | b k hB =>
     by_cases hik : i = k
     ·subst hik
      rcases hB.w with hw | hw
      ·rcases hw.at_ with h | h | h <;> omega
      ·rename_i hd _ _ _; exact absurd hw.d hd
     ·rcases (hB.f i hi hik).1.h with F | h
      ·rcases F.ea with h | h <;> omega
      ·rename_i hd _ _ _; exact absurd h.1 hd
 ·omega
 ·omega
 ·omega
theorem onc_end (h : Onc x T y W0 sp pl m S0 S f) (hd : ∀ i, i < 3 → (f i).done = true) : ∃ k, k < 3 ∧ (f k).v.code = 0 ∧ (∀ i, i < 3 → i ≠ k → (f i).v.code = 3 ∧ (f i).v.back = 0) ∧ (S k).xs = (S0 k).xs ∧ (S k).lm.size = 1 ∧ (∀ i, i < 3 → i ≠ k → S i = S0 i) ∧ Pool x.spare m (((0 : Nat) : Int) :: sp) ∧ OncC x m pl := by
 cases h with
 | a hA => have := hd 0 (by omega); rw [(hA.f 0 (by omega)).1.d] at this; cases this
 | b k hB =>
   refine ⟨k, hB.k3, ?_, fun i hi hik => ?_, ?_, ?_, fun i hi hik => (hB.f i hi hik).2, ?_, hB.c⟩
   ·rcases hB.w with hw | hw
    ·have := hd k hB.k3; rw [hw.d] at this; cases this
    ·exact hw.c
   ·rcases (hB.f i hi hik).1.h with F | h
    ·have := hd i hi; rw [F.d] at this; cases this
    ·exact h.2
   ·rcases hB.w with hw | hw
    ·have := hd k hB.k3; rw [hw.d] at this; cases this
    ·exact hw.xs
   ·rcases hB.w with hw | hw
    ·have := hd k hB.k3; rw [hw.d] at this; cases this
    ·exact hw.lm
   ·rcases hB.w with hw | hw
    ·have := hd k hB.k3; rw [hw.d] at this; cases this
    ·exact hw.sp
theorem onc_done {i : Nat} (h : Onc x T y W0 sp pl m S0 S f) (hi : i < 3) (hd : (f i).done = true) : (f i).v.code = 0 ∨ ((f i).v.code = 3 ∧ (f i).v.back = 0) := by
 cases h with
 | a hA => rw [(hA.f i hi).1.d] at hd; cases hd
 | b k hB =>
   by_cases hik : i = k
   ·subst hik
    rcases hB.w with hw | hw
    ·exact .inl hw.c
    ·exact .inl hw.c
   ·rcases (hB.f i hi hik).1.h with F | h
    ·rw [F.d] at hd; cases hd
    ·exact .inr h.2
end
end Go.Proofs.YtflalhdofhobmaaGreat


namespace Go.Proofs.YtflalhdofhobmaaGreat
open Go
attribute [local irreducible] Sx Cx Rx Fx Krg Ksq Kbl Klp Kr
def EnA (s : AlS) : Prop := s.v.ends = Nat.beq s.at_ 6
section
variable {L F G : St}
end
end Go.Proofs.YtflalhdofhobmaaGreat


namespace Go.Proofs.YtflalhdofhobmaaGreat
open Go
attribute [local irreducible] Sx Cx Rx Fx Krg Ksq Kbl Klp Kr
section
variable {L F G : St}
end
end Go.Proofs.YtflalhdofhobmaaGreat


namespace Go.Proofs.YtflalhdofhobmaaGreat
open Go
attribute [local irreducible] Sx Cx Rx Fx Krg Ksq Kbl Klp Kr
section
variable {L F G : St}
end
end Go.Proofs.YtflalhdofhobmaaGreat


namespace Go.Proofs.YtflalhdofhobmaaGreat
open Go
attribute [local irreducible] Sx Cx Rx Fx Krg Ksq Kbl Klp Kr
section
variable {L F G : St}
end
end Go.Proofs.YtflalhdofhobmaaGreat


namespace Go.Proofs.YtflalhdofhobmaaGreat
open Go
attribute [local irreducible] Sx Cx Rx Fx Krg Ksq Kbl Klp Kr
section
variable {L F G : St}
theorem Sx.rag {N : Nat} {l : List Go.Proofs.YtflalhdofhobmaaGreat.G} {e : En} {K : En → St → Prop} {b sa rp slot : Nat} {gen : Int} {n : Nat} {s : AlS} (hd6 : s.done = true → s.at_ = 6) [t : Take L (some ⟨b, 0, none⟩) (RAgO sa rp slot gen n s) F]
  (k : ∀ (at_ : Nat) (tp gp : Value) (dry : Bool) (rest : As), (∀ G, Ent (ralB b sa slot gen n at_ (s.v.cnt : Nat) s.v tp gp dry s.done :: rest :: G) (pt (some ⟨b, 0, none⟩) (RAgO sa rp slot gen n s) :: G)) → Sx Tryz.prog N l e K (ralB b sa slot gen n at_ (s.v.cnt : Nat) s.v tp gp dry s.done :: rest :: F)) : Sx Tryz.prog N l e K L := by
 by_cases h6 : s.at_ = 6
 ·refine Sx.openp (a := some ⟨b, 0, none⟩) (RAgO.g_ h6) ?_
  rintro ⟨tp, q, dry⟩
  exact k 6 tp _ dry (pt (some ⟨q, 0, none⟩) (RGiveO rp s.g)) fun G => RAgO.closeG (v := s.v) s h6 rfl rfl rfl rfl rfl
 ·have hd : s.done = false := by
   cases hq : s.done with
   | true => exact absurd (hd6 hq) h6
   | false => rfl
  have e6 : RAgO sa rp slot gen n s = RAlO sa rp slot gen n s := RAgO.fun_ h6
  rw [e6] at t k
  by_cases h2 : s.at_ = 2
  ·refine Sx.openp (a := some ⟨b, 0, none⟩) (RAlO.t_ hd h2) ?_
   rintro ⟨q, gp⟩
   have := k 2 (.pointer (some ⟨q, 0, none⟩)) gp false (pt (some ⟨q, 0, none⟩) (RTakeO sa rp s.t)) fun G => by rw [hd]; exact RAlO.closeT (v := s.v) s hd h2 rfl rfl rfl
   rw [hd] at this
   exact this
  ·refine Sx.openp (a := some ⟨b, 0, none⟩) (RAlO.s_ (.inr h2)) ?_
   rintro ⟨tp, gp, dry⟩
   refine Sx.liftp fun hdr => ?_
   refine Sx.ent ?_ (k s.at_ tp gp dry (lift True) fun G => ?_)
   ·exact Ent.cons (Ent.lift trivial (Ent.refl _))
   ·refine Ent.trans (Ent.cons Ent.drop) ?_
    exact RAlO.closeS (v := s.v) s (.inr h2) rfl rfl rfl rfl hdr
end
end Go.Proofs.YtflalhdofhobmaaGreat


namespace Go.Proofs.YtflalhdofhobmaaGreat
open Go
attribute [local irreducible] Sx Cx Rx Fx Krg Ksq Kbl Klp Kr
section
variable {L F G : St}
structure AlStpG (x : Cn) (s : Nat) (g : Int) (words : Nat) (r : Mm × SupS) (N : Nat) (r' : Mm × SupS) : Prop where
 run : AlRun x (x.al s g words) (alR r.1 r.2) N
 lt : N < 200
 em : (alIt (x.al s g words) N (alR r.1 r.2)).1 = r'.1
 es : (alIt (x.al s g words) N (alR r.1 r.2)).2.1 = r'.2
 ref : ∀ t, t < N → RefA x (alIt (x.al s g words) t (alR r.1 r.2)).2.1 (alIt (x.al s g words) t (alR r.1 r.2)).2.2
 d6 : (alIt (x.al s g words) N (alR r.1 r.2)).2.2.done = true → (alIt (x.al s g words) N (alR r.1 r.2)).2.2.at_ = 6
set_option maxRecDepth 100000 in
set_option maxHeartbeats 8000000 in
theorem enRegionG {x : Cn} {n : Hn} {e : He} {r r2 : Nat} {k c c2 : Nat} {Q : Nat → Who} {m : Mm} (i many words : Nat) (R : Nat → Mm × SupS) (N : Nat → Nat) (hi : i < k) (hk64 : k ≤ 64) (hmy : many ≤ 1000) (hw1 : 1 ≤ words) (hw2 : words ≤ x.wd) (hw8 : x.wd % 8 = 0) (hx : x.ok) (hl : m.ws.length = x.len) (hm : m.ok) {s : Nat} {l : List Int} (hp : Pool x.spare m ((s : Int) :: l))
  (hsl : s < x.sl) (hR0 : (R 0).1 = (crIt x.spare x.root 0 10 (CreS.init, m)).2) (hR : ∀ j, j < many → AlStpG x s (laterT (rtOf (m.at_ (x.root + s))).gen : Nat) words (R j) (N j) (R (j + 1))) :
  Fx Tryz.prog 54 [.pointer (some ⟨n.a, 0, none⟩), .int .i64 i, .int .i64 many, .int .i64 words] (rhF x n e (some ⟨r, 0, none⟩) (some ⟨r2, 0, none⟩) k c c2 m (rhG x n r r2 k c c2 Q i (R 0).2 G))
   (fun v L' => v = .tuple #[.int .i64 s, .int .i64 (laterT (rtOf (m.at_ (x.root + s))).gen : Nat), .bool true] ∧ L' = rhF x n e (some ⟨r, 0, none⟩) (some ⟨r2, 0, none⟩) k c c2 (R many).1 (rhG x n r r2 k c c2 Q i (R many).2 G)) := by
 have hlen := hx.len_le
 have hk := hx.spare (n := m.ws.length) (by omega) (by omega)
 have hroot : x.root + x.sl = x.slot := by unfold Cn.root Cn.slot; omega
 obtain ⟨C, M, e10, hd, hcode, hslot, hat, hwas, _⟩ := cr_alone (k := x.spare) (ro := x.root) (cl := 0) (m := m) hk rfl hm hp (by show x.root + x.sl ≤ x.slot; omega) (by show 1 < x.root; unfold Cn.root; omega) (by omega)
 rw [Int.toNat_natCast] at hwas
 refine Fx.mk Tryz.func54 k54 nb_ ?_
 dsimp only [c54, kG, kS, kH, kM, kN, kF, kL, envOf, Nat.reduceAdd]
 refine go ?_
 refine Cx.ordc rfl kr_ ?_
 refine ge ?_
 iterate 4 (refine Ev.bring 1 rfl ?_; refine ge ?_)
 refine Ev.caH kr_ rfl rfl (rootsCreate (g := n.ro) (mp := n.mp) (sb := n.sp) (x := x) 0 (by omega) hx) (.keep (fun v L' ⟨_, _, e⟩ => by subst e; exact Has.cell rfl) (.dep rfl .nil)) ?_
 rintro v L' ⟨b, rfl, rfl⟩
 refine ge ?_
 refine Ev.caH kr_ rfl rfl (refCreate (w := n.w) (rm := n.rm) (rp := n.rp) (rs := n.rs) (re := n.re) (x := x) 0 (by omega)) (Pres.deps kr_) ?_
 rintro v L' ⟨bb, rfl, rfl⟩
 refine ge ?_
 refine go ?_
 refine Cx.lp (α := {j : Nat // j ≤ 10}) (fun j => [(0, .pointer (some ⟨n.a, 0, none⟩)), (1, .int .i64 (i : Nat)), (2, .int .i64 (many : Nat)), (3, .int .i64 (words : Nat)), (11, .pointer (some ⟨b, 0, none⟩)), (12, .pointer (some ⟨bb, 0, none⟩)), (13, .int .i64 j.1)])
  (fun j => pt (some ⟨b, 0, none⟩) (CreO n.ro n.sp x.spare 0 (crIt x.spare x.root 0 j.1 (CreS.init, m)).1) :: pt (some ⟨bb, 0, none⟩) (RCreO n.w n.rs 0 (crIt x.spare x.root 0 j.1 (CreS.init, m)).1) :: rhF x n e (some ⟨r, 0, none⟩) (some ⟨r2, 0, none⟩) k c c2 (crIt x.spare x.root 0 j.1 (CreS.init, m)).2 (rhG x n r r2 k c c2 Q i (R 0).2 G))
  (fun j => 10 - j.1) ⟨0, by omega⟩ (sub.cons rfl (sub.cons rfl (sub.cons rfl (sub.cons rfl (sub.cons rfl (sub.cons rfl (sub.cons rfl sub.nil))))))) ?_ ?_
 ·dsimp only [rhF, crIt]
  exact ent
 rintro ⟨j, hj⟩
 dsimp only [rhF]
 obtain ⟨k1, k2, k3, k4⟩ := crIt_ok (ro := x.root) (cl := 0) (m := m) hk hm (by omega) j (by omega)
 refine go ?_
 refine Cx.ifp rfl (fun h => ?_) (fun h => ?_)
 ·refine go ?_
  refine Sx.ca rfl (crStepC (b := b) (r := n.ro) (mp := n.mp) (sp := n.sp) (x := x) (m := (crIt x.spare x.root 0 j (CreS.init, m)).2) (cl := 0) (c := (crIt x.spare x.root 0 j (CreS.init, m)).1) hx (by omega) (by omega) k1) ?_
  rintro v L' ⟨rfl, rfl⟩
  refine go ?_
  refine Sx.ca rfl (refCrStep (b := bb) (w := n.w) (rm := n.rm) (rp := n.rp) (rs := n.rs) (re := n.re) (x := x) (m := (crIt x.spare x.root 0 j (CreS.init, m)).2) (cl := 0) (c := (crIt x.spare x.root 0 j (CreS.init, m)).1) hx (by omega) (by omega) k1) ?_
  rintro v L' ⟨rfl, rfl⟩
  refine go ?_
  rw [w64 (n := (j : Int) + 1) (by omega) (by omega)]
  refine Klp.nm ⟨j + 1, by omega⟩ (sub.cons rfl (sub.cons rfl (sub.cons rfl (sub.cons rfl (sub.cons rfl (sub.cons rfl (sub.cons rfl sub.nil))))))) ?_ (by dsimp only; omega)
  dsimp only [rhF, crIt]
  refine Ent.trans (Ent.take (a := some ⟨b, 0, none⟩)) (Ent.cons ?_)
  exact ent
 ·obtain rfl : j = 10 := by omega
  rw [e10]
  dsimp only
  refine go ?_
  refine Sx.ca rfl (crRegion (b := b) (r := n.ro) (sp := n.sp) (k := x.spare) (cl := 0) (c := C) hd hat hcode) ?_
  rintro v L' ⟨rfl, rfl⟩
  rw [hslot, hwas]
  refine go ?_
  refine Sx.ca rfl (crDone (b := b) (r := n.ro) (sp := n.sp) (k := x.spare) (cl := 0) (c := C) hd) ?_
  rintro v L' ⟨rfl, rfl⟩
  refine go ?_
  refine Sx.ca rfl (crCode (b := b) (r := n.ro) (sp := n.sp) (k := x.spare) (cl := 0) (c := C) hd) ?_
  rintro v L' ⟨rfl, rfl⟩
  rw [hcode]
  refine go ?_
  refine Sx.ent (Ent.take (a := some ⟨bb, 0, none⟩)) ?_
  refine Sx.openp (a := some ⟨bb, 0, none⟩) rfl ?_
  intro p
  have er : C.rslot = s := by unfold CreS.rslot; rw [if_neg (by omega), hslot]
  have eg : C.rgen = laterT (rtOf (m.at_ (x.root + s))).gen := by unfold CreS.rgen; rw [if_pos ⟨hd, hat⟩, hwas]
  simp only [rcrL, List.cons_append, List.nil_append, er, eg, hd, hcode]
  refine go ?_
  refine Sx.gyes rfl (by simp) ?_
  refine go ?_
  refine Cx.cno rfl (by simp) ?_
  refine go ?_
  obtain ⟨g, hg⟩ : ∃ g : Nat, laterT (rtOf (m.at_ (x.root + s))).gen = g := ⟨_, rfl⟩
  have hM : M = (R 0).1 := by rw [hR0, e10]
  rw [hg] at hR ⊢
  rw [hM]
  refine Cx.lp (α := {j : Nat // j ≤ many}) (fun j => [(0, .pointer (some ⟨n.a, 0, none⟩)), (1, .int .i64 (i : Nat)), (2, .int .i64 (many : Nat)), (3, .int .i64 (words : Nat)), (14, .int .i64 (s : Nat)), (15, .int .i64 (g : Nat)), (16, .int .i64 (j.1 : Nat))])
   (fun j => rhF x n e (some ⟨r, 0, none⟩) (some ⟨r2, 0, none⟩) k c c2 (R j.1).1 (rhG x n r r2 k c c2 Q i (R j.1).2 G)) (fun j => many - j.1) ⟨0, Nat.zero_le _⟩ (sub.cons rfl (sub.cons rfl (sub.cons rfl (sub.cons rfl (sub.cons rfl (sub.cons rfl (sub.cons rfl sub.nil))))))) ?_ ?_
  ·dsimp only [rhF, rhG]
   exact entm
  rintro ⟨j, hj⟩
  dsimp only [rhF, rhG]
  refine go ?_
  refine Cx.ifp rfl (fun h => ?_) (fun h => ?_)
  ·obtain ⟨hrun, hN2, hn1, hn2, href, hd6⟩ := hR j (by omega)
   obtain ⟨hgood, hnd, hdn⟩ := hrun
   refine go ?_
   refine Cx.ordc rfl kr_ ?_
   refine ge ?_
   refine Ev.ldrH (b := r) (v := .pointer (some ⟨(Q i).u, 0, none⟩)) kr_ rfl rfl (by rw [show 0 + (i : Int).toNat * 1 = i by omega]; exact ptrs_get (U := fun i => (Q i).u) hi) ?_
   refine ge ?_
   refine Ev.caH kr_ rfl rfl (grantAlloc (g := n.g) (u := (Q i).u) (mp := n.mp) (pb := (Q i).pb) (x := x) s g words hsl hw1 hw2) (Pres.deps kr_) ?_
   rintro v L' ⟨b, rfl, rfl⟩
   refine ge ?_
   refine gg ?_
   refine Sx.ldr (b := r2) rfl (v := .pointer (some ⟨(Q i).s, 0, none⟩)) (by rw [show 0 + (i : Int).toNat * 1 = i by omega]; exact ptrs_get (U := fun i => (Q i).s) hi) ?_
   refine go ?_
   refine Sx.ca rfl (refSupAlloc (sa := (Q i).s) (rp := n.rp) s g words) ?_
   rintro v L' ⟨bb, rfl, rfl⟩
   refine go ?_
   refine Cx.lp (α := {t : Nat // t ≤ N j}) (fun t => [(0, .pointer (some ⟨n.a, 0, none⟩)), (1, .int .i64 (i : Nat)), (2, .int .i64 (many : Nat)), (3, .int .i64 (words : Nat)), (14, .int .i64 (s : Nat)), (15, .int .i64 (g : Nat)), (16, .int .i64 (j : Nat)), (17, .pointer (some ⟨b, 0, none⟩)), (19, .pointer (some ⟨bb, 0, none⟩)), (20, .int .i64 (t.1 : Nat))])
    (fun t => pt (some ⟨b, 0, none⟩) (AlO n.g (Q i).u (Q i).pb x s g words (alIt (x.al s g words) t.1 (alR (R j).1 (R j).2)).2.2) :: pt (some ⟨bb, 0, none⟩) (RAgO (Q i).s n.rp s g words (alIt (x.al s g words) t.1 (alR (R j).1 (R j).2)).2.2) :: rhF x n e (some ⟨r, 0, none⟩) (some ⟨r2, 0, none⟩) k c c2 (alIt (x.al s g words) t.1 (alR (R j).1 (R j).2)).1 (rhG x n r r2 k c c2 Q i (alIt (x.al s g words) t.1 (alR (R j).1 (R j).2)).2.1 G))
    (fun t => N j - t.1) ⟨0, Nat.zero_le _⟩ (sub.cons rfl (sub.cons rfl (sub.cons rfl (sub.cons rfl (sub.cons rfl (sub.cons rfl (sub.cons rfl (sub.cons rfl (sub.cons rfl (sub.cons rfl sub.nil)))))))))) ?_ ?_
   ·dsimp only [rhF, rhG, alIt, alR]
    have e6 : RAgO (Q i).s n.rp s g words AlS.init = RAlO (Q i).s n.rp s g words AlS.init := RAgO.fun_ (by show 0 ≠ 6; omega)
    rw [e6]
    refine Ent.trans (Ent.take (a := some ⟨b, 0, none⟩)) (Ent.cons ?_)
    refine Ent.trans (Ent.take (a := some ⟨bb, 0, none⟩)) (Ent.cons ?_)
    exact entm
   rintro ⟨t, ht⟩
   dsimp only [rhF, rhG]
   obtain ⟨g1, g2, g3, g4, g5, g6, g7⟩ := hgood t ht
   repeat' (first|refine Zo0 rfl ?_|refine Zo1 ?_|refine Zo2 ?_|refine Zo3 ?_|refine Zo4 ?_|refine Zo5 ?_|refine Zo6 ?_|refine Zo7 ?_|refine Zo8 rfl ?_|refine Zo9 rfl ?_|refine Zoa ?_|refine Zob ?_|refine Zoc ?_|refine Zod ?_|refine Zoe ?_|refine Zof ?_|refine Zog ?_|refine Zoh ?_|refine Zom rfl (by rfl) ?_|refine Zon rfl rfl ?_|refine Zoo rfl rfl rfl rfl (by rfl) (by rfl) ?_|refine Zop rfl trivial ?_|refine Zoq rfl rfl rfl ?_)
   rw [decide_eq_true (show (t : Int) < 200 by omega)]
   refine go ?_
   by_cases htn : t = N j
   ·subst htn
    have ee : alStep (x.al s g words) (alIt (x.al s g words) (N j) (alR (R j).1 (R j).2)).1 (alIt (x.al s g words) (N j) (alR (R j).1 (R j).2)).2.1 (alIt (x.al s g words) (N j) (alR (R j).1 (R j).2)).2.2 = (alIt (x.al s g words) (N j) (alR (R j).1 (R j).2)) := by
     unfold alStep; rw [if_pos hdn]
    have hd6' := hd6 hdn
    refine Sx.ca rfl (refAgStep (b := bb) (sa := (Q i).s) (w := n.w) (rm := n.rm) (rp := n.rp) (rs := n.rs) (re := n.re) (slot := s) (gen := g) (n := words) (x := x) (S := (alIt (x.al s g words) (N j) (alR (R j).1 (R j).2)).2.1) (m := (alIt (x.al s g words) (N j) (alR (R j).1 (R j).2)).1) (a := (alIt (x.al s g words) (N j) (alR (R j).1 (R j).2)).2.2) hx (by omega) hsl hw1 hw2 hw8 g3 (by omega) g5 g6 g7 (fun h => by rw [hdn] at h; cases h) (fun _ => hd6')) ?_
    rw [ee, hdn]
    rintro v L' ⟨rfl, rfl⟩
    refine go ?_
    refine Sx.ca rfl (alDone (b := b) (g := n.g) (u := (Q i).u) (pb := (Q i).pb) (x := x) (slot := s) (gen := g) (n := words) (s := (alIt (x.al s g words) (N j) (alR (R j).1 (R j).2)).2.2) hdn) ?_
    rintro v L' ⟨rfl, rfl⟩
    refine go ?_
    refine Sx.ent (Ent.take (a := some ⟨bb, 0, none⟩)) ?_
    refine Sx.rag (b := bb) (s := (alIt (x.al s g words) (N j) (alR (R j).1 (R j).2)).2.2) (fun _ => hd6') ?_
    intro at2 tp2 gp2 dry2 rest2 hbk2
    rw [hdn]
    refine go ?_
    rw [w64 (n := (j : Int) + 1) (by omega) (by omega)]
    refine Klp.nm ⟨j + 1, by omega⟩ (sub.cons rfl (sub.cons rfl (sub.cons rfl (sub.cons rfl (sub.cons rfl (sub.cons rfl (sub.cons rfl sub.nil))))))) ?_ (by dsimp only; omega)
    rw [hn1, hn2]
    dsimp only [rhF, rhG]
    exact entm
   ·have f1 := href t (by omega)
    refine Sx.ca rfl (refAgStep (b := bb) (sa := (Q i).s) (w := n.w) (rm := n.rm) (rp := n.rp) (rs := n.rs) (re := n.re) (slot := s) (gen := g) (n := words) (x := x) (S := (alIt (x.al s g words) t (alR (R j).1 (R j).2)).2.1) (m := (alIt (x.al s g words) t (alR (R j).1 (R j).2)).1) (a := (alIt (x.al s g words) t (alR (R j).1 (R j).2)).2.2) hx (by omega) hsl hw1 hw2 hw8 g3 (by omega) g5 g6 g7 (fun _ => f1) (fun h => by rw [hnd t (by omega)] at h; cases h)) ?_
    rintro v L' ⟨rfl, rfl⟩
    rw [hnd t (by omega)]
    refine go ?_
    refine Sx.ca rfl (alStepC (b := b) (g := n.g) (u := (Q i).u) (mp := n.mp) (pb := (Q i).pb) (x := x) (slot := s) (gen := g) (n := words) (S := (alIt (x.al s g words) t (alR (R j).1 (R j).2)).2.1) (m := (alIt (x.al s g words) t (alR (R j).1 (R j).2)).1) (a := (alIt (x.al s g words) t (alR (R j).1 (R j).2)).2.2) hx (by omega) hsl hw1 hw2 hw8 g3 (by omega) g5 g6 g7) ?_
    rintro v L' ⟨rfl, rfl⟩
    refine go ?_
    rw [w64 (n := (t : Int) + 1) (by omega) (by omega)]
    refine Klp.nm ⟨t + 1, by omega⟩ (sub.cons rfl (sub.cons rfl (sub.cons rfl (sub.cons rfl (sub.cons rfl (sub.cons rfl (sub.cons rfl (sub.cons rfl (sub.cons rfl (sub.cons rfl sub.nil)))))))))) ?_ (by dsimp only; omega)
    dsimp only [rhF, rhG, alIt]
    refine Ent.trans (Ent.take (a := some ⟨b, 0, none⟩)) (Ent.cons ?_)
    refine Ent.trans (Ent.take (a := some ⟨bb, 0, none⟩)) (Ent.cons ?_)
    exact entm
  ·obtain rfl : j = many := by omega
   refine go ?_
   refine Kr.three (.inr rfl) rfl rfl rfl (Ent.refl _) ⟨rfl, rfl⟩
end
end Go.Proofs.YtflalhdofhobmaaGreat


namespace Go.Proofs.YtflalhdofhobmaaGreat
theorem ApG.one_ {x : Cn} {m : Mm} {S : SupS} {n : Nat} {P : List Int} (hl : m.ws.length = x.len) (hm : m.ok) (hrt : ∀ s, s < x.sl → (rtOf (m.at_ (x.root + s))).ok) (hp : Pool x.pool m P) (h0 : hdT (m.at_ 0) ≤ 10) (hxs : S.xs = []) (hlm : S.lm.size = 0) (hm0 : 0 ≤ S.most) (hm2 : S.most ≤ 64) (h1 : 1 ≤ n) (h2 : n ≤ x.wd) : ApG x m [⟨S, AlS.init, n⟩] P [] 0 := by
 have hown : ∀ y : Int, (([⟨S, AlS.init, n⟩] : List Wk).flatMap Wk.own).count y = 0 := fun y => by
  have e : (([⟨S, AlS.init, n⟩] : List Wk).flatMap Wk.own) = S.xs ++ ([] ++ []) ++ [] := rfl
  rw [e, hxs]; rfl
 refine ⟨hl, hm, hrt, hp, by show hdT (m.at_ 0) ≤ _; omega, fun y => ?_, fun y hy => ?_, fun w hw => ?_⟩
 ·rw [hown, List.count_nil]
  have := List.nodup_iff_count.1 hp.nd y
  omega
 ·rw [hown, List.count_nil] at hy
  have := List.count_pos_iff.1 (show 0 < P.count y by omega)
  exact hp.c.mem y this
 ·have hw : w = ⟨S, AlS.init, n⟩ := by simpa using hw
  subst hw
  exact ⟨h1, h2, hlm, hm0, hm2, Nat.zero_le _, fun hh => (by rcases hh with hh | hh <;> cases hh), fun _ => rfl, Nat.zero_le _, fun _ => ⟨Int.le_refl _, rt_zero_ok, fun hh => absurd rfl hh, fun hh => (by cases hh), fun hh => (by simp [AlS.init] at hh), fun hh => (by cases hh), fun _ _ => rfl, fun hh => (by cases hh), fun hh => (by cases hh), fun hh => (by cases hh), fun _ => ⟨rfl, rfl⟩⟩⟩
section
variable {x : Cn} {slot n : Nat} {gen : Int} {m : Mm} {S : SupS} {P : List Int}
theorem al_refs (h : ApG x m [⟨S, AlS.init, n⟩] P [] 0) (hx : x.ok) (hs : slot < x.sl) (hw8 : x.wd % 8 = 0) : ∀ t, t ≤ 900 → (∀ j, j < t → (alIt (x.al slot gen n) j (alR m S)).2.2.done = false) → ∃ P' R', ApG x (alIt (x.al slot gen n) t (alR m S)).1 ([] ++ ⟨(alIt (x.al slot gen n) t (alR m S)).2.1, (alIt (x.al slot gen n) t (alR m S)).2.2, n⟩ :: []) P' R' t
 | 0, _, _ => ⟨P, [], h⟩
 | t + 1, ht, hnd => by
   obtain ⟨P1, R1, h1⟩ := al_refs h hx hs hw8 t (by omega) fun j hj => hnd j (by omega)
   exact ag_step h1 hx hs (by omega) hw8 (hnd t (by omega))
theorem al_stp {N : Nat} {M' : Mm} {S' : SupS} {a' : AlS} (h : ApG x m [⟨S, AlS.init, n⟩] P [] 0) (hx : x.ok) (hs : slot < x.sl) (hw8 : x.wd % 8 = 0) (hc : x.c ≤ 100) (hN : N < 200) (e : alIt (x.al slot gen n) N (alR m S) = (M', S', a')) (hd : a'.done = true) (hnd : ∀ j, j < N → (alIt (x.al slot gen n) j (alR m S)).2.2.done = false) :
  AlStpG x slot gen n (m, S) N (M', S') := by
 have hg : ∀ t, t ≤ N → AlGood x slot (alIt (x.al slot gen n) t (alR m S)) ∧ ((alIt (x.al slot gen n) t (alR m S)).2.2.done = false → RefA x (alIt (x.al slot gen n) t (alR m S)).2.1 (alIt (x.al slot gen n) t (alR m S)).2.2) ∧ (alIt (x.al slot gen n) t (alR m S)).2.2.at_ ≤ 6 := fun t ht => by
  obtain ⟨P1, R1, h1⟩ := al_refs (gen := gen) h hx hs hw8 t (by omega) fun j hj => hnd j (by omega)
  have hw := h1.mid
  have hxl := h1.xs_le
  have hlm := hw.lm
  exact ⟨⟨h1.len, h1.ok, h1.root slot hs, by dsimp only at hxl hlm; omega, hw.m0, hw.m2, fun hdn => h1.alOk (by omega) hdn⟩, fun hdn => h1.refA hx hdn, hw.a6⟩
 refine ⟨⟨fun j hj => (hg j hj).1, hnd, by show (alIt (x.al slot gen n) N (alR m S)).2.2.done = true; rw [e]; exact hd⟩, hN, by show (alIt (x.al slot gen n) N (alR m S)).1 = _; rw [e], by show (alIt (x.al slot gen n) N (alR m S)).2.1 = _; rw [e], fun t ht => (hg t (by omega)).2.1 (hnd t ht), fun hdn => ?_⟩
 show (alIt (x.al slot gen n) N (alR m S)).2.2.at_ = 6
 obtain ⟨t, rfl⟩ : ∃ t, N = t + 1 := by
  cases N with
  | zero => cases hdn
  | succ t => exact ⟨t, rfl⟩
 exact alStep_done (hg t (by omega)).2.2 (hnd t (by omega)) hdn
end
theorem once_region {x : Cn} (hx : x.ok) (hc8 : x.c ≤ 8) (hwd : x.wd ≤ 16) {ca : Nat} (hca : ca ≤ 64) : ∃ (M M' : Mm) (S' : SupS) (N : Nat) (P' : List Int), (crIt x.spare x.root 0 10 (CreS.init, allM x)).2 = M ∧ AlStpG x 0 1 1 (M, SupS.nil ca) N (M', S') ∧ M'.ws.length = x.len ∧ M'.ok ∧
  (∃ off, rtOf (M'.at_ (x.root + 0)) = ⟨1, 0 + 2, 0, off⟩) ∧ (rtOf (M'.at_ (x.root + 0))).ok ∧ M'.at_ (x.link + 0) = 0 ∧ Pool x.spare M' (iotaI x.sl).tail ∧ Pool x.pool M' P' ∧ S'.lm = Lm.nil ∧ (S'.xs.length : Int) ≤ S'.most ∧ S'.most = (SupS.nil ca).most ∧ S'.xs.length + P'.length + 1 = x.c ∧
  Pool x.spare (allM x) (((0 : Nat) : Int) :: (iotaI x.sl).tail) ∧ laterT (rtOf ((allM x).at_ (x.root + 0))).gen = 1 := by
 obtain ⟨b1, b2, b3, b4, b5, b6, b7⟩ := show MayC (x.w : Int) x.c x.wd x.sl x.ca x.ba from hx
 have hw8 := hx.w8
 have g1 : x.root + x.sl = x.slot := by unfold Cn.root Cn.slot; omega
 have g2 : x.slot + x.sl = x.link := by unfold Cn.slot Cn.link; omega
 have g4 : 3 ≤ x.root := by unfold Cn.root; omega
 obtain ⟨M, hM, _, hMl, hMo, hMp, hMr, hMe, hsp, hgen⟩ := region0 hx 0 (by omega)
 obtain ⟨hs0, _⟩ := region0s hx 0 (by omega)
 rw [hM] at hs0
 have hio : iotaI x.c = ((0 : Nat) : Int) :: (iotaI x.c).drop (0 + 1) := iota_drop (c := x.c) (j := 0) (by omega)
 have hMp' := hMp
 rw [hio] at hMp'
 have hnm : (SupS.nil ca).most = min (max (ca : Int) 0) 64 := rfl
 have hrk : (rtOf (M.at_ (x.root + 0))).ok := by rw [hMr]; exact ⟨by show 1 < 4294967296; omega, by show 1 ≤ 4097; omega, by show 0 ≤ 3; omega, by show 0 ≤ 1024; omega⟩
 have hneed : roundS (rtOf (M.at_ (x.root + 0))).cl 1 = 1 := by rw [hMr]; rfl
 obtain ⟨N, M', S', a, P', e, hN, hd, hnd, hl', ho', hp', hlm, hmo, hxs, hperm, hr, hk, hoth⟩ := al_anew (x := x) (slot := 0) (gen := 1) (n := 1) (m := M) (S := SupS.nil ca) hx hMl hMo (by omega) hrk (by omega) (by omega) rfl rfl hw8 (by omega) (by omega) (by rw [hMr]; exact ⟨by show 1 ≤ 1; omega, rfl⟩) 1 hneed (by rw [hMr]; intro hh; have := hh.1; exact absurd this (by decide)) 0 ((iotaI x.c).drop (0 + 1)) hMp'
 rw [hMr] at hr hk
 have haf := afterS_le (wd := x.wd) (need := 1) (by omega)
 have hR : Rt.ok ⟨1, 2 + 0, 0, afterS x.wd 1⟩ := ⟨by show 1 < 4294967296; omega, by show 2 + 0 ≤ 4097; omega, by show 0 ≤ 3; omega, by show afterS x.wd 1 ≤ 1024; omega⟩
 have h0 : ∀ s, s < x.sl → (rtOf (M.at_ (x.root + s))).ok := fun s hs => by
  by_cases hs0 : s = 0
  ·subst hs0; exact hrk
  ·rw [hMe _ (by omega) (by omega), allM_at hx (by omega) (by omega) (by omega) (by omega)]; exact rt_zero_ok
 have hap : ApG x M [⟨SupS.nil ca, AlS.init, 1⟩] (iotaI x.c) [] 0 := ApG.one_ hMl hMo h0 hMp (by rw [hMe 0 (by omega) (by omega), show (allM x).at_ 0 = 1 from allM_0 hx]; decide) rfl rfl (by omega) (by omega) (by omega) (by omega)
 have hstp := al_stp (slot := 0) (gen := 1) hap hx (by omega) hw8 (by omega) (by omega) e hd hnd
 have hrt : rtOf (M'.at_ (x.root + 0)) = ⟨1, 2 + 0, 0, afterS x.wd 1⟩ := by rw [hr]; exact rtOf_w hR
 refine ⟨M, M', S', N, P', hM, hstp, hl', ho', ⟨afterS x.wd 1, hrt⟩, by rw [hrt]; exact hR, ?_, hs0.congL (hoth _ (by show 1 ≠ 0; omega) (by show 1 < x.link; omega) (by show 1 ≠ x.root + 0; omega)) (fun z hz => ?_), hp', hlm, by rw [hmo]; exact hxs, hmo, ?_, hsp, hgen⟩
 ·rw [hk]; rfl
 ·have hz2 := hs0.c.mem z hz
  have hz3 : z < x.sl := hz2.2
  exact hoth _ (by show x.slot + z.toNat ≠ 0; omega) (by show x.slot + z.toNat < x.link; omega) (by show x.slot + z.toNat ≠ x.root + 0; omega)
 ·have := hperm.length_eq
  rw [List.length_append, List.length_drop, iotaI_len] at this
  omega
end Go.Proofs.YtflalhdofhobmaaGreat


namespace Go.Proofs.YtflalhdofhobmaaGreat
open Go
attribute [local irreducible] Sx Cx Rx Fx Krg Ksq Kbl Klp Kr
section
variable {L F G : St}
end
end Go.Proofs.YtflalhdofhobmaaGreat


namespace Go.Proofs.YtflalhdofhobmaaGreat
open Go
attribute [local irreducible] Sx Cx Rx Fx Krg Ksq Kbl Klp Kr
section
variable {L F G : St}
structure EnX where
 b : Nat
 bb : Nat
 e : EndS
 s : Nat
structure PlS where
 i : Nat
 m : Mm
 W : Nat → Wk
 A : Nat → Nat
 bs : Nat → Nat
 Y : Nat → Option Addr
 en : Option EnX
structure PlOk (x : Cn) (len : Nat) (p : PlS) : Prop where
 i : p.i ≤ len
 ag : Ag x p.m p.W p.i
 n : p.m.n ≤ 10 + p.i
 wk : ∀ j, j < 3 → (p.W j).a.done = false → EnA (p.W j).a ∧ p.A j < 2 ∧ ∃ b, p.Y j = some ⟨b, 0, none⟩
 en : ∀ q, p.en = some q → q.e.ok ∧ EndI q.e ∧ q.e.cnt ≤ p.i ∧ q.s < 2
theorem updN_id (f : Nat → Nat) (i : Nat) : updN f i (f i) = f := by
 funext j; unfold updN; split
 ·rename_i h; rw [h]
 ·rfl
end
end Go.Proofs.YtflalhdofhobmaaGreat


namespace Go.Proofs.YtflalhdofhobmaaGreat
open Go
attribute [local irreducible] Sx Cx Rx Fx Krg Ksq Kbl Klp Kr
def fvs (i : Nat) (bs : Nat → Nat) : List Value := (List.range 3).map fun j => if j < i then .pointer (some ⟨bs j, 0, none⟩) else .pointer none
theorem fvs_set {i b : Nat} {bs : Nat → Nat} (h : i < 3) : (fvs i bs).set (0 + (i : Int).toNat * 1) (.pointer (some ⟨b, 0, none⟩)) = fvs (i + 1) (updN bs i b) := by
 rcases (show i = 0 ∨ i = 1 ∨ i = 2 by omega) with rfl | rfl | rfl <;> rfl
theorem fvs_blt {i j : Nat} {bs : Nat → Nat} (h : j < 3) : Nat.blt (0 + (j : Int).toNat * 1) (fvs i bs).length = true := by
 rw [show (fvs i bs).length = 3 by simp [fvs]]; rcases (show j = 0 ∨ j = 1 ∨ j = 2 by omega) with rfl | rfl | rfl <;> rfl
theorem fvs_get {j : Nat} {bs : Nat → Nat} (h : j < 3) : (fvs 3 bs)[0 + (j : Int).toNat * 1]? = some (.pointer (some ⟨bs j, 0, none⟩)) := by
 rcases (show j = 0 ∨ j = 1 ∨ j = 2 by omega) with rfl | rfl | rfl <;> rfl
def fineF (f : Nat → FrS) : Nat → Nat
 | 0 => 0
 | i + 1 => fineF f i + (if (f i).v.code = 0 then 1 else 0)
def keptF (S : Nat → SupS) : Nat → Nat
 | 0 => 0
 | i + 1 => keptF S i + ((S i).lm.size + (S i).xs.length)
def sumB (m : Lm) : Nat → Nat
 | 0 => 0
 | b + 1 => sumB m b + (m.items b).length
theorem sumB_3 (m : Lm) : sumB m 3 = m.size := by show 0 + m.x0.length + m.x1.length + m.x2.length = m.x0.length + m.x1.length + m.x2.length; omega
theorem fineF_congr {f g : Nat → FrS} : ∀ {i : Nat}, (∀ j, j < i → f j = g j) → fineF f i = fineF g i
 | 0, _ => rfl
 | i + 1, h => by show fineF f i + _ = fineF g i + _; rw [fineF_congr fun j hj => h j (by omega), h i (by omega)]
theorem keptF_congr {f g : Nat → SupS} : ∀ {i : Nat}, (∀ j, j < i → f j = g j) → keptF f i = keptF g i
 | 0, _ => rfl
 | i + 1, h => by show keptF f i + _ = keptF g i + _; rw [keptF_congr fun j hj => h j (by omega), h i (by omega)]
def onW (n : Hn) (e : He) (Q : Nat → Who) (x : Cn) (j : Nat) (S : SupS) (b : Nat) (is : Bool) (f : FrS) : St :=
 pt (some ⟨(Q j).u, 0, none⟩) (SupO n.mp (Q j).pb x S) :: pt (some ⟨(Q j).pb, 0, none⟩) (SkO n.mp x.pool) :: (if is then [pt (some ⟨b, 0, none⟩) (FrO (frH n e Q j) x 0 1 f)] else [])
section
variable {L F G : St}
theorem on_back {n : Hn} {e : He} {Q : Nat → Who} {x : Cn} {S : Nat → SupS} {bs : Nat → Nat} {is : Nat → Bool} {f : Nat → FrS} {i b : Nat} {s1 : SupS} {g : FrS} {s : St} (hi : i < 3) (hs : ∀ G, Ent (s ++ G) (onW n e Q x i s1 b true g ++ G)) :
  Ent (s ++ (many 3 (updS (fun j => onW n e Q x j (S j) (bs j) (is j) (f j)) i []) ++ G)) (many 3 (fun j => onW n e Q x j (updG S i s1 j) (updN bs i b j) (updG is i true j) (updG f i g j)) ++ G) := by
 refine Ent.trans (hs _) ?_
 refine Ent.trans (Ent.oneBack hi) ?_
 have e1 : updS (fun j => onW n e Q x j (S j) (bs j) (is j) (f j)) i (onW n e Q x i s1 b true g) = fun j => onW n e Q x j (updG S i s1 j) (updN bs i b j) (updG is i true j) (updG f i g j) := by
  funext j
  unfold updS updN updG
  by_cases h : j = i
  ·subst h; simp
  ·simp [h]
 rw [e1]
 exact Ent.refl _
theorem updG_id {α : Type} (f : Nat → α) (i : Nat) : updG f i (f i) = f := by
 funext j; unfold updG; split
 ·rename_i h; rw [h]
 ·rfl
abbrev onF (x : Cn) (n : Hn) (e : He) (r r2 c c2 : Nat) (Q : Nat → Who) (gb xb : Nat) (m : Mm) (S : Nat → SupS) (i : Nat) (bs : Nat → Nat) (is : Nat → Bool) (f : Nat → FrS) (G : St) : St :=
 pt (some ⟨n.a, 0, none⟩) (Blk 97 (ehV x n e (some ⟨r, 0, none⟩) (some ⟨r2, 0, none⟩) 3 c c2)) :: pt (some ⟨r, 0, none⟩) (Row 47 1 3 c (ptrs 3 fun i => (Q i).u)) :: pt (some ⟨n.mp, 0, none⟩) (MemO m) ::
 pt (some ⟨e.eo, 0, none⟩) (EnO n.mp e.ro e.ch) :: pt (some ⟨e.ro, 0, none⟩) (RoO n.mp e.sp x) :: pt (some ⟨e.sp, 0, none⟩) (SkO n.mp x.spare) :: pt (some ⟨e.ch, 0, none⟩) (ChO n.mp e.pb x) ::
 pt (some ⟨n.ro, 0, none⟩) (RoO n.mp n.sp x) :: pt (some ⟨n.sp, 0, none⟩) (SkO n.mp x.spare) :: pt (some ⟨n.pb, 0, none⟩) (SkO n.mp x.pool) ::
 pt (some ⟨gb, 0, none⟩) (Blk 24 [.int .i64 x.w, .int .i64 x.c, .int .i64 x.wd, .int .i64 x.sl, .int .i64 x.ca, .int .i64 x.ba]) :: pt (some ⟨xb, 0, none⟩) (Blk 102 (fvs i bs)) ::
 (many 3 (fun j => onW n e Q x j (S j) (bs j) (is j) (f j)) ++ G)
abbrev onG (x : Cn) (n : Hn) (e : He) (r r2 c c2 : Nat) (Q : Nat → Who) (gb xb : Nat) (m : Mm) (S : Nat → SupS) (bs : Nat → Nat) (f : Nat → FrS) (i : Nat) (G : St) : St :=
 pt (some ⟨(Q i).u, 0, none⟩) (SupO n.mp (Q i).pb x (S i)) :: pt (some ⟨(Q i).pb, 0, none⟩) (SkO n.mp x.pool) :: pt (some ⟨bs i, 0, none⟩) (FrO (frH n e Q i) x 0 1 (f i)) ::
 pt (some ⟨n.a, 0, none⟩) (Blk 97 (ehV x n e (some ⟨r, 0, none⟩) (some ⟨r2, 0, none⟩) 3 c c2)) :: pt (some ⟨r, 0, none⟩) (Row 47 1 3 c (ptrs 3 fun i => (Q i).u)) :: pt (some ⟨n.mp, 0, none⟩) (MemO m) ::
 pt (some ⟨e.eo, 0, none⟩) (EnO n.mp e.ro e.ch) :: pt (some ⟨e.ro, 0, none⟩) (RoO n.mp e.sp x) :: pt (some ⟨e.sp, 0, none⟩) (SkO n.mp x.spare) :: pt (some ⟨e.ch, 0, none⟩) (ChO n.mp e.pb x) ::
 pt (some ⟨n.ro, 0, none⟩) (RoO n.mp n.sp x) :: pt (some ⟨n.sp, 0, none⟩) (SkO n.mp x.spare) :: pt (some ⟨n.pb, 0, none⟩) (SkO n.mp x.pool) ::
 pt (some ⟨gb, 0, none⟩) (Blk 24 [.int .i64 x.w, .int .i64 x.c, .int .i64 x.wd, .int .i64 x.sl, .int .i64 x.ca, .int .i64 x.ba]) :: pt (some ⟨xb, 0, none⟩) (Blk 102 (fvs 3 bs)) ::
 (many 3 (updS (fun j => onW n e Q x j (S j) (bs j) true (f j)) i []) ++ G)
theorem on_more {n : Hn} {e : He} {Q : Nat → Who} {x : Cn} {S : Nat → SupS} {bs : Nat → Nat} {f : Nat → FrS} {i b : Nat} (hi : i < 3) :
  Ent (pt (some ⟨b, 0, none⟩) (FrO (frH n e Q i) x 0 1 (f i)) :: (many 3 (fun j => onW n e Q x j (S j) (bs j) (decide (j < i)) (f j)) ++ G)) (many 3 (fun j => onW n e Q x j (S j) (updN bs i b j) (decide (j < i + 1)) (f j)) ++ G) := by
 refine Ent.trans (Ent.cons (Ent.one hi)) ?_
 have e0 : onW n e Q x i (S i) (bs i) (decide (i < i)) (f i) = [pt (some ⟨(Q i).u, 0, none⟩) (SupO n.mp (Q i).pb x (S i)), pt (some ⟨(Q i).pb, 0, none⟩) (SkO n.mp x.pool)] := by unfold onW; rw [decide_eq_false (by omega)]; rfl
 have hb := on_back (n := n) (e := e) (Q := Q) (x := x) (S := S) (bs := bs) (is := fun j => decide (j < i)) (f := f) (i := i) (b := b) (s1 := S i) (g := f i) (s := [pt (some ⟨(Q i).u, 0, none⟩) (SupO n.mp (Q i).pb x (S i)), pt (some ⟨(Q i).pb, 0, none⟩) (SkO n.mp x.pool), pt (some ⟨b, 0, none⟩) (FrO (frH n e Q i) x 0 1 (f i))]) (G := G) hi (fun G => Ent.refl _)
 rw [updG_id, updG_id] at hb
 have e1 : updG (fun j => decide (j < i)) i true = fun j => decide (j < i + 1) := by
  funext j; unfold updG
  split
  ·rename_i h; subst h; exact (decide_eq_true (by omega)).symm
  ·exact decide_eq_decide.2 (by omega)
 rw [e1] at hb
 refine Ent.trans ?_ hb
 rw [e0]
 exact Ent.perm (by
  refine List.Perm.trans ?_ (List.perm_middle (l₁ := [pt (some ⟨(Q i).u, 0, none⟩) (SupO n.mp (Q i).pb x (S i)), pt (some ⟨(Q i).pb, 0, none⟩) (SkO n.mp x.pool)])).symm
  exact List.Perm.refl _)
theorem on_first {n : Hn} {e : He} {Q : Nat → Who} {x : Cn} {S : Nat → SupS} {S1 : SupS} {nl : SupS} (h0 : S 0 = S1) (h1 : ∀ i, i ≠ 0 → S i = nl) :
  Ent (pt (some ⟨(Q 0).u, 0, none⟩) (SupO n.mp (Q 0).pb x S1) :: pt (some ⟨(Q 0).pb, 0, none⟩) (SkO n.mp x.pool) :: (many 3 (updS (fun i => whoL n.mp n.w x (Q i) nl nl) 0 []) ++ G)) (many 3 (fun j => onW n e Q x j (S j) 0 (decide (j < 0)) FrS.init) ++ G) := by
 have e0 : onW n e Q x 0 (S 0) 0 (decide (0 < 0)) FrS.init = [pt (some ⟨(Q 0).u, 0, none⟩) (SupO n.mp (Q 0).pb x S1), pt (some ⟨(Q 0).pb, 0, none⟩) (SkO n.mp x.pool)] := by rw [h0]; rfl
 have hb := Ent.oneBack (n := 3) (i := 0) (f := fun j => onW n e Q x j (S j) 0 (decide (j < 0)) FrS.init) (s := onW n e Q x 0 (S 0) 0 (decide (0 < 0)) FrS.init) (G := G) (by omega)
 rw [updS_id (fun j => onW n e Q x j (S j) 0 (decide (j < 0)) FrS.init) 0, e0] at hb
 refine Ent.trans ?_ hb
 refine Ent.cons (Ent.cons ?_)
 refine many_ent fun i hi G => ?_
 by_cases hi0 : i = 0
 ·subst hi0; rw [updS_same, updS_same]; exact Ent.refl _
 ·rw [updS_ne _ _ hi0, updS_ne _ _ hi0, h1 i hi0]
  show Ent (pt (some ⟨(Q i).u, 0, none⟩) (SupO n.mp (Q i).pb x nl) :: pt (some ⟨(Q i).pb, 0, none⟩) (SkO n.mp x.pool) :: pt (some ⟨(Q i).s, 0, none⟩) (RSupO n.w nl) :: G) (pt (some ⟨(Q i).u, 0, none⟩) (SupO n.mp (Q i).pb x nl) :: pt (some ⟨(Q i).pb, 0, none⟩) (SkO n.mp x.pool) :: G)
  exact Ent.cons (Ent.cons Ent.drop)
theorem on_goes {n : Hn} {e : He} {Q : Nat → Who} {x : Cn} {S : Nat → SupS} {bs : Nat → Nat} {f : Nat → FrS} {i : Nat} {s1 : SupS} {g : FrS} (hi : i < 3) :
  Ent (pt (some ⟨(Q i).u, 0, none⟩) (SupO n.mp (Q i).pb x s1) :: pt (some ⟨(Q i).pb, 0, none⟩) (SkO n.mp x.pool) :: pt (some ⟨bs i, 0, none⟩) (FrO (frH n e Q i) x 0 1 g) :: (many 3 (updS (fun j => onW n e Q x j (S j) (bs j) true (f j)) i []) ++ G))
   (many 3 (fun j => onW n e Q x j (updG S i s1 j) (bs j) true (updG f i g j)) ++ G) := by
 have hb := on_back (n := n) (e := e) (Q := Q) (x := x) (S := S) (bs := bs) (is := fun _ => true) (f := f) (i := i) (b := bs i) (s1 := s1) (g := g) (s := [pt (some ⟨(Q i).u, 0, none⟩) (SupO n.mp (Q i).pb x s1), pt (some ⟨(Q i).pb, 0, none⟩) (SkO n.mp x.pool), pt (some ⟨bs i, 0, none⟩) (FrO (frH n e Q i) x 0 1 g)]) (G := G) hi (fun G => Ent.refl _)
 have e1 : updG (fun _ : Nat => true) i true = fun _ => true := by funext j; unfold updG; split <;> rfl
 rw [updN_id, e1] at hb
 exact hb
end
end Go.Proofs.YtflalhdofhobmaaGreat


namespace Go.Proofs.YtflalhdofhobmaaGreat
open Go
attribute [local irreducible] Sx Cx Rx Fx Krg Ksq Kbl Klp Kr
section
variable {L F G : St}
set_option maxRecDepth 100000 in
set_option maxHeartbeats 16000000 in
theorem endingOnce {w : World} {v : Value} {xs : List Int} (n : Int) (hv : In w 1 v xs.length (ints xs)) : Fx Tryz.prog 9 [.int .i64 n, v] [Old w] (fun v L' => v = .bool true ∧ Ent L' [Old w]) := by
 obtain ⟨hn, sa, scp, rfl, hRd⟩ := hv.rd
 have hmx : maxLen = 9223372036854775807 := rfl
 refine Fx.mk Tryz.func9 k9 nb_ ?_
 dsimp only [c9, kG, kS, kH, kM, kN, kF, kL, envOf, Nat.reduceAdd]
 refine go ?_
 refine Sx.ca rfl enFirst ?_
 rintro v L' ⟨rfl, rfl⟩
 refine go ?_
 refine Cx.ifp rfl (fun h => ?_) (fun hlen2 => ?_)
 ·refine go ?_
  exact Kr.one (.inr rfl) rfl (Ent.refl _) ⟨rfl, Ent.refl _⟩
 refine go ?_
 refine Sx.ca rfl (config_ n) ?_
 rintro v L' ⟨⟨w', c, wd, sl, ca, ba, rfl, hsm⟩, rfl⟩
 obtain ⟨x, hxv, hx, hca, hc8, hba, hw4, hw16, hsl4⟩ := small_cfg2 hsm
 rw [hxv]
 clear hxv hsm
 clear w' c wd sl ca ba
 refine Sx.al fun gb => ?_
 refine Sx.st (b := gb) rfl rfl rfl rfl rfl rfl ?_
 refine Sx.re [.int .i64 x.w, .int .i64 x.c, .int .i64 x.wd, .int .i64 x.sl, .int .i64 x.ca, .int .i64 x.ba] rfl ?_
 have hx' := hx
 obtain ⟨b1, b2, b3, b4, b5, b6, b7⟩ := hx'.b
 have hlen := hx.len_le
 have hw8 := hx.w8
 refine go ?_
 refine Sx.ca (vs := [x.v]) rfl (enMade hx) ?_
 rintro v L' ⟨nn, e, r, r2, c, c2, Q, rfl, rfl⟩
 refine Sx.ent ehF_out ?_
 refine Sx.re [.int .i64 x.w, .int .i64 x.c, .int .i64 x.wd, .int .i64 x.sl, .int .i64 x.ca, .int .i64 x.ba] rfl ?_
 dsimp only [ehF]
 refine go ?_
 obtain ⟨M0, M1, S1, N, P, hM0, hst, hl1, ho1, hrt, hrk, hlk, hsp, hpl, hlm, hxs, hmo, hcn, hsp0, hgen⟩ := once_region hx hc8 hw16 (ca := x.ca) (by omega)
 obtain ⟨R, hR⟩ : ∃ R : Nat → Mm × SupS, R = fun j => if j = 0 then (M0, SupS.nil x.ca) else (M1, S1) := ⟨_, rfl⟩
 have hR0 : R 0 = (M0, SupS.nil x.ca) := by rw [hR]; rfl
 have hR1 : R 1 = (M1, S1) := by rw [hR]; rfl
 clear hR
 have ger := enRegionG (x := x) (n := nn) (e := e) (r := r) (r2 := r2) (k := 3) (c := c) (c2 := c2) (Q := Q) (m := allM x) 0 1 1 R (fun _ => N) (by omega) (by omega) (by omega) (by omega) (by omega) hw8 hx (allM_len x) (allM_ok hx) (s := 0) (l := (iotaI x.sl).tail) hsp0 (by omega) (by rw [hR0, hM0]) (by
   rw [hgen]; intro j hj; obtain rfl : j = 0 := by omega
   rw [hR0, hR1]; exact hst)
  (G := pt (some ⟨gb, 0, none⟩) (Blk 24 [.int .i64 x.w, .int .i64 x.c, .int .i64 x.wd, .int .i64 x.sl, .int .i64 x.ca, .int .i64 x.ba]) :: pt (some ⟨nn.pb, 0, none⟩) (SkO nn.mp x.pool) :: pt (some ⟨e.eo, 0, none⟩) (EnO nn.mp e.ro e.ch) :: pt (some ⟨e.ro, 0, none⟩) (RoO nn.mp e.sp x) :: pt (some ⟨e.sp, 0, none⟩) (SkO nn.mp x.spare) :: pt (some ⟨e.ch, 0, none⟩) (ChO nn.mp e.pb x) ::
   (many 3 (updS (fun i => whoL nn.mp nn.w x (Q i) (SupS.nil x.ca) (SupS.nil x.ca)) 0 []) ++ [Old w]))
 rw [hgen, hR0, hR1] at ger
 dsimp only at ger
 refine Sx.ent ?_ (Sx.ca rfl ger ?_)
 ·refine Ent.trans (Ent.ith 0 (by omega)) ?_
  simp only [whoL, List.cons_append, List.nil_append]
  exact entm
 rintro v L' ⟨rfl, rfl⟩
 dsimp only [rhF, rhG]
 refine go ?_
 refine Sx.al fun xb => ?_
 refine go ?_
 obtain ⟨S0, hS0⟩ : ∃ S0 : Nat → SupS, S0 = fun j => if j = 0 then S1 else SupS.nil x.ca := ⟨_, rfl⟩
 have hnm : (SupS.nil x.ca).most = min (max (x.ca : Int) 0) 64 := rfl
 have hS0x : ∀ i, ((S0 i).xs.length : Int) ≤ (S0 i).most ∧ (S0 i).lm = Lm.nil ∧ (S0 i).most ≤ 64 ∧ 0 ≤ (S0 i).most := fun i => by
  rw [hS0]; dsimp only; split
  ·exact ⟨hxs, hlm, by omega, by omega⟩
  ·exact ⟨by show ((0 : Nat) : Int) ≤ (SupS.nil x.ca).most; omega, rfl, by omega, by omega⟩
 obtain ⟨W0, hW0⟩ : ∃ W0, M1.at_ (x.root + 0) = W0 := ⟨_, rfl⟩
 rw [hW0] at hrt hrk
 have hnd0 := hsp0.nd
 rw [List.nodup_cons] at hnd0
 have hP : OnP x 0 W0 (iotaI x.sl).tail S0 := ⟨hx, by omega, by rw [← hW0]; exact Mm.at_lt ho1 _, hrt, hrk, hnd0.1, fun i _ => (hS0x i).1, fun i _ => (hS0x i).2.1⟩
 have hA : OncA x 0 0 W0 (iotaI x.sl).tail P M1 S0 S0 (fun _ => FrS.init) := ⟨⟨hl1, ho1, hpl⟩, hW0, hsp, hlk, fun i hi => ⟨⟨rfl, rfl, Nat.le_refl _, rfl, rfl, rfl, .inl rfl, Nat.le_refl _, rfl, by show 0 < _; omega⟩, rfl⟩⟩
 refine Cx.lp (α := {p : Nat × (Nat → Nat) // p.1 ≤ 3})
  (fun p => [(1, .slice sa xs.length scp), (5, .bool true), (6, .pointer (some ⟨gb, 0, none⟩)), (7, .pointer (some ⟨nn.a, 0, none⟩)), (8, .int .i64 ((0 : Nat) : Int)), (9, .int .i64 ((1 : Nat) : Int)), (11, .pointer (some ⟨xb, 0, none⟩)), (12, .int .i64 (p.1.1 : Nat))])
  (fun p => onF x nn e r r2 c c2 Q gb xb M1 S0 p.1.1 p.1.2 (fun j => decide (j < p.1.1)) (fun _ => FrS.init) [Old w])
  (fun p => 3 - p.1.1) ⟨(0, fun _ => 0), Nat.zero_le _⟩ (sub.cons rfl (sub.cons rfl (sub.cons rfl (sub.cons rfl (sub.cons rfl (sub.cons rfl (sub.cons rfl (sub.cons rfl sub.nil)))))))) ?_ ?_
 ·dsimp only [onF]
  iterate 12 (refine Ent.take1 ?_)
  refine Ent.trans ?_ (on_first (n := nn) (e := e) (Q := Q) (x := x) (S := S0) (S1 := S1) (nl := SupS.nil x.ca) (by rw [hS0]; rfl) (fun i hi => by rw [hS0]; exact if_neg hi))
  exact entm
 rintro ⟨⟨i, bs⟩, hi⟩
 dsimp only [onF] at hi ⊢
 refine go ?_
 refine Cx.ifp rfl (fun h => ?_) (fun h => ?_)
 ·have hi3 : i < 3 := by omega
  refine go ?_
  refine Cx.ordc rfl kr_ ?_
  refine ge ?_
  refine Ev.ldrH (b := r) kr_ rfl rfl (show (ptrs 3 fun i => (Q i).u)[0 + (i : Int).toNat * 1]? = some (.pointer (some ⟨(Q i).u, 0, none⟩)) by rw [show 0 + (i : Int).toNat * 1 = i by omega]; exact ptrs_get hi3) ?_
  refine ge ?_
  refine Ev.caH kr_ rfl rfl (endsFree (h := frH nn e Q i) (x := x) 0 ((1 : Nat) : Int) (by omega)) (Pres.deps kr_) ?_
  rintro v' L' ⟨b, rfl, rfl⟩
  refine ge ?_
  refine go ?_
  refine gg ?_
  refine Sx.stb (b := xb) rfl rfl rfl rfl (fvs_blt hi3) (fvs_set hi3) ?_
  refine go ?_
  rw [w64 (n := (i : Int) + 1) (by omega) (by omega)]
  refine Klp.nm ⟨(i + 1, updN bs i b), by dsimp only; omega⟩ (sub.cons rfl (sub.cons rfl (sub.cons rfl (sub.cons rfl (sub.cons rfl (sub.cons rfl (sub.cons rfl (sub.cons rfl sub.nil)))))))) ?_ (by dsimp only; omega)
  dsimp only [onF]
  iterate 12 (refine Ent.take1 ?_)
  refine Ent.trans ?_ (on_more hi3)
  exact entm
 ·obtain rfl : i = 3 := by omega
  refine go ?_
  have hcong : many 3 (fun j => onW nn e Q x j (S0 j) (bs j) (decide (j < 3)) FrS.init) = many 3 (fun j => onW nn e Q x j (S0 j) (bs j) true ((fun _ => FrS.init) j)) := many_congr fun j hj => by rw [decide_eq_true hj]
  rw [hcong]
  have hstepC : ∀ {T : Nat} {m : Mm} {S : Nat → SupS} {f : Nat → FrS} {who : Nat}, Onc x T 0 W0 (iotaI x.sl).tail P m S0 S f → who < 3 → T ≤ 100000 → x.len ≤ m.ws.length ∧ (S who).xs.length + (S who).lm.size ≤ 1000 ∧ 0 ≤ (S who).most ∧ (S who).most ≤ 64 ∧ ((f who).done = false → FrOk x (f who)) := fun {T m S f who} hO hw hT => by
   obtain ⟨u1, u2, u3⟩ := onc_sup hP hO hw
   obtain ⟨v1, v2, v3, v4⟩ := hS0x who
   have := (onc_mem hO).len
   exact ⟨by omega, by rw [u1]; omega, by omega, by omega, fun hd => onc_ok hP hO hw hT hd⟩
  refine Cx.lp (α := {p : Nat × Mm × (Nat → SupS) × (Nat → FrS) // p.1 ≤ xs.length ∧ Onc x p.1 0 W0 (iotaI x.sl).tail P p.2.1 S0 p.2.2.1 p.2.2.2})
   (fun p => [(1, .slice sa xs.length scp), (5, .bool true), (6, .pointer (some ⟨gb, 0, none⟩)), (7, .pointer (some ⟨nn.a, 0, none⟩)), (11, .pointer (some ⟨xb, 0, none⟩)), (15, .int .i64 (p.1.1 : Nat))])
   (fun p => onF x nn e r r2 c c2 Q gb xb p.1.2.1 p.1.2.2.1 3 bs (fun _ => true) p.1.2.2.2 [Old w])
   (fun p => xs.length - p.1.1) ⟨(0, M1, S0, fun _ => FrS.init), Nat.zero_le _, .a hA⟩ (sub.cons rfl (sub.cons rfl (sub.cons rfl (sub.cons rfl (sub.cons rfl (sub.cons rfl sub.nil)))))) ?_ ?_
  ·dsimp only [onF]
   exact entm
  rintro ⟨⟨i, m, S, f⟩, hi, hO⟩
  dsimp only [onF] at hi hO ⊢
  refine go ?_
  refine Cx.ifp rfl (fun h => ?_) (fun h => ?_)
  ·have hik : i < xs.length := by omega
   have hg : (ints xs)[i]? = some (.int .i64 xs[i]) := by simp [ints]
   obtain ⟨b0, o, rfl, _⟩ := (hRd [Old w] (Ent.refl _)).at1_ hg
   have hat : ∀ L, Ent L [Old w] → Has L b0 (o + i * 1) [.int .i64 xs[i]] := fun L hL => by
    obtain ⟨_, _, e, h⟩ := (hRd L hL).at1_ hg
    simp only [Option.some.injEq, Addr.mk.injEq, and_true] at e
    obtain ⟨rfl, rfl⟩ := e
    simpa using h
   refine gg ?_
   refine Sx.ld rfl (hat _ (by exact entm)) rfl ?_
   refine go ?_
   refine Sx.ca rfl (number xs[i] 3 (by omega) (by omega)) ?_
   rintro v L' ⟨rfl, rfl⟩
   have hq3 := Int.emod_nonneg xs[i] (show (3 : Int) ≠ 0 by omega)
   have hq4 := Int.emod_lt_of_pos xs[i] (show (0 : Int) < 3 by omega)
   obtain ⟨who, hwho, hw3⟩ : ∃ who : Nat, xs[i] % 3 = who ∧ who < 3 := ⟨(xs[i] % 3).toNat, by omega, by omega⟩
   rw [hwho]
   refine go ?_
   refine gg ?_
   refine Sx.ldb rfl (fvs_get hw3) ?_
   refine go ?_
   obtain ⟨z1, z2, z3, z4, z5⟩ := hstepC hO hw3 (by omega)
   obtain ⟨m', s', g', er, hO', _, _, _⟩ := onc_step hP hO hw3
   refine Sx.ent (Ent.ith who hw3) ?_
   simp only [onW, if_true, List.cons_append, List.nil_append]
   refine Sx.ca rfl (frStepC (b := bs who) (h := frH nn e Q who) (x := x) (slot := 0) (gen := 1) (m := m) (S := S who) (f := f who) (pb2 := e.pb) hx z1 (by omega) z2 z3 z4 z5) ?_
   rw [er]
   rintro v L' ⟨rfl, rfl⟩
   refine go ?_
   rw [w64 (n := (i : Int) + 1) (by omega) (by omega)]
   refine Klp.nm ⟨(i + 1, m', updG S who s', updG f who g'), by dsimp only; omega, hO'⟩ (sub.cons rfl (sub.cons rfl (sub.cons rfl (sub.cons rfl (sub.cons rfl (sub.cons rfl sub.nil)))))) ?_ (by dsimp only; omega)
   dsimp only [onF]
   iterate 12 (refine Ent.take1 ?_)
   refine Ent.trans ?_ (on_goes hw3)
   exact entm
  ·obtain rfl : i = xs.length := by omega
   refine go ?_
   refine Cx.lp (α := {p : Nat × Nat × Mm × (Nat → SupS) × (Nat → FrS) // p.1 ≤ 3 ∧ p.2.1 ≤ 100 + 100 * p.1 ∧ Onc x p.2.1 0 W0 (iotaI x.sl).tail P p.2.2.1 S0 p.2.2.2.1 p.2.2.2.2 ∧ (∀ j, j < p.1 → (p.2.2.2.2 j).done = true) ∧ fineF p.2.2.2.2 p.1 ≤ p.1 ∧ keptF p.2.2.2.1 p.1 ≤ 100 * p.1})
    (fun p => [(5, .bool true), (6, .pointer (some ⟨gb, 0, none⟩)), (7, .pointer (some ⟨nn.a, 0, none⟩)), (11, .pointer (some ⟨xb, 0, none⟩)), (16, .int .i64 (fineF p.1.2.2.2.2 p.1.1 : Nat)), (17, .int .i64 (keptF p.1.2.2.2.1 p.1.1 : Nat)), (18, .int .i64 (p.1.1 : Nat))])
    (fun p => onF x nn e r r2 c c2 Q gb xb p.1.2.2.1 p.1.2.2.2.1 3 bs (fun _ => true) p.1.2.2.2.2 [Old w])
    (fun p => 3 - p.1.1) ⟨(0, xs.length, m, S, f), Nat.zero_le _, by dsimp only; omega, hO, fun _ h => absurd h (Nat.not_lt_zero _), Nat.le_refl _, Nat.le_refl _⟩ (sub.cons rfl (sub.cons rfl (sub.cons rfl (sub.cons rfl (sub.cons rfl (sub.cons rfl (sub.cons rfl sub.nil))))))) ?_ ?_
   ·dsimp only [onF]
    exact entm
   clear hO
   clear m S f
   rintro ⟨⟨i, T, m, S, f⟩, hi, hT, hO, hdj, hfi, hke⟩
   dsimp only [onF] at hi hT hO hdj hfi hke ⊢
   refine go ?_
   refine Cx.ifp rfl (fun h => ?_) (fun h => ?_)
   ·have hi3 : i < 3 := by omega
    refine go ?_
    refine Cx.lp (α := {p : Nat × Nat × Mm × (Nat → SupS) × (Nat → FrS) // p.1 ≤ 60 ∧ p.2.1 ≤ 100 + 100 * i + p.1 ∧ Onc x p.2.1 0 W0 (iotaI x.sl).tail P p.2.2.1 S0 p.2.2.2.1 p.2.2.2.2 ∧ (∀ j, j < i → (p.2.2.2.2 j).done = true) ∧ fineF p.2.2.2.2 i = fineF f i ∧ keptF p.2.2.2.1 i = keptF S i ∧ left x W0 p.2.2.1 (p.2.2.2.2 i) ≤ 9 - p.1})
     (fun p => [(5, .bool true), (6, .pointer (some ⟨gb, 0, none⟩)), (7, .pointer (some ⟨nn.a, 0, none⟩)), (11, .pointer (some ⟨xb, 0, none⟩)), (16, .int .i64 (fineF f i : Nat)), (17, .int .i64 (keptF S i : Nat)), (18, .int .i64 (i : Nat)), (19, .int .i64 (p.1.1 : Nat))])
     (fun p => onF x nn e r r2 c c2 Q gb xb p.1.2.2.1 p.1.2.2.2.1 3 bs (fun _ => true) p.1.2.2.2.2 [Old w])
     (fun p => 60 - p.1.1) ⟨(0, T, m, S, f), Nat.zero_le _, by dsimp only; omega, hO, hdj, rfl, rfl, by dsimp only; exact left_le hO hi3⟩ (sub.cons rfl (sub.cons rfl (sub.cons rfl (sub.cons rfl (sub.cons rfl (sub.cons rfl (sub.cons rfl (sub.cons rfl sub.nil)))))))) ?_ ?_
    ·dsimp only [onF]
     exact entm
    rintro ⟨⟨k, T', m1, S2, f1⟩, hk, hT', hO, hdj, hFN, hKN, hlf⟩
    dsimp only [onF] at hk hT' hO hdj hFN hKN hlf ⊢
    refine go ?_
    refine Cx.ifp rfl (fun h => ?_) (fun h => ?_)
    ·have hk60 : k < 60 := by omega
     refine go ?_
     refine gg ?_
     refine Sx.ldb rfl (fvs_get hi3) ?_
     refine go ?_
     obtain ⟨z1, z2, z3, z4, z5⟩ := hstepC hO hi3 (by omega)
     obtain ⟨m', s', g', er, hO', hle, _, _⟩ := onc_step hP hO hi3
     refine Sx.ent (Ent.ith i hi3) ?_
     simp only [onW, if_true, List.cons_append, List.nil_append]
     refine Sx.ca rfl (frStepC (b := bs i) (h := frH nn e Q i) (x := x) (slot := 0) (gen := 1) (m := m1) (S := S2 i) (f := f1 i) (pb2 := e.pb) hx z1 (by omega) z2 z3 z4 z5) ?_
     rw [er]
     rintro v L' ⟨rfl, rfl⟩
     refine go ?_
     rw [w64 (n := (k : Int) + 1) (by omega) (by omega)]
     refine Klp.nm ⟨(k + 1, T' + 1, m', updG S2 i s', updG f1 i g'), by dsimp only; omega, by dsimp only; omega, hO', fun j hj => ?_, ?_, ?_, ?_⟩ (sub.cons rfl (sub.cons rfl (sub.cons rfl (sub.cons rfl (sub.cons rfl (sub.cons rfl (sub.cons rfl (sub.cons rfl sub.nil)))))))) ?_ (by dsimp only; omega)
     ·dsimp only; rw [updG_ne (by omega)]; exact hdj j hj
     ·dsimp only; rw [← hFN]; exact fineF_congr fun j hj => updG_ne (by omega)
     ·dsimp only; rw [← hKN]; exact keptF_congr fun j hj => updG_ne (by omega)
     ·dsimp only; rw [updG_at]; omega
     dsimp only [onF]
     iterate 12 (refine Ent.take1 ?_)
     refine Ent.trans ?_ (on_goes hi3)
     exact entm
    ·obtain rfl : k = 60 := by omega
     have hdn := onc_left hO hi3 (by omega)
     refine Cx.ent (Ent.ith i hi3) ?_
     simp only [onW, if_true, List.cons_append, List.nil_append]
     refine go ?_
     refine gg ?_
     refine Sx.ldb rfl (fvs_get hi3) ?_
     refine go ?_
     refine Sx.ca rfl (frDoneY (b := bs i) (h := frH nn e Q i) (x := x) (slot := 0) (gen := 1) (s := f1 i) hdn) ?_
     rintro v L' ⟨rfl, rfl⟩
     refine go ?_
     refine gg ?_
     refine Sx.ldb rfl (fvs_get hi3) ?_
     refine go ?_
     refine Sx.ca rfl (frCodeD (b := bs i) (h := frH nn e Q i) (x := x) (slot := 0) (gen := 1) (s := f1 i) hdn) ?_
     rintro v L' ⟨rfl, rfl⟩
     have hcode := onc_done hO hi3 hdn
     obtain ⟨u1, u2, u3⟩ := onc_sup hP hO hi3
     obtain ⟨v1, v2, v3, v4⟩ := hS0x i
     have hxl : (S2 i).xs.length ≤ 64 := by rw [u1]; omega
     have hpu : (ptrs 3 fun i => (Q i).u)[0 + (i : Int).toNat * 1]? = some (.pointer (some ⟨(Q i).u, 0, none⟩)) := by
      rw [show 0 + (i : Int).toNat * 1 = i by omega]; exact ptrs_get hi3
     rcases hcode with hc | ⟨hc, hbk⟩
     ·rw [hc]
      refine go ?_
      refine gg ?_
      refine Sx.ldb rfl (fvs_get hi3) ?_
      refine go ?_
      refine Sx.ca rfl (frCodeD (b := bs i) (h := frH nn e Q i) (x := x) (slot := 0) (gen := 1) (s := f1 i) hdn) ?_
      rintro v L' ⟨rfl, rfl⟩
      rw [hc]
      refine go ?_
      rw [w64 (n := ((fineF f i : Nat) : Int) + 1) (by omega) (by omega)]
      refine Cx.lp (α := {b : Nat // b ≤ 3}) (fun b => [(5, .bool true), (6, .pointer (some ⟨gb, 0, none⟩)), (7, .pointer (some ⟨nn.a, 0, none⟩)), (11, .pointer (some ⟨xb, 0, none⟩)), (16, .int .i64 (((fineF f i : Nat) : Int) + 1)), (17, .int .i64 ((keptF S i + sumB (S2 i).lm b.1 : Nat) : Int)), (18, .int .i64 (i : Nat)), (20, .int .i64 (b.1 : Nat))])
       (fun _ => onG x nn e r r2 c c2 Q gb xb m1 S2 bs f1 i [Old w]) (fun b => 3 - b.1) ⟨0, Nat.zero_le _⟩ (sub.cons rfl (sub.cons rfl (sub.cons rfl (sub.cons rfl (sub.cons rfl (sub.cons rfl (sub.cons rfl (sub.cons rfl sub.nil)))))))) ?_ ?_
      ·dsimp only [onG]
       exact entm
      rintro ⟨b, hb⟩
      dsimp only [onG]
      refine go ?_
      refine Cx.ifp rfl (fun h => ?_) (fun h => ?_)
      ·have hb3 : b < 3 := by omega
       have hle : (sumB (S2 i).lm (b + 1)) ≤ (S2 i).lm.size := by
        rw [← sumB_3]
        rcases (show b = 0 ∨ b = 1 ∨ b = 2 by omega) with rfl | rfl | rfl
        ·show sumB _ 1 ≤ sumB _ 1 + _ + _; omega
        ·show sumB _ 2 ≤ sumB _ 2 + _; omega
        ·exact Nat.le_refl _
       have hsb : sumB (S2 i).lm (b + 1) = sumB (S2 i).lm b + ((S2 i).lm.items b).length := rfl
       refine go ?_
       refine gg ?_
       refine Sx.ldr (b := r) rfl hpu ?_
       refine go ?_
       refine Sx.ca rfl (supBucketC (u := (Q i).u) (mp := nn.mp) (pb := (Q i).pb) (x := x) (s := S2 i) b hb3 (by omega)) ?_
       rintro v L' ⟨tg, ra, co, rfl, _, hent⟩
       refine Sx.ent hent ?_
       refine go ?_
       rw [w64 (n := ((keptF S i + sumB (S2 i).lm b : Nat) : Int) + (((S2 i).lm.items b).length : Nat)) (by omega) (by omega), w64 (n := (b : Int) + 1) (by omega) (by omega), show ((keptF S i + sumB (S2 i).lm b : Nat) : Int) + (((S2 i).lm.items b).length : Nat) = ((keptF S i + sumB (S2 i).lm (b + 1) : Nat) : Int) by rw [hsb]; push_cast; omega]
       refine Klp.nm ⟨b + 1, by omega⟩ (sub.cons rfl (sub.cons rfl (sub.cons rfl (sub.cons rfl (sub.cons rfl (sub.cons rfl (sub.cons rfl (sub.cons rfl sub.nil)))))))) ?_ (by dsimp only; omega)
       exact entm
      ·obtain rfl : b = 3 := by omega
       rw [sumB_3]
       refine go ?_
       refine gg ?_
       refine Sx.ldr (b := r) rfl hpu ?_
       refine go ?_
       refine Sx.ca rfl (supStash (u := (Q i).u) (mp := nn.mp) (pb := (Q i).pb) (x := x) (s := S2 i) (by omega)) ?_
       rintro v L' ⟨a1, c1, rfl, rfl⟩
       refine go ?_
       rw [w64 (n := ((keptF S i + (S2 i).lm.size : Nat) : Int) + ((S2 i).xs.length : Nat)) (by omega) (by omega), w64 (n := (i : Int) + 1) (by omega) (by omega), show ((keptF S i + (S2 i).lm.size : Nat) : Int) + ((S2 i).xs.length : Nat) = ((keptF S2 (i + 1) : Nat) : Int) by show _ = ((keptF S2 i + ((S2 i).lm.size + (S2 i).xs.length) : Nat) : Int); rw [hKN]; push_cast; omega, show (((fineF f i : Nat) : Int) + 1) = ((fineF f1 (i + 1) : Nat) : Int) by show _ = ((fineF f1 i + (if (f1 i).v.code = 0 then 1 else 0) : Nat) : Int); rw [hFN, if_pos hc]; push_cast; rfl]
       refine Klp.nm ⟨(i + 1, T', m1, S2, f1), by dsimp only; omega, by dsimp only; omega, hO, fun j hj => ?_, ?_, ?_⟩ (sub.cons rfl (sub.cons rfl (sub.cons rfl (sub.cons rfl (sub.cons rfl (sub.cons rfl (sub.cons rfl sub.nil))))))) ?_ (by dsimp only; omega)
       ·by_cases hji : j = i
        ·rw [hji]; exact hdn
        ·exact hdj j (by dsimp only at hj; omega)
       ·show fineF f1 i + (if _ then 1 else 0) ≤ i + 1; rw [hFN]; split <;> omega
       ·show keptF S2 i + ((S2 i).lm.size + (S2 i).xs.length) ≤ 100 * (i + 1); rw [hKN]; omega
       dsimp only [onF]
       iterate 12 (refine Ent.take1 ?_)
       have hg := on_goes (n := nn) (e := e) (Q := Q) (x := x) (S := S2) (bs := bs) (f := f1) (i := i) (s1 := S2 i) (g := f1 i) (G := [Old w]) hi3
       rw [updG_id, updG_id] at hg
       refine Ent.trans ?_ hg
       exact entm
     ·rw [hc]
      refine go ?_
      refine gg ?_
      refine Sx.ldb rfl (fvs_get hi3) ?_
      refine go ?_
      refine Sx.ca rfl (frCodeD (b := bs i) (h := frH nn e Q i) (x := x) (slot := 0) (gen := 1) (s := f1 i) hdn) ?_
      rintro v L' ⟨rfl, rfl⟩
      rw [hc]
      refine go ?_
      refine gg ?_
      refine Sx.ldb rfl (fvs_get hi3) ?_
      refine go ?_
      refine Sx.ca rfl (frBackD (b := bs i) (h := frH nn e Q i) (x := x) (slot := 0) (gen := 1) (s := f1 i) hdn) ?_
      rintro v L' ⟨rfl, rfl⟩
      rw [hbk]
      refine go ?_
      refine gg ?_
      refine Sx.ldb rfl (fvs_get hi3) ?_
      refine go ?_
      refine Sx.ca rfl (frCodeD (b := bs i) (h := frH nn e Q i) (x := x) (slot := 0) (gen := 1) (s := f1 i) hdn) ?_
      rintro v L' ⟨rfl, rfl⟩
      rw [hc]
      refine go ?_
      refine Cx.lp (α := {b : Nat // b ≤ 3}) (fun b => [(5, .bool true), (6, .pointer (some ⟨gb, 0, none⟩)), (7, .pointer (some ⟨nn.a, 0, none⟩)), (11, .pointer (some ⟨xb, 0, none⟩)), (16, .int .i64 (((fineF f i : Nat) : Int))), (17, .int .i64 ((keptF S i + sumB (S2 i).lm b.1 : Nat) : Int)), (18, .int .i64 (i : Nat)), (20, .int .i64 (b.1 : Nat))])
       (fun _ => onG x nn e r r2 c c2 Q gb xb m1 S2 bs f1 i [Old w]) (fun b => 3 - b.1) ⟨0, Nat.zero_le _⟩ (sub.cons rfl (sub.cons rfl (sub.cons rfl (sub.cons rfl (sub.cons rfl (sub.cons rfl (sub.cons rfl (sub.cons rfl sub.nil)))))))) ?_ ?_
      ·dsimp only [onG]
       exact entm
      rintro ⟨b, hb⟩
      dsimp only [onG]
      refine go ?_
      refine Cx.ifp rfl (fun h => ?_) (fun h => ?_)
      ·have hb3 : b < 3 := by omega
       have hle : (sumB (S2 i).lm (b + 1)) ≤ (S2 i).lm.size := by
        rw [← sumB_3]
        rcases (show b = 0 ∨ b = 1 ∨ b = 2 by omega) with rfl | rfl | rfl
        ·show sumB _ 1 ≤ sumB _ 1 + _ + _; omega
        ·show sumB _ 2 ≤ sumB _ 2 + _; omega
        ·exact Nat.le_refl _
       have hsb : sumB (S2 i).lm (b + 1) = sumB (S2 i).lm b + ((S2 i).lm.items b).length := rfl
       refine go ?_
       refine gg ?_
       refine Sx.ldr (b := r) rfl hpu ?_
       refine go ?_
       refine Sx.ca rfl (supBucketC (u := (Q i).u) (mp := nn.mp) (pb := (Q i).pb) (x := x) (s := S2 i) b hb3 (by omega)) ?_
       rintro v L' ⟨tg, ra, co, rfl, _, hent⟩
       refine Sx.ent hent ?_
       refine go ?_
       rw [w64 (n := ((keptF S i + sumB (S2 i).lm b : Nat) : Int) + (((S2 i).lm.items b).length : Nat)) (by omega) (by omega), w64 (n := (b : Int) + 1) (by omega) (by omega), show ((keptF S i + sumB (S2 i).lm b : Nat) : Int) + (((S2 i).lm.items b).length : Nat) = ((keptF S i + sumB (S2 i).lm (b + 1) : Nat) : Int) by rw [hsb]; push_cast; omega]
       refine Klp.nm ⟨b + 1, by omega⟩ (sub.cons rfl (sub.cons rfl (sub.cons rfl (sub.cons rfl (sub.cons rfl (sub.cons rfl (sub.cons rfl (sub.cons rfl sub.nil)))))))) ?_ (by dsimp only; omega)
       exact entm
      ·obtain rfl : b = 3 := by omega
       rw [sumB_3]
       refine go ?_
       refine gg ?_
       refine Sx.ldr (b := r) rfl hpu ?_
       refine go ?_
       refine Sx.ca rfl (supStash (u := (Q i).u) (mp := nn.mp) (pb := (Q i).pb) (x := x) (s := S2 i) (by omega)) ?_
       rintro v L' ⟨a1, c1, rfl, rfl⟩
       refine go ?_
       rw [w64 (n := ((keptF S i + (S2 i).lm.size : Nat) : Int) + ((S2 i).xs.length : Nat)) (by omega) (by omega), w64 (n := (i : Int) + 1) (by omega) (by omega), show ((keptF S i + (S2 i).lm.size : Nat) : Int) + ((S2 i).xs.length : Nat) = ((keptF S2 (i + 1) : Nat) : Int) by show _ = ((keptF S2 i + ((S2 i).lm.size + (S2 i).xs.length) : Nat) : Int); rw [hKN]; push_cast; omega, show (((fineF f i : Nat) : Int)) = ((fineF f1 (i + 1) : Nat) : Int) by show _ = ((fineF f1 i + (if (f1 i).v.code = 0 then 1 else 0) : Nat) : Int); rw [hFN, if_neg (by omega)]; rfl]
       refine Klp.nm ⟨(i + 1, T', m1, S2, f1), by dsimp only; omega, by dsimp only; omega, hO, fun j hj => ?_, ?_, ?_⟩ (sub.cons rfl (sub.cons rfl (sub.cons rfl (sub.cons rfl (sub.cons rfl (sub.cons rfl (sub.cons rfl sub.nil))))))) ?_ (by dsimp only; omega)
       ·by_cases hji : j = i
        ·rw [hji]; exact hdn
        ·exact hdj j (by dsimp only at hj; omega)
       ·show fineF f1 i + (if _ then 1 else 0) ≤ i + 1; rw [hFN]; split <;> omega
       ·show keptF S2 i + ((S2 i).lm.size + (S2 i).xs.length) ≤ 100 * (i + 1); rw [hKN]; omega
       dsimp only [onF]
       iterate 12 (refine Ent.take1 ?_)
       have hg := on_goes (n := nn) (e := e) (Q := Q) (x := x) (S := S2) (bs := bs) (f := f1) (i := i) (s1 := S2 i) (g := f1 i) (G := [Old w]) hi3
       rw [updG_id, updG_id] at hg
       refine Ent.trans ?_ hg
       exact entm
   ·obtain rfl : i = 3 := by omega
    obtain ⟨k, hk3, e1, e2, e3, e4, e5, e6, e7⟩ := onc_end hO fun i hi => hdj i hi
    have hz0 : ∀ i, (S0 i).lm.size = 0 := fun i => by rw [(hS0x i).2.1]; rfl
    have hx0 : (S0 0).xs.length = S1.xs.length ∧ (S0 1).xs.length = 0 ∧ (S0 2).xs.length = 0 := by rw [hS0]; exact ⟨rfl, rfl, rfl⟩
    have hF3 : fineF f 3 = 1 := by
     rcases (show k = 0 ∨ k = 1 ∨ k = 2 by omega) with rfl | rfl | rfl
     ·have a1 := (e2 1 (by omega) (by omega)).1
      have a2 := (e2 2 (by omega) (by omega)).1
      show 0 + (if (f 0).v.code = 0 then 1 else 0) + (if (f 1).v.code = 0 then 1 else 0) + (if (f 2).v.code = 0 then 1 else 0) = 1
      rw [if_pos e1, if_neg (by omega), if_neg (by omega)]
     ·have a1 := (e2 0 (by omega) (by omega)).1
      have a2 := (e2 2 (by omega) (by omega)).1
      show 0 + (if (f 0).v.code = 0 then 1 else 0) + (if (f 1).v.code = 0 then 1 else 0) + (if (f 2).v.code = 0 then 1 else 0) = 1
      rw [if_pos e1, if_neg (by omega), if_neg (by omega)]
     ·have a1 := (e2 0 (by omega) (by omega)).1
      have a2 := (e2 1 (by omega) (by omega)).1
      show 0 + (if (f 0).v.code = 0 then 1 else 0) + (if (f 1).v.code = 0 then 1 else 0) + (if (f 2).v.code = 0 then 1 else 0) = 1
      rw [if_pos e1, if_neg (by omega), if_neg (by omega)]
    have hK3 : keptF S 3 = S1.xs.length + 1 := by
     have hxk := congrArg List.length e3
     have hz := hz0
     show 0 + ((S 0).lm.size + (S 0).xs.length) + ((S 1).lm.size + (S 1).xs.length) + ((S 2).lm.size + (S 2).xs.length) = _
     rcases (show k = 0 ∨ k = 1 ∨ k = 2 by omega) with rfl | rfl | rfl
     ·rw [e5 1 (by omega) (by omega), e5 2 (by omega) (by omega), hz 1, hz 2]; omega
     ·rw [e5 0 (by omega) (by omega), e5 2 (by omega) (by omega), hz 0, hz 2]; omega
     ·rw [e5 0 (by omega) (by omega), e5 1 (by omega) (by omega), hz 0, hz 1]; omega
    have hml := e7.len
    have hspl : (((0 : Nat) : Int) :: (iotaI x.sl).tail).length = x.sl := by rw [List.length_cons, List.length_tail, iotaI_len]; omega
    refine go ?_
    refine Cx.ordc rfl kr_ ?_
    refine ge ?_
    refine Ev.yes 165 rfl rfl ?_
    refine ge ?_
    refine Ev.yes 169 rfl (decide_eq_true (by rw [hF3]; rfl)) ?_
    refine ge ?_
    iterate 2 (refine Ev.bring 2 rfl ?_; refine ge ?_)
    refine Ev.caH kr_ rfl rfl (rootsSpare (g := nn.ro) (mp := nn.mp) (sb := nn.sp) (x := x) (m := m) hx (by omega) (by omega)) (.keep (fun v L' ⟨_, _, _, e⟩ => by subst e; exact Has.cell rfl) (Pres.deps kr_)) ?_
    rw [list_pool e6, hspl]
    rintro v L' ⟨ro, co, rfl, rfl⟩
    refine ge ?_
    refine Ev.yes 180 rfl (decide_eq_true rfl) ?_
    refine ge ?_
    iterate 2 (refine Ev.bring 3 rfl ?_; refine ge ?_)
    refine Ev.caH kr_ rfl rfl (stackList (sb := nn.pb) (mp := nn.mp) (k := x.pool) (m := m) (hx.pool (by omega) (by omega))) (.keep (fun v L' ⟨_, _, _, e⟩ => by subst e; exact Has.cell rfl) (Pres.deps kr_)) ?_
    rw [list_pool e7.pool]
    rintro v L' ⟨ro2, co2, rfl, rfl⟩
    refine ge ?_
    have hpl8 : P.length ≤ 8 := by omega
    rw [hK3, w64 (n := ((S1.xs.length + 1 : Nat) : Int) + (P.length : Nat)) (by omega) (by omega), decide_eq_true (show ((S1.xs.length + 1 : Nat) : Int) + (P.length : Nat) = (x.c : Int) by omega)]
    refine go ?_
    refine Kr.one (.inr rfl) rfl (Ent.refl _) ⟨rfl, ?_⟩
    exact entm
end
end Go.Proofs.YtflalhdofhobmaaGreat
