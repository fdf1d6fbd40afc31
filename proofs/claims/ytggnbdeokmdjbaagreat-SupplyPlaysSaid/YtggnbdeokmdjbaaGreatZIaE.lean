/-
  Parts of the proof, merged: what the statement leans on.
-/
import Derived.Deep.Slices
import Derived.Deep.Fields
import Derived.Test.YtggnbdeokmdjbaaGreatZIaD
set_option linter.unusedVariables false
set_option linter.unusedSimpArgs false

namespace Go.Proofs.YtggnbdeokmdjbaaGreat
open Go
attribute [local irreducible] Sx Cx Rx Fx Krg Ksq Kbl Klp Kr
section
variable {L F G : St}
set_option maxRecDepth 20000 in
set_option maxHeartbeats 4000000 in
theorem goesPut {x : Cn} {n : Hs} {r r2 c c2 : Nat} {Q : Nat → Who} {m : Mm} {ws : Nat → Sw} {hs : Nat → PH} {i v T : Nat} (hx : x.ok) (hc8 : x.c ≤ 4096) (hT : T ≤ 1000) (hi : i < 3) (h : SpOk x T m ws hs) (hk : (ws i).k = 0) (hv : v % 7 = 4) (hv2 : v < 280) :
  Fx Tryz.prog 9 [.pointer (some ⟨n.hb, 0, none⟩), .pointer (some ⟨n.a, 0, none⟩), .int .i64 i, .int .i64 v] (spF x n r r2 c c2 Q m ws hs G) (GoP x n r r2 c c2 Q T G) := by
 have hlen := h.hl
 have hxl := hx.len_le
 have hx3 : 3 ≤ x.len := by unfold Cn.len; omega
 have hbd := h.bd hi
 obtain ⟨P, hI⟩ := h.i
 have hP := h.h i hi
 have htg := h.tag i hi
 have e3 := hP.t0 (by omega)
 have e4 := hP.g0 (by omega)
 have g0 : (hnV hs ws)[0 + 0 + (i : Int).toNat * 1]? = some (.pointer none) := (hn_tv hi).trans (congrArg some e3)
 have g1 : (hnV hs ws)[0 + 3 + (i : Int).toNat * 1]? = some (.pointer none) := (hn_gv hi).trans (congrArg some e4)
 have g3 : (hnV hs ws)[0 + 12 + (i : Int).toNat * 1]? = some (.slice (hs i).la (ws i).l.length (hs i).lc) := hn_l hi
 have g5 : (hnV hs ws)[0 + 15 + (i : Int).toNat * 1]? = some (.int .i64 (ws i).tag) := hn_tag hi
 have hpu : (ptrs 3 fun i => (Q i).u)[0 + (i : Int).toNat * 1]? = some (.pointer (some ⟨(Q i).u, 0, none⟩)) := by
  rw [show 0 + (i : Int).toNat * 1 = i by omega]; exact ptrs_get hi
 have hps : (ptrs 3 fun i => (Q i).s)[0 + (i : Int).toNat * 1]? = some (.pointer (some ⟨(Q i).s, 0, none⟩)) := by
  rw [show 0 + (i : Int).toNat * 1 = i by omega]; exact ptrs_get hi
 have hd7 : Int.tmod (v : Int) 7 = ((4 : Nat) : Int) := by rw [← hv]; rfl
 refine Fx.mk Tryz.func9 k9 nb_ ?_
 dsimp only [c9, kG, kS, kH, kM, kN, kF, kL, envOf, Nat.reduceAdd]
 refine Cx.ent (sp_in hi) ?_
 rw [spW0 hk]
 simp only [List.cons_append, List.nil_append]
 refine Cx.rowkey (a := (hs i).la) fun hxl2 hc1 _ hkr => ?_
 have hk2 : (ws i).l.length = 0 ∨ ∃ g, (hs i).la = some ⟨g, 0, none⟩ := hkr.imp (fun h => h.2.1) id
 refine go ?_
 refine gg ?_
 refine Sx.ldb (b := n.hb) rfl g0 ?_
 refine go ?_
 refine gg ?_
 refine Sx.ldb (b := n.hb) rfl g1 ?_
 refine go ?_
 refine Cx.ordc rfl kr_ ?_
 refine ge ?_
 refine Ev.ldrH (b := r) kr_ rfl rfl hpu ?_
 refine ge ?_
 refine Ev.ldrH (b := r2) kr_ rfl rfl hps ?_
 refine ge ?_
 refine go ?_
 refine Sx.pv rfl (by omega) ?_
 rw [hd7]
 refine go ?_
 refine gg ?_
 refine Sx.ldb (b := n.hb) rfl g3 ?_
 refine go ?_
 refine Sx.ca rfl (supPut (u := (Q i).u) (mp := n.mp) (pb := (Q i).pb) (x := x) (s := (ws i).s) (ys := (ws i).l) (ya := (hs i).la) (Rd.any (a := (hs i).la) hxl2 hk2) (by omega)) ?_
 rintro v' L' ⟨rfl, rfl⟩
 refine Sx.openp (a := some ⟨(Q i).s, 0, none⟩) rfl ?_
 rintro ⟨st, lm⟩
 simp only [rsupL, List.cons_append, List.nil_append]
 refine go ?_
 refine Cx.ordc rfl kr_ ?_
 refine ge ?_
 refine Ev.ldbH (b := n.hb) kr_ rfl rfl g3 ?_
 refine ge ?_
 refine Ev.caH kr_ rfl rfl (refGive (b := st) (most := (ws i).s.most) (xs := (ws i).s.xs) (ys := (ws i).l) (ya := (hs i).la) (Rd.any (a := (hs i).la) hxl2 hk2) (by omega)) (Pres.deps kr_) ?_
 rintro v' L' ⟨rfl, rfl⟩
 refine ge ?_
 refine go ?_
 refine gg ?_
 refine Sx.stb (b := n.hb) rfl rfl rfl rfl (hn_blt (o := 12) hi (by omega)) (hn_sl (a := none) (c := 0) (l := []) hi) ?_
 refine go ?_
 refine Kr.one (.inr rfl) rfl (Ent.refl _) ⟨rfl, m, _, _, h.next (h' := { hs i with la := none, lc := 0 }) hi ⟨P, hI.put hi hk⟩ ⟨fun h => (by have h : (ws i).k = 1 := h; omega), fun _ => e3, fun h => (by have h : (ws i).k = 2 := h; omega), fun _ => e4⟩ (Nat.le_succ _) (by constructor <;> show _ ≤ _ <;> dsimp only <;> omega) (fun h => (by have h : (ws i).k = 1 := h; omega)), Ent.trans ?_ (sp_fin hi)⟩
 rw [spW0 (w := { ws i with s := (ws i).s.give (ws i).l, l := [] }) hk, hn_upd (ws := ws) (w := { ws i with s := (ws i).s.give (ws i).l, l := [] }) (w2 := { ws i with l := [] }) rfl rfl]
 simp only [List.cons_append, List.nil_append]
 refine Ent.trans (RSupO.close (a := some ⟨(Q i).s, 0, none⟩) (st := st) (lm := lm) (w := n.w) ((ws i).s.give (ws i).l) rfl rfl rfl) ?_
 refine Ent.trans (Ent.rownil 3 1) ?_
 refine Ent.trans ?_ (Ent.refl (pt _ _ :: pt _ _ :: pt _ _ :: pt none (Row 3 1 0 0 []) :: _))
 exact entm
set_option maxRecDepth 20000 in
set_option maxHeartbeats 4000000 in
theorem goesRet {x : Cn} {n : Hs} {r r2 c c2 : Nat} {Q : Nat → Who} {m : Mm} {ws : Nat → Sw} {hs : Nat → PH} {i v T : Nat} (hx : x.ok) (hc8 : x.c ≤ 4096) (hT : T ≤ 1000) (hi : i < 3) (h : SpOk x T m ws hs) (hk : (ws i).k = 0) (hv : v % 7 = 5) (hv2 : v < 280) :
  Fx Tryz.prog 9 [.pointer (some ⟨n.hb, 0, none⟩), .pointer (some ⟨n.a, 0, none⟩), .int .i64 i, .int .i64 v] (spF x n r r2 c c2 Q m ws hs G) (GoP x n r r2 c c2 Q T G) := by
 have hlen := h.hl
 have hxl := hx.len_le
 have hx3 : 3 ≤ x.len := by unfold Cn.len; omega
 have hbd := h.bd hi
 obtain ⟨P, hI⟩ := h.i
 have hP := h.h i hi
 have htg := h.tag i hi
 have e3 := hP.t0 (by omega)
 have e4 := hP.g0 (by omega)
 have g0 : (hnV hs ws)[0 + 0 + (i : Int).toNat * 1]? = some (.pointer none) := (hn_tv hi).trans (congrArg some e3)
 have g1 : (hnV hs ws)[0 + 3 + (i : Int).toNat * 1]? = some (.pointer none) := (hn_gv hi).trans (congrArg some e4)
 have g3 : (hnV hs ws)[0 + 12 + (i : Int).toNat * 1]? = some (.slice (hs i).la (ws i).l.length (hs i).lc) := hn_l hi
 have g5 : (hnV hs ws)[0 + 15 + (i : Int).toNat * 1]? = some (.int .i64 (ws i).tag) := hn_tag hi
 have hpu : (ptrs 3 fun i => (Q i).u)[0 + (i : Int).toNat * 1]? = some (.pointer (some ⟨(Q i).u, 0, none⟩)) := by
  rw [show 0 + (i : Int).toNat * 1 = i by omega]; exact ptrs_get hi
 have hps : (ptrs 3 fun i => (Q i).s)[0 + (i : Int).toNat * 1]? = some (.pointer (some ⟨(Q i).s, 0, none⟩)) := by
  rw [show 0 + (i : Int).toNat * 1 = i by omega]; exact ptrs_get hi
 have hd7 : Int.tmod (v : Int) 7 = ((5 : Nat) : Int) := by rw [← hv]; rfl
 refine Fx.mk Tryz.func9 k9 nb_ ?_
 dsimp only [c9, kG, kS, kH, kM, kN, kF, kL, envOf, Nat.reduceAdd]
 refine Cx.ent (sp_in hi) ?_
 rw [spW0 hk]
 simp only [List.cons_append, List.nil_append]
 refine Cx.rowkey (a := (hs i).la) fun hxl2 hc1 _ hkr => ?_
 have hk2 : (ws i).l.length = 0 ∨ ∃ g, (hs i).la = some ⟨g, 0, none⟩ := hkr.imp (fun h => h.2.1) id
 refine go ?_
 refine gg ?_
 refine Sx.ldb (b := n.hb) rfl g0 ?_
 refine go ?_
 refine gg ?_
 refine Sx.ldb (b := n.hb) rfl g1 ?_
 refine go ?_
 refine Cx.ordc rfl kr_ ?_
 refine ge ?_
 refine Ev.ldrH (b := r) kr_ rfl rfl hpu ?_
 refine ge ?_
 refine Ev.ldrH (b := r2) kr_ rfl rfl hps ?_
 refine ge ?_
 refine go ?_
 refine Sx.pv rfl (by omega) ?_
 rw [hd7]
 refine go ?_
 have hq7 : Int.tdiv (v : Int) 7 = ((v / 7 : Nat) : Int) := rfl
 obtain ⟨tg, htg0⟩ : ∃ tg : Int, tg = (ws i).tag + ((v / 7 : Nat) : Int) - 5 := ⟨_, rfl⟩
 have htw : IntKind.i64.wrap (IntKind.i64.wrap ((ws i).tag + IntKind.i64.wrap (Int.tdiv (v : Int) 7)) - 5) = tg := by
  rw [hq7, w64 (n := ((v / 7 : Nat) : Int)) (by omega) (by omega), w64 (n := (ws i).tag + ((v / 7 : Nat) : Int)) (by omega) (by omega), w64 (by omega) (by omega), htg0]
 refine Cx.ordc rfl kr_ ?_
 refine ge ?_
 refine Ev.ldbH (b := n.hb) kr_ rfl rfl g5 ?_
 refine ge ?_
 refine Ev.ldbH (b := n.hb) kr_ rfl rfl g3 ?_
 refine ge ?_
 rw [htw]
 refine Ev.apnH kr_ rfl rfl rfl (Rd.any (a := (hs i).la) hxl2 hk2) (ones_ints _) (by unfold maxLen; omega) (by omega) (.dep rfl (.keep (fun v L' ⟨_, _, _, _, _, e⟩ => by subst e; exact (Has.blk (n := 1)).one (take_one g5)) .nil)) fun ya yc hyc hyk => ?_
 refine ge ?_
 refine Ev.caH kr_ rfl rfl (supRetire (u := (Q i).u) (mp := n.mp) (pb := (Q i).pb) (x := x) (s := (ws i).s) (tag := tg) (ys := (ws i).l) (ya := ya) (Rd.any (a := ya) (by simp [length_ints]) hyk) (by omega) (by omega)) (Pres.deps kr_) ?_
 rintro v' L' (⟨hr, rfl, rfl⟩ | ⟨hr, rfl, rfl⟩)
 ·refine ge ?_
  refine go ?_
  refine Cx.ordc rfl kr_ ?_
  refine ge ?_
  refine Ev.ldbH (b := n.hb) kr_ rfl rfl g5 ?_
  refine ge ?_
  refine Ev.ldbH (b := n.hb) kr_ rfl rfl g3 ?_
  refine ge ?_
  rw [htw]
  refine Ev.caH kr_ rfl rfl (refSupRetire (s := (Q i).s) (w := n.w) (S := (ws i).s) (tag := tg) (ys := (ws i).l) (ya := (hs i).la) (Rd.any (a := (hs i).la) hxl2 hk2) (by omega) (by omega)) (Pres.deps kr_) ?_
  rintro v' L' (⟨_, rfl, rfl⟩ | ⟨hr2, _⟩)
  rotate_left
  ·exact absurd hr hr2
  refine ge ?_
  refine go ?_
  refine Kr.one (.inr rfl) rfl (Ent.refl _) ⟨rfl, m, ws, hs, h.same ⟨P, hI.mono (Nat.le_succ _)⟩ (Nat.le_succ _), ?_⟩
  have hsf := sp_fin (x := x) (n := n) (r := r) (r2 := r2) (c := c) (c2 := c2) (Q := Q) (m := m) (ws := ws) (hs := hs) (w := ws i) (h := hs i) (G := G) hi
  rw [updG_id, updG_id, spW0 hk] at hsf
  refine Ent.trans ?_ hsf
  simp only [List.cons_append, List.nil_append]
  exact entm
 ·refine ge ?_
  refine go ?_
  refine Cx.ordc rfl kr_ ?_
  refine ge ?_
  refine Ev.ldbH (b := n.hb) kr_ rfl rfl g5 ?_
  refine ge ?_
  refine Ev.ldbH (b := n.hb) kr_ rfl rfl g3 ?_
  refine ge ?_
  rw [htw]
  refine Ev.caH kr_ rfl rfl (refSupRetire (s := (Q i).s) (w := n.w) (S := (ws i).s) (tag := tg) (ys := (ws i).l) (ya := (hs i).la) (Rd.any (a := (hs i).la) hxl2 hk2) (by omega) (by omega)) (Pres.deps kr_) ?_
  rintro v' L' (⟨hr2, _⟩ | ⟨_, rfl, rfl⟩)
  ·exact absurd hr2 hr
  refine ge ?_
  refine go ?_
  refine Cx.ordc rfl kr_ ?_
  refine ge ?_
  refine Ev.ldbH (b := n.hb) kr_ rfl rfl g5 ?_
  refine ge ?_
  rw [htw]
  refine Ev.stbH (b := n.hb) kr_ rfl rfl rfl rfl rfl (hn_blt (o := 15) hi (by omega)) (hn_stag hi) (Pres.deps kr_) ?_
  refine ge ?_
  refine go ?_
  refine gg ?_
  refine Sx.stb (b := n.hb) rfl rfl rfl rfl (hn_blt (o := 12) hi (by omega)) (hn_sl (a := none) (c := 0) (l := []) hi) ?_
  refine go ?_
  refine Kr.one (.inr rfl) rfl (Ent.refl _) ⟨rfl, m, _, _, h.next (h' := { hs i with la := none, lc := 0 }) hi ⟨P, hI.retire hi hk tg⟩ ⟨fun h => (by have h : (ws i).k = 1 := h; omega), fun _ => e3, fun h => (by have h : (ws i).k = 2 := h; omega), fun _ => e4⟩ (Nat.le_succ _) (by constructor <;> show _ ≤ _ <;> dsimp only <;> omega) (fun h => (by have h : (ws i).k = 1 := h; omega)), Ent.trans ?_ (sp_fin hi)⟩
  rw [spW0 (w := { ws i with s := ⟨(ws i).s.most, (ws i).s.xs ++ outM (ws i).s.lm tg, retireM (ws i).s.lm tg (ws i).l⟩, l := [], tag := tg }) hk, updG_updG, updG_at, hn_upd (ws := ws) (w := { ws i with s := ⟨(ws i).s.most, (ws i).s.xs ++ outM (ws i).s.lm tg, retireM (ws i).s.lm tg (ws i).l⟩, l := [], tag := tg }) (w2 := { ws i with l := [], tag := tg }) rfl rfl]
  simp only [List.cons_append, List.nil_append]
  refine Ent.trans (Ent.rownil 3 1) ?_
  refine Ent.trans ?_ (Ent.refl (pt _ _ :: pt _ _ :: pt _ _ :: pt none (Row 3 1 0 0 []) :: _))
  exact entm
set_option maxRecDepth 20000 in
set_option maxHeartbeats 4000000 in
theorem goesRest {x : Cn} {n : Hs} {r r2 c c2 : Nat} {Q : Nat → Who} {m : Mm} {ws : Nat → Sw} {hs : Nat → PH} {i v T : Nat} (hx : x.ok) (hc8 : x.c ≤ 4096) (hT : T ≤ 1000) (hi : i < 3) (h : SpOk x T m ws hs) (hk : (ws i).k = 0) (hv : v % 7 = 6) (hv2 : v < 280) :
  Fx Tryz.prog 9 [.pointer (some ⟨n.hb, 0, none⟩), .pointer (some ⟨n.a, 0, none⟩), .int .i64 i, .int .i64 v] (spF x n r r2 c c2 Q m ws hs G) (GoP x n r r2 c c2 Q T G) := by
 have hlen := h.hl
 have hxl := hx.len_le
 have hx3 : 3 ≤ x.len := by unfold Cn.len; omega
 have hbd := h.bd hi
 obtain ⟨P, hI⟩ := h.i
 have hP := h.h i hi
 have htg := h.tag i hi
 have e3 := hP.t0 (by omega)
 have e4 := hP.g0 (by omega)
 have g0 : (hnV hs ws)[0 + 0 + (i : Int).toNat * 1]? = some (.pointer none) := (hn_tv hi).trans (congrArg some e3)
 have g1 : (hnV hs ws)[0 + 3 + (i : Int).toNat * 1]? = some (.pointer none) := (hn_gv hi).trans (congrArg some e4)
 have g3 : (hnV hs ws)[0 + 12 + (i : Int).toNat * 1]? = some (.slice (hs i).la (ws i).l.length (hs i).lc) := hn_l hi
 have g5 : (hnV hs ws)[0 + 15 + (i : Int).toNat * 1]? = some (.int .i64 (ws i).tag) := hn_tag hi
 have hpu : (ptrs 3 fun i => (Q i).u)[0 + (i : Int).toNat * 1]? = some (.pointer (some ⟨(Q i).u, 0, none⟩)) := by
  rw [show 0 + (i : Int).toNat * 1 = i by omega]; exact ptrs_get hi
 have hps : (ptrs 3 fun i => (Q i).s)[0 + (i : Int).toNat * 1]? = some (.pointer (some ⟨(Q i).s, 0, none⟩)) := by
  rw [show 0 + (i : Int).toNat * 1 = i by omega]; exact ptrs_get hi
 have hd7 : Int.tmod (v : Int) 7 = ((6 : Nat) : Int) := by rw [← hv]; rfl
 refine Fx.mk Tryz.func9 k9 nb_ ?_
 dsimp only [c9, kG, kS, kH, kM, kN, kF, kL, envOf, Nat.reduceAdd]
 refine Cx.ent (sp_in hi) ?_
 rw [spW0 hk]
 simp only [List.cons_append, List.nil_append]
 refine Cx.rowkey (a := (hs i).la) fun hxl2 hc1 _ hkr => ?_
 have hk2 : (ws i).l.length = 0 ∨ ∃ g, (hs i).la = some ⟨g, 0, none⟩ := hkr.imp (fun h => h.2.1) id
 refine go ?_
 refine gg ?_
 refine Sx.ldb (b := n.hb) rfl g0 ?_
 refine go ?_
 refine gg ?_
 refine Sx.ldb (b := n.hb) rfl g1 ?_
 refine go ?_
 refine Cx.ordc rfl kr_ ?_
 refine ge ?_
 refine Ev.ldrH (b := r) kr_ rfl rfl hpu ?_
 refine ge ?_
 refine Ev.ldrH (b := r2) kr_ rfl rfl hps ?_
 refine ge ?_
 refine go ?_
 refine Sx.pv rfl (by omega) ?_
 rw [hd7]
 refine go ?_
 have hq7 : Int.tdiv (v : Int) 7 = ((v / 7 : Nat) : Int) := rfl
 have hq14 : Int.tdiv (v : Int) 14 = ((v / 14 : Nat) : Int) := rfl
 have hr2 : Int.tmod ((v / 7 : Nat) : Int) 2 = ((v / 7 % 2 : Nat) : Int) := rfl
 have hr3 : Int.tmod ((v / 14 : Nat) : Int) 3 = ((v / 14 % 3 : Nat) : Int) := rfl
 have hw7 : IntKind.i64.wrap (Int.tdiv (v : Int) 7) = ((v / 7 : Nat) : Int) := by rw [hq7, w64 (by omega) (by omega)]
 have hw14 : IntKind.i64.wrap (Int.tdiv (v : Int) 14) = ((v / 14 : Nat) : Int) := by rw [hq14, w64 (by omega) (by omega)]
 refine Sx.pv rfl (by omega) ?_
 rw [hw7]
 refine Sx.pv rfl (by omega) ?_
 rw [hr2]
 by_cases hz : v / 7 % 2 = 0
 ·rw [hz]
  obtain ⟨b1, hb1⟩ : ∃ b1 : Nat, cutE (m.at_ 2) = b1 := ⟨(cutE (m.at_ 2)).toNat, by have : 0 ≤ cutE (m.at_ 2) := by unfold cutE; omega
                                                                                    omega⟩
  have hb2 : b1 ≤ 4611686018427387903 := by have : cutE (m.at_ 2) ≤ 4611686018427387903 := by unfold cutE; omega
                                            omega
  obtain ⟨N, hN⟩ : ∃ N : Nat, b1 + v / 14 % 3 = N := ⟨_, rfl⟩
  have hN2 : N < 18446744073709551616 := by omega
  refine go ?_
  refine Sx.ca rfl (refNow (re := n.re) (rm := n.rm) (x := x) (m := m) hI.ok (by omega)) ?_
  rintro v' L' ⟨rfl, rfl⟩
  rw [hb1]
  refine go ?_
  refine Sx.pv rfl (by omega) ?_
  rw [hw14]
  refine Sx.pv rfl (by omega) ?_
  rw [hr3]
  refine go ?_
  rw [show ((b1 : Nat) : Int) + ((v / 14 % 3 : Nat) : Int) = ((N : Nat) : Int) by omega, w64 (n := ((N : Nat) : Int)) (by omega) (by omega)]
  refine Sx.openp (a := some ⟨n.rm, 0, none⟩) rfl ?_
  rintro ⟨r0, c0⟩
  simp only [rmemL, List.cons_append, List.nil_append]
  refine Sx.liftp fun hmm => ?_
  refine Sx.rowkey (a := r0) fun hx0 hn0 _ hk1 => ?_
  obtain ⟨rg, rfl⟩ := row_some (show 2 < m.ws.length by omega) (hk1.imp (fun h => ⟨h.1, h.2.1, h.2.2⟩) id)
  refine go ?_
  rw [wu64 (n := ((N : Nat) : Int)) (by omega) (by omega)]
  refine gg ?_
  refine Sx.str1 (b := rg) (u := wd N) rfl rfl rfl rfl (show 0 + (2 : Int).toNat * 1 < (us m.ws).length by rw [length_us]; show 2 < _; omega) rfl ?_
  refine go ?_
  rw [wu64 (n := ((N : Nat) : Int)) (by omega) (by omega)]
  refine Sx.ca rfl (cellsLay (b := n.mp) (m := m) 2 N (by omega) hN2) ?_
  rintro v' L' ⟨rfl, rfl⟩
  refine go ?_
  refine Kr.one (.inr rfl) rfl (Ent.refl _) ⟨rfl, m.lay 2 N, ws, hs, h.same ⟨P, hI.lay hx hN2⟩ (Nat.le_succ _), ?_⟩
  have hsf := sp_fin (x := x) (n := n) (r := r) (r2 := r2) (c := c) (c2 := c2) (Q := Q) (m := m.lay 2 N) (ws := ws) (hs := hs) (w := ws i) (h := hs i) (G := G) hi
  rw [updG_id, updG_id, spW0 hk] at hsf
  refine Ent.trans ?_ hsf
  simp only [List.cons_append, List.nil_append]
  refine Ent.trans (RMemO.close (T := 94) (a := some ⟨n.rm, 0, none⟩) (r := some ⟨rg, 0, none⟩) (m.lay 2 N) ⟨Mm.ok_lay hmm.1 (by omega), by rw [Mm.len_lay]; exact hmm.2⟩ rfl Mm.len_lay.symm (us_set m.ws 2 N)) ?_
  exact entm
 ·rw [show v / 7 % 2 = 1 by omega]
  obtain ⟨tg, htg0⟩ : ∃ tg : Int, tg = (ws i).tag + ((v / 14 : Nat) : Int) - 3 := ⟨_, rfl⟩
  have htw : IntKind.i64.wrap (IntKind.i64.wrap ((ws i).tag + IntKind.i64.wrap (Int.tdiv (v : Int) 14)) - 3) = tg := by
   rw [hw14, w64 (n := (ws i).tag + ((v / 14 : Nat) : Int)) (by omega) (by omega), w64 (by omega) (by omega), htg0]
  refine go ?_
  refine Cx.ordc rfl kr_ ?_
  refine ge ?_
  refine Ev.ldbH (b := n.hb) kr_ rfl rfl g5 ?_
  refine ge ?_
  iterate 6 (refine Ev.bring 1 rfl ?_; refine ge ?_)
  refine Ev.bring 1 rfl ?_
  refine Ev.ldbH (b := n.hb) kr_ rfl rfl g5 ?_
  refine ge ?_
  iterate 4 (refine Ev.bring 1 rfl ?_; refine ge ?_)
  rw [htw]
  refine Ev.caH kr_ rfl rfl (supReady (u := (Q i).u) (mp := n.mp) (pb := (Q i).pb) (x := x) (s := (ws i).s) (now := tg) (by omega) (by omega) (by omega)) (.keep (fun v L' ⟨_, e⟩ => by subst e; exact (Has.blk (n := 1)).one (take_one g5)) (.dep rfl .nil)) ?_
  rintro v' L' ⟨rfl, rfl⟩
  refine ge ?_
  refine Ev.caH kr_ rfl rfl (refSupReady (s := (Q i).s) (w := n.w) (S := (ws i).s) (now := tg) (by omega) (by omega) (by omega)) (Pres.deps kr_) ?_
  rintro v' L' ⟨rfl, rfl⟩
  refine ge ?_
  rw [decide_eq_true rfl]
  refine go ?_
  refine Kr.one (.inr rfl) rfl (Ent.refl _) ⟨rfl, m, _, _, h.next (h' := hs i) hi ⟨P, hI.ready hi hk tg⟩ ⟨fun h => (by have h : (ws i).k = 1 := h; omega), fun _ => e3, fun h => (by have h : (ws i).k = 2 := h; omega), fun _ => e4⟩ (Nat.le_succ _) (by constructor <;> show _ ≤ _ <;> dsimp only <;> omega) (fun h => (by have h : (ws i).k = 1 := h; omega)), Ent.trans ?_ (sp_fin hi)⟩
  rw [spW0 (w := { ws i with s := (ws i).s.ready tg }) hk, hn_upd (ws := ws) (w := { ws i with s := (ws i).s.ready tg }) (w2 := ws i) rfl rfl, updG_id, updG_id]
  simp only [List.cons_append, List.nil_append]
  exact entm
end
end Go.Proofs.YtggnbdeokmdjbaaGreat


namespace Go.Proofs.YtggnbdeokmdjbaaGreat
open Go
attribute [local irreducible] Sx Cx Rx Fx Krg Ksq Kbl Klp Kr
section
variable {L F G : St}
set_option maxHeartbeats 1000000 in
theorem refStackList {sb rm : Nat} {k : Sk} {m : Mm} (hk : k.ok m.ws.length) [t : Take L (some ⟨rm, 0, none⟩) (RMemO m) F] [s : Take F (some ⟨sb, 0, none⟩) (RSkO rm k) G] :
  Fx Tryz.prog 14 [.pointer (some ⟨sb, 0, none⟩)] L (fun v L' => ∃ ro co, v = .slice ro (listK k m).length co ∧ L' = pt ro (Row 3 1 (listK k m).length co (ints (listK k m))) :: L) := by
 obtain ⟨k1, k2, k3, k4, k5, k6⟩ := hk
 refine Fx.mk Tryz.func14 k14 nb_ ?_
 dsimp only [c14, kG, kS, kH, kM, kN, kF, kL, envOf, Nat.reduceAdd]
 refine Cx.ent (Ent.trans (Ent.of t.out) (Ent.cons (Ent.of s.out))) ?_
 refine Cx.openp (a := some ⟨rm, 0, none⟩) rfl ?_
 rintro ⟨r0, c0⟩
 simp only [rmemL, List.cons_append, List.nil_append]
 refine Cx.liftp fun hm => ?_
 refine Cx.rowkey (a := r0) fun hx0 hn0 _ hk1 => ?_
 obtain ⟨rg, rfl⟩ := row_some k3 (hk1.imp (fun h => ⟨h.1, h.2.1, h.2.2⟩) id)
 have hlt := Mm.at_lt hm.1 k.head
 have hback : ∀ {M : St}, Ent (pt (some ⟨rm, 0, none⟩) (Blk 94 [.slice (some ⟨rg, 0, none⟩) m.ws.length c0, .int .i64 (IntKind.i64.wrap (m.n : Int))]) :: pt (some ⟨rg, 0, none⟩) (Row 89 1 m.ws.length c0 (us m.ws)) :: pt (some ⟨sb, 0, none⟩) (RSkO rm k) :: G) L := fun {M} =>
  Ent.trans (Ent.trans (RMemO.close (T := 94) (a := some ⟨rm, 0, none⟩) (r := some ⟨rg, 0, none⟩) m hm rfl rfl rfl) (Ent.cons (Ent.of s.back))) (Ent.of t.back)
 refine go ?_
 refine Cx.ordc rfl kr_ ?_
 refine ge ?_
 refine Ev.ldrH (b := rg) kr_ rfl rfl (show (us m.ws)[0 + (k.head : Int).toNat * 1]? = some (wd (m.at_ k.head)) by rw [show 0 + (k.head : Int).toNat * 1 = k.head by omega]; exact us_get (Mm.get k3)) ?_
 refine ge ?_
 refine Ev.cakH kr_ rfl rfl (refTop (sb := sb) (rm := rm) (k := k) (m.at_ k.head) hlt) ?_
 refine ge ?_
 refine go ?_
 refine Cx.lp (α := {p : (List Int × Int) × (Option Addr × Nat) // p.1.1.length ≤ k.n ∧ -1 ≤ p.1.2 ∧ p.1.2 < k.n ∧ p.1.1 ++ walkL k m (k.n - p.1.1.length) p.1.2 = listK k m})
  (fun p => [(0, .pointer (some ⟨sb, 0, none⟩)), (3, .slice p.1.2.1 p.1.1.1.length p.1.2.2), (4, .int .i64 p.1.1.2)])
  (fun p => pt p.1.2.1 (Row 3 1 p.1.1.1.length p.1.2.2 (ints p.1.1.1)) :: pt (some ⟨rm, 0, none⟩) (Blk 94 [.slice (some ⟨rg, 0, none⟩) m.ws.length c0, .int .i64 (IntKind.i64.wrap (m.n : Int))]) :: pt (some ⟨rg, 0, none⟩) (Row 89 1 m.ws.length c0 (us m.ws)) :: pt (some ⟨sb, 0, none⟩) (RSkO rm k) :: G)
  (fun p => k.n - p.1.1.1.length) ⟨(([], k.top (m.at_ k.head)), (none, 0)), by simp, k.top_ge _, k.top_lt _, by simp [listK]⟩ (sub.cons rfl (sub.cons rfl (sub.cons rfl sub.nil))) (Ent.rownil 3 1) ?_
 rintro ⟨⟨⟨out, i⟩, ⟨r, c⟩⟩, hol, hi1, hi2, he⟩
 dsimp only at hol hi1 hi2 he ⊢
 have fin : (i < 0 ∨ k.n ≤ out.length) → out = listK k m := by
  intro h
  rw [← he]
  rcases h with h | h
  ·cases hf : k.n - out.length with
   | zero => simp [walkL]
   | succ f => simp [walkL, show ¬ 0 ≤ i by omega]
  ·rw [show k.n - out.length = 0 by omega]; simp [walkL]
 refine go ?_
 refine Sx.ifp rfl (fun h => ?_) (fun h => ?_)
 ·refine go ?_
  refine Cx.ifp rfl (fun h2 => ?_) (fun h2 => ?_)
  ·obtain ⟨x, rfl⟩ : ∃ x : Nat, i = x := ⟨i.toNat, by omega⟩
   have hlx := Mm.at_lt hm.1 (k.links + x)
   have hbl := k.below_lt (m.at_ (k.links + x))
   have hbg := k.below_ge (m.at_ (k.links + x))
   refine go ?_
   refine Sx.bs (sz := 1) rfl rfl fun g => ?_
   refine Sx.ap (ra := r) rfl rfl (Rd.row (b := g) (E := 3) (cap := 1) rfl) rfl (by simp [maxLen]; omega) (by omega) fun ra ca hc => ?_
   refine go ?_
   refine Cx.ordu rfl rfl kr_ kr_ ?_
   refine ge ?_
   rw [w64 (n := (k.links : Int) + x) (by omega) (by omega), show (k.links : Int) + x = ((k.links + x : Nat) : Int) by omega]
   refine ge ?_
   refine Ev.ldrH (b := rg) kr_ rfl rfl (show (us m.ws)[0 + ((k.links + x : Nat) : Int).toNat * 1]? = some (wd (m.at_ (k.links + x))) by rw [show 0 + ((k.links + x : Nat) : Int).toNat * 1 = k.links + x by omega]; exact us_get (Mm.get (by omega))) ?_
   refine ge ?_
   refine Ev.cakH kr_ rfl rfl (refBelow (sb := sb) (rm := rm) (k := k) (m.at_ (k.links + x)) hlx k2) ?_
   refine ge ?_
   refine go ?_
   refine Klp.nm ⟨((out ++ [(x : Int)], k.below (m.at_ (k.links + x))), (ra, ca)), by simp; omega, hbg, hbl, ?_⟩ (sub.cons rfl (sub.cons (by simp; rfl) (sub.cons rfl sub.nil))) ?_ (by simp; omega)
   ·dsimp only
    rw [← he, show k.n - out.length = (k.n - (out ++ [(x : Int)]).length) + 1 by simp; omega]
    simp only [walkL, if_pos h, List.append_assoc, List.cons_append, List.nil_append, Int.toNat_natCast]
   ·simp only [List.length_append, List.length_singleton, ints_append]
    exact ent
  ·refine go ?_
   have hf := fin (.inr (by omega))
   subst hf
   exact Kr.one (.inr rfl) rfl (Ent.cons (hback (M := []))) ⟨r, c, rfl, rfl⟩
 ·refine go ?_
  have hf := fin (.inl (by omega))
  subst hf
  exact Kr.one (.inr rfl) rfl (Ent.cons (hback (M := []))) ⟨r, c, rfl, rfl⟩
theorem goesC {x : Cn} {n : Hs} {r r2 c c2 : Nat} {Q : Nat → Who} {m : Mm} {ws : Nat → Sw} {hs : Nat → PH} {i v T : Nat} (hx : x.ok) (hc8 : x.c ≤ 4096) (hT : T ≤ 1000) (hi : i < 3) (h : SpOk x T m ws hs) (hv : v < 280) :
  Fx Tryz.prog 9 [.pointer (some ⟨n.hb, 0, none⟩), .pointer (some ⟨n.a, 0, none⟩), .int .i64 i, .int .i64 v] (spF x n r r2 c c2 Q m ws hs G) (GoP x n r r2 c c2 Q T G) := by
 have hk : (ws i).k ≤ 2 := by obtain ⟨P, hI⟩ := h.i; exact (hI.wk i hi).k
 rcases (show (ws i).k = 1 ∨ (ws i).k = 2 ∨ (ws i).k = 0 by omega) with hk | hk | hk
 ·exact goesTake hx hc8 hT hi h hk
 ·exact goesGive hx hc8 hT hi h hk
 ·rcases (show v % 7 ≤ 1 ∨ v % 7 = 2 ∨ v % 7 = 3 ∨ v % 7 = 4 ∨ v % 7 = 5 ∨ v % 7 = 6 by omega) with h7 | h7 | h7 | h7 | h7 | h7
  ·exact goesNew hx hc8 hT hi h hk h7
  ·exact goesSpill hx hc8 hT hi h hk h7
  ·exact goesAll hx hc8 hT hi h hk h7
  ·exact goesPut hx hc8 hT hi h hk h7 hv
  ·exact goesRet hx hc8 hT hi h hk h7 hv
  ·exact goesRest hx hc8 hT hi h hk h7 hv
end
end Go.Proofs.YtggnbdeokmdjbaaGreat


namespace Go.Proofs.YtggnbdeokmdjbaaGreat
open Go
attribute [local irreducible] Sx Cx Rx Fx Krg Ksq Kbl Klp Kr
theorem Mm.ext_at {a b : Mm} (hl : a.ws.length = b.ws.length) (hn : a.n = b.n) (h : ∀ j, j < a.ws.length → a.at_ j = b.at_ j) : a = b := by
 obtain ⟨u, p⟩ := a
 obtain ⟨v, q⟩ := b
 dsimp only at hl hn
 subst hn
 congr 1
 refine List.ext_getElem hl fun j h1 h2 => ?_
 have := h j h1
 unfold Mm.at_ at this
 dsimp only at this
 rw [List.getD_eq_getElem?_getD, List.getD_eq_getElem?_getD, List.getElem?_eq_getElem h1, List.getElem?_eq_getElem h2] at this
 exact this
theorem zeroUp_n (x : Cn) (m : Mm) : ∀ i, (zeroUp x m i).n = m.n
 | 0 => rfl
 | i + 1 => zeroUp_n x m i
theorem zeroUp_at {x : Cn} {m : Mm} (hl : x.slot + x.sl ≤ m.ws.length) : ∀ i, i ≤ x.sl → ∀ j, (zeroUp x m i).at_ j = if x.slot ≤ j ∧ j < x.slot + i then 0 else m.at_ j
 | 0, _, j => by rw [if_neg (by omega)]; rfl
 | i + 1, hi, j => by
   simp only [zeroUp]
   rw [Mm.at_lay _ (by rw [zeroUp_len]; omega), zeroUp_at hl i (by omega)]
   by_cases h : x.slot + i = j
   ·rw [if_pos h, if_pos (by omega)]
   ·rw [if_neg h]
    by_cases h2 : x.slot ≤ j ∧ j < x.slot + i
    ·rw [if_pos h2, if_pos (by omega)]
    ·rw [if_neg h2, if_neg (by omega)]
theorem zeroM_at0 (x : Cn) (a : Nat) : (zeroM x).at_ a = 0 := by
 unfold zeroM Mm.at_
 rw [List.getD_eq_getElem?_getD, List.getElem?_replicate]
 split <;> rfl
theorem poolM_at {x : Cn} (hx : x.ok) {a : Nat} (h0 : a ≠ 0) (hl : ¬ (x.link ≤ a ∧ a < x.link + x.c)) : (poolM x).at_ a = 0 := by
 have hlen := hx.len_le
 unfold poolM
 rw [(fill_pool (hx.pool (n := x.len) (Nat.le_refl _) hlen) (zeroM_len x)).2 a h0 (fun j hj => by have : j < x.c := hj; show a ≠ x.link + j; omega)]
 exact zeroM_at0 x a
theorem poolM_ok {x : Cn} (hx : x.ok) : (poolM x).ok := by
 obtain ⟨b1, b2, b3, b4, b5, b6, b7⟩ := hx.b
 refine fillM_ok (fun w hw => ?_) (by show x.c ≤ 4096; omega)
 simp only [zeroM] at hw; rw [List.eq_of_mem_replicate hw]; omega
theorem poolM_same {x : Cn} (hx : x.ok) : (zeroUp x (fillM x.spare (poolM x)) x.sl).lay 1 0 = poolM x := by
 have hlen := hx.len_le
 have hpl := poolM_len x
 have hfl : (fillM x.spare (poolM x)).ws.length = x.len := by rw [fillM_len, hpl]
 have hsz : x.slot + x.sl ≤ x.len := by unfold Cn.slot Cn.len; omega
 have h1 : 1 < x.len := by unfold Cn.len; omega
 have g : x.slot + x.sl = x.link := by unfold Cn.slot Cn.link; omega
 have g3 : 3 ≤ x.slot := by unfold Cn.slot; omega
 refine Mm.ext_at (by rw [Mm.len_lay, zeroUp_len, hfl, hpl]) (by show (zeroUp x _ _).n = _; rw [zeroUp_n, fillM_n]) fun j _ => ?_
 rw [Mm.at_lay _ (by rw [zeroUp_len, hfl]; exact h1)]
 by_cases hj : 1 = j
 ·rw [if_pos hj, poolM_at hx (by omega) (by omega)]
 rw [if_neg hj, zeroUp_at (by rw [hfl]; exact hsz) _ (Nat.le_refl _)]
 by_cases hj2 : x.slot ≤ j ∧ j < x.slot + x.sl
 ·rw [if_pos hj2, poolM_at hx (by omega) (by omega)]
 rw [if_neg hj2, (fill_pool (hx.spare (n := x.len) (Nat.le_refl _) hlen) hpl).2 j (fun e => hj (by rw [e]; rfl)) (fun i hi => by have : i < x.sl := hi; show j ≠ x.slot + i; omega)]
section
variable {L F G : St}
abbrev smdF (x : Cn) (n : Hs) (r r2 : Option Addr) (k c c2 : Nat) (Q : Nat → Who) (m m2 : Mm) (G : St) : St :=
 pt (some ⟨n.a, 0, none⟩) (Blk 51 [.pointer (some ⟨n.mp, 0, none⟩), .pointer (some ⟨n.pb, 0, none⟩), .slice r k c, .pointer (some ⟨n.w, 0, none⟩), .slice r2 k c2]) :: pt r (Row 74 1 k c (ptrs k fun i => (Q i).u)) :: pt r2 (Row 69 1 k c2 (ptrs k fun i => (Q i).s)) ::
 pt (some ⟨n.mp, 0, none⟩) (MemO m) :: pt (some ⟨n.w, 0, none⟩) (RWO x n.rm n.rp n.rs n.re) :: pt (some ⟨n.rm, 0, none⟩) (RMemO m2) :: pt (some ⟨n.rp, 0, none⟩) (RSkO n.rm x.pool) :: pt (some ⟨n.re, 0, none⟩) (REpO x n.rm) :: pt (some ⟨n.pb, 0, none⟩) (SkO n.mp x.pool) ::
 (many k (fun i => whoL n.mp n.w x (Q i) (SupS.nil x.ca) (SupS.nil x.ca)) ++ G)
def updQ3 (Q : Nat → Who) (i : Nat) (q : Who) : Nat → Who := fun j => if j = i then q else Q j
set_option maxHeartbeats 8000000 in
theorem supMade3 {x : Cn} (hx : x.ok) : Fx Tryz.prog 8 [x.v, .int .i64 3] L (fun v L' => ∃ (n : Hs) (r r2 c c2 : Nat) (Q : Nat → Who), v = .pointer (some ⟨n.a, 0, none⟩) ∧
  L' = smdF x n (some ⟨r, 0, none⟩) (some ⟨r2, 0, none⟩) 3 c c2 Q (poolM x) (poolM x) L) := by
 obtain ⟨b1, b2, b3, b4, b5, b6, b7⟩ := hx.b
 have hlen := hx.len_le
 have hl1 : 1 ≤ x.len := by unfold Cn.len; omega
 have hl3 : 3 ≤ x.len := by unfold Cn.len; omega
 have hpl := poolM_len x
 refine Fx.mk Tryz.func8 k8 nb_ ?_
 dsimp only [c8, kG, kS, kH, kM, kN, kF, kL, envOf, Nat.reduceAdd]
 refine Cx.sq ?_
 refine Cx.rg ?_
 refine Sx.bx rfl rfl fun g => ?_
 refine go ?_
 refine Sx.ca rfl (layLen (x.w : Int) x.c x.wd x.sl x.ca x.ba hx) ?_
 rintro v L' ⟨rfl, rfl⟩
 rw [x.lenC]
 refine go ?_
 refine Sx.ca rfl (cellsNew x.len hl1 hlen) ?_
 rintro v L' ⟨mp, rfl, rfl⟩
 refine go ?_
 refine Sx.ca rfl (chainNew (mp := mp) (m := zeroM x) hx (by rw [zeroM_len]; exact Nat.le_refl _)) ?_
 rintro v L' ⟨ch, pb, rfl, rfl⟩
 refine go ?_
 refine Sx.ca rfl (chainPool (g := ch) (mp := mp) (sb := pb) (x := x)) ?_
 rintro v L' ⟨rfl, rfl⟩
 refine go ?_
 refine Sx.ca rfl (chainFill (g := ch) (mp := mp) (sb := pb) (x := x) (m := zeroM x) (hx.pool (by rw [zeroM_len]; exact Nat.le_refl _) (by rw [zeroM_len]; exact hlen))) ?_
 rintro v L' rfl
 refine go ?_
 refine Cx.ordc rfl kr_ ?_
 refine ge ?_
 refine Ev.cakH kr_ rfl rfl (chainPool (g := ch) (mp := mp) (sb := pb) (x := x)) ?_
 refine ge ?_
 refine Ev.caH kr_ rfl rfl (refWNew hx) (Pres.deps kr_) ?_
 rintro v L' ⟨w, rm, rp, rs, re, rfl, rfl⟩
 refine ge ?_
 refine Ev.bxH kr_ rfl rfl rfl (Pres.deps kr_) fun a => ?_
 refine ge ?_
 refine go ?_
 refine Cx.lp (α := {p : Nat × (Nat → Who) × (Option Addr × Nat) × (Option Addr × Nat) // p.1 ≤ 3})
  (fun p => [(2, .pointer (some ⟨g, 0, none⟩)), (1, .int .i64 3), (5, .pointer (some ⟨mp, 0, none⟩)), (9, .pointer (some ⟨a, 0, none⟩)), (10, .int .i64 (p.1.1 : Nat))])
  (fun p => pt (some ⟨g, 0, none⟩) (Blk 25 x.l) :: smdF x ⟨a, mp, pb, w, rm, rp, rs, re, 0⟩ p.1.2.2.1.1 p.1.2.2.2.1 p.1.1 p.1.2.2.1.2 p.1.2.2.2.2 p.1.2.1 (poolM x) (fillM x.spare (poolM x)) L)
  (fun p => 3 - p.1.1) ⟨(0, fun _ => ⟨0, 0, 0⟩, (none, 0), (none, 0)), Nat.zero_le _⟩ (sub.cons rfl (sub.cons rfl (sub.cons rfl (sub.cons rfl (sub.cons rfl sub.nil))))) ?_ ?_
 ·dsimp only [smdF]
  rw [many_zero]
  refine Ent.trans (Ent.take (a := some ⟨g, 0, none⟩)) (Ent.cons ?_)
  refine Ent.trans (Ent.take (a := some ⟨a, 0, none⟩)) (Ent.cons ?_)
  refine Ent.trans (Ent.rownil 69 1) (Ent.trans (Ent.rownil 74 1) (Ent.cons (Ent.cons ?_)))
  simp only [List.nil_append]
  unfold poolM
  exact ent
 rintro ⟨⟨j, Q, ⟨r, c⟩, ⟨r2, c2⟩⟩, hj⟩
 dsimp only [smdF] at hj ⊢
 refine go ?_
 refine Cx.ifp rfl (fun h => ?_) (fun h => ?_)
 ·refine go ?_
  refine Sx.ca rfl (supNew (mp := mp) (m := poolM x) hx (by omega)) ?_
  rintro v L' ⟨u, pb2, rfl, rfl⟩
  refine go ?_
  refine Sx.bs (sz := 1) rfl rfl fun q => ?_
  refine Sx.ap (ra := r) rfl rfl (Rd.row (b := q) (E := 74) (cap := 1) rfl) rfl (by simp [maxLen]; omega) (by omega) fun r' c' hc => ?_
  refine go ?_
  refine Cx.orde rfl kr_ ?_
  refine ge ?_
  refine Ev.caH kr_ rfl rfl (refSupply (w := w) (rm := rm) (rp := rp) (rs := rs) (re := re) (x := x)) (.dep rfl (.keep (fun v L' ⟨_, _, _, _, e⟩ => by subst e; exact Has.cell rfl) .nil)) ?_
  rintro v L' ⟨s, st, lm, rfl, rfl⟩
  refine ge ?_
  refine Ev.bsH (sz := 1) kr_ rfl rfl rfl (.dep rfl (.keep (fun v L' ⟨_, _, e⟩ => by subst e; exact Has.cell rfl) .nil)) fun q2 => ?_
  refine ge ?_
  refine Ev.apH (ra := r2) kr_ rfl rfl rfl (Rd.row (b := q2) (E := 69) (cap := 1) rfl) rfl (by simp [maxLen]; omega) (by omega) (Pres.deps kr_) fun r2' c2' hc2 hk2 => ?_
  refine ge ?_
  refine Ev.stbH (b := a) kr_ rfl rfl rfl rfl rfl (by rfl) rfl (Pres.deps kr_) ?_
  refine ge ?_
  refine go ?_
  rw [w64 (n := (j : Int) + 1) (by omega) (by omega)]
  refine Klp.nm ⟨(j + 1, updQ3 Q j ⟨u, pb2, s⟩, (r', c'), (r2', c2')), by dsimp only; omega⟩ (sub.cons rfl (sub.cons rfl (sub.cons rfl (sub.cons rfl (sub.cons rfl sub.nil))))) ?_ (by dsimp only; omega)
  have eu : ptrs j (fun i => (updQ3 Q j ⟨u, pb2, s⟩ i).u) = ptrs j fun i => (Q i).u := ptrs_congr fun i hi => by simp [updQ3, show i ≠ j by omega]
  have es : ptrs j (fun i => (updQ3 Q j ⟨u, pb2, s⟩ i).s) = ptrs j fun i => (Q i).s := ptrs_congr fun i hi => by simp [updQ3, show i ≠ j by omega]
  have em : many j (fun i => whoL mp w x (updQ3 Q j ⟨u, pb2, s⟩ i) (SupS.nil x.ca) (SupS.nil x.ca)) = many j fun i => whoL mp w x (Q i) (SupS.nil x.ca) (SupS.nil x.ca) := many_congr fun i hi => by simp [updQ3, show i ≠ j by omega]
  dsimp only [smdF]
  rw [ptrs_succ, ptrs_succ, many_succ, eu, es, em]
  simp only [updQ3, if_true, List.append_assoc]
  refine Ent.trans (Ent.take (a := some ⟨g, 0, none⟩)) (Ent.cons ?_)
  refine Ent.trans (RSupO.close (a := some ⟨s, 0, none⟩) (st := st) (lm := lm) (w := w) (SupS.nil x.ca) rfl rfl rfl) ?_
  iterate 9 (refine Ent.take1 ?_)
  refine Ent.trans ?_ (Ent.deep (N := whoL mp w x ⟨u, pb2, s⟩ (SupS.nil x.ca) (SupS.nil x.ca)))
  simp only [whoL, List.cons_append, List.nil_append]
  exact ent
 ·obtain rfl : j = 3 := by omega
  refine Cx.rowkey (a := r) fun _ _ _ hk1 => ?_
  refine Cx.rowkey (a := r2) fun _ _ _ hk2 => ?_
  obtain ⟨ra, rfl⟩ : ∃ g, r = some ⟨g, 0, none⟩ := by
   rcases hk1 with h | h
   ·omega
   ·exact h
  obtain ⟨rb, rfl⟩ : ∃ g, r2 = some ⟨g, 0, none⟩ := by
   rcases hk2 with h | h
   ·omega
   ·exact h
  have hsl : ∀ i, (zeroUp x (fillM x.spare (poolM x)) i).ws.length = x.len := fun i => by rw [zeroUp_len, fillM_len, hpl]
  have hsz : x.slot + x.sl ≤ x.len := by unfold Cn.slot Cn.len; omega
  refine go ?_
  refine Cx.lp (α := {i : Nat // i ≤ x.sl}) (fun i => [(2, .pointer (some ⟨g, 0, none⟩)), (9, .pointer (some ⟨a, 0, none⟩)), (13, .int .i64 i.1)])
   (fun i => pt (some ⟨g, 0, none⟩) (Blk 25 x.l) :: smdF x ⟨a, mp, pb, w, rm, rp, rs, re, 0⟩ (some ⟨ra, 0, none⟩) (some ⟨rb, 0, none⟩) 3 c c2 Q (poolM x) (zeroUp x (fillM x.spare (poolM x)) i.1) L)
   (fun i => x.sl - i.1) ⟨0, by omega⟩ (sub.cons rfl (sub.cons rfl (sub.cons rfl sub.nil))) ?_ ?_
  ·dsimp only [zeroUp, smdF]
   exact entm
  rintro ⟨i, hi⟩
  dsimp only [smdF]
  have hli := hsl i
  refine Cx.openp (a := some ⟨rm, 0, none⟩) rfl ?_
  rintro ⟨mr, mc⟩
  simp only [rmemL, List.cons_append, List.nil_append]
  refine Cx.liftp fun hm => ?_
  refine Cx.rowkey (a := mr) fun hx0 hn0 _ hk1 => ?_
  obtain ⟨rg, rfl⟩ : ∃ g, mr = some ⟨g, 0, none⟩ := by
   rcases hk1 with h | h
   ·omega
   ·exact h
  refine go ?_
  refine Cx.ifp rfl (fun h => ?_) (fun h => ?_)
  ·refine go ?_
   refine Cx.orde rfl kr_ ?_
   refine ge ?_
   refine Ev.cakH kr_ rfl rfl (refSlot hx i (by omega)) ?_
   refine ge ?_
   refine Ev.strH (b := rg) kr_ rfl rfl rfl rfl rfl (by rw [length_us]; simp; omega) rfl (Pres.deps kr_) ?_
   refine ge ?_
   refine go ?_
   rw [w64 (n := (i : Int) + 1) (by omega) (by omega)]
   refine Klp.nm ⟨i + 1, by omega⟩ (sub.cons rfl (sub.cons rfl (sub.cons rfl sub.nil))) ?_ (by dsimp only; omega)
   dsimp only [zeroUp, smdF]
   rw [show 0 + (((x.slot + i : Nat) : Int)).toNat * 1 = x.slot + i by omega]
   refine Ent.trans (rmemPut (rm := rm) (i := x.slot + i) (by omega) hm) ?_
   exact entm
  ·obtain rfl : i = x.sl := by omega
   refine gg ?_
   refine Sx.str1 (b := rg) rfl rfl rfl rfl (show 0 + (1 : Int).toNat * 1 < (us (zeroUp x (fillM x.spare (poolM x)) x.sl).ws).length by rw [length_us, hli]; show 1 < x.len; omega) rfl ?_
   refine go ?_
   refine Kr.one (.inr rfl) rfl ?_ ⟨⟨a, mp, pb, w, rm, rp, rs, re, 0⟩, ra, rb, c, c2, Q, rfl, rfl⟩
   refine Ent.trans (rmemPut (rm := rm) (i := 1) (by omega) hm) ?_
   rw [poolM_same hx]
   dsimp only [smdF]
   exact entm
end
end Go.Proofs.YtggnbdeokmdjbaaGreat


namespace Go.Proofs.YtggnbdeokmdjbaaGreat
open Go
attribute [local irreducible] Sx Cx Rx Fx Krg Ksq Kbl Klp Kr
section
variable {L F G : St}
theorem Fx.iso3 {P : Program} {f : FuncId} {vs : List Value} {V : Value} {M : St} (h1 : Ent L M) (h2 : Ent M L) (x : Fx P f vs M (fun v L' => v = V ∧ L' = M)) : Fx P f vs L (fun v L' => v = V ∧ L' = L) := by
 unfold Fx at *
 intro w0 w s
 exact (x w0 w (s.ent h1)).mono fun en w' ⟨v', L', he, ⟨hv, hL⟩, hS⟩ => ⟨v', L, he, ⟨hv, rfl⟩, hS.ent (by subst hL; exact h2)⟩
theorem s3_in {n i : Nat} {f : Nat → St} {N G A R : St} [t : Many L n f N G] (h : i < n) (e : f i = A ++ R) : Ent L (A ++ ((N ++ (many n (updS f i []) ++ G)) ++ R)) := by
 rw [t.eq]
 refine Ent.trans (Ent.trans Ent.deep (Ent.trans (Ent.one h) (Ent.app Ent.deep))) ?_
 rw [e, List.append_assoc]
 exact Ent.app (.perm List.perm_append_comm)
theorem s3_out {n i : Nat} {f : Nat → St} {N G A R : St} [t : Many L n f N G] (h : i < n) (e : f i = A ++ R) : Ent (A ++ ((N ++ (many n (updS f i []) ++ G)) ++ R)) L := by
 rw [t.eq]
 have h1 : Ent (A ++ ((N ++ (many n (updS f i []) ++ G)) ++ R)) (f i ++ (N ++ (many n (updS f i []) ++ G))) := by
  rw [e, List.append_assoc A R]
  exact Ent.app (.perm List.perm_append_comm)
 refine Ent.trans h1 (Ent.trans (Ent.ithBack h) ?_)
 rw [updS_id]
 exact Ent.refl _
def s3W (n : Hs) (x : Cn) (q : Who) (s : SupS) (R : St) : St := pt (some ⟨q.u, 0, none⟩) (SupO n.mp q.pb x s) :: pt (some ⟨q.s, 0, none⟩) (RSupO n.w s) :: R
abbrev s3F (x : Cn) (n : Hs) (r r2 c c2 : Nat) (Q : Nat → Who) (S : Nat → SupS) (R : Nat → St) (m : Mm) (G : St) : St :=
 pt (some ⟨n.a, 0, none⟩) (Blk 51 (allS n r r2 c c2)) :: pt (some ⟨r, 0, none⟩) (Row 74 1 3 c (ptrs 3 fun i => (Q i).u)) :: pt (some ⟨r2, 0, none⟩) (Row 69 1 3 c2 (ptrs 3 fun i => (Q i).s)) ::
 pt (some ⟨n.mp, 0, none⟩) (MemO m) :: pt (some ⟨n.w, 0, none⟩) (RWO x n.rm n.rp n.rs n.re) :: pt (some ⟨n.rm, 0, none⟩) (RMemO m) ::
 (many 3 (fun i => s3W n x (Q i) (S i) (R i)) ++ G)
abbrev s3M (n : Hs) (m : Mm) (rg : Option Addr) (cg : Nat) (G : St) : St := pt (some ⟨n.rm, 0, none⟩) (Blk 94 [.slice rg m.ws.length cg, .int .i64 (IntKind.i64.wrap (m.n : Int))]) :: pt rg (Row 89 1 m.ws.length cg (us m.ws)) :: G
abbrev s3G (x : Cn) (n : Hs) (r r2 c c2 : Nat) (Q : Nat → Who) (m : Mm) (rg : Option Addr) (cg : Nat) (T : St) : St :=
 pt (some ⟨n.a, 0, none⟩) (Blk 51 (allS n r r2 c c2)) :: pt (some ⟨r, 0, none⟩) (Row 74 1 3 c (ptrs 3 fun i => (Q i).u)) :: pt (some ⟨r2, 0, none⟩) (Row 69 1 3 c2 (ptrs 3 fun i => (Q i).s)) ::
 pt (some ⟨n.mp, 0, none⟩) (MemO m) :: pt (some ⟨n.w, 0, none⟩) (RWO x n.rm n.rp n.rs n.re) :: s3M n m rg cg T
set_option maxHeartbeats 4000000 in
theorem sameP {x : Cn} {n : Hs} {r r2 c c2 : Nat} {Q : Nat → Who} {S : Nat → SupS} {R : Nat → St} {m : Mm} (hn : m.n ≤ 1000000000000) (hS : ∀ i, i < 3 → (S i).xs.length ≤ 1000000000) (hB : ∀ i, i < 3 → (S i).lm.size ≤ 1000000000) :
  Fx Tryz.prog 11 [.pointer (some ⟨n.a, 0, none⟩)] (s3F x n r r2 c c2 Q S R m G) (fun v L' => v = .bool true ∧ L' = s3F x n r r2 c c2 Q S R m G) := by
 refine Fx.mk Tryz.func11 k11 nb_ ?_
 dsimp only [c11, kG, kS, kH, kM, kN, kF, kL, envOf, Nat.reduceAdd]
 dsimp only [s3F]
 refine Cx.openp (a := some ⟨n.rm, 0, none⟩) rfl ?_
 rintro ⟨rg, cg⟩
 simp only [rmemL, List.cons_append, List.nil_append]
 refine Cx.liftp fun hm => ?_
 refine Cx.rowkey (a := rg) fun hx0 hn0 _ hk1 => ?_
 have hmx : maxLen = 9223372036854775807 := rfl
 refine go ?_
 refine Cx.lp (α := {j : Nat // j ≤ m.ws.length}) (fun j => [(0, .pointer (some ⟨n.a, 0, none⟩)), (3, .int .i64 j.1)]) (fun _ => s3G x n r r2 c c2 Q m rg cg (many 3 (fun i => s3W n x (Q i) (S i) (R i)) ++ G)) (fun j => m.ws.length - j.1) ⟨0, Nat.zero_le _⟩ (sub.cons rfl (sub.cons rfl sub.nil)) ?_ ?_
 ·dsimp only [s3G, s3M]
  exact entm
 rintro ⟨j, hj⟩
 dsimp only [s3G, s3M]
 refine go ?_
 refine Cx.ifp rfl (fun h => ?_) (fun h => ?_)
 ·have hjl : j < m.ws.length := by omega
  obtain ⟨g0, rfl⟩ := row_some hjl (hk1.imp (fun h => ⟨h.1, h.2.1, h.2.2⟩) id)
  refine go ?_
  refine Cx.ordc rfl kr_ ?_
  refine ge ?_
  refine Ev.cakH kr_ rfl rfl (cellsPeek (b := n.mp) (m := m) j hjl) ?_
  refine ge ?_
  refine Ev.ldrH (b := g0) kr_ rfl rfl (show (us m.ws)[0 + (j : Int).toNat * 1]? = some (wd (m.at_ j)) by rw [show 0 + (j : Int).toNat * 1 = j by omega]; exact us_get (Mm.get hjl)) ?_
  refine ge ?_
  rw [decide_eq_true rfl]
  refine go ?_
  rw [w64 (n := (j : Int) + 1) (by omega) (by omega)]
  refine Klp.nm ⟨j + 1, by omega⟩ (sub.cons rfl (sub.cons rfl sub.nil)) ?_ (by dsimp only; omega)
  exact entm
 ·refine go ?_
  refine Cx.lp (α := {j : Nat // j ≤ 3}) (fun j => [(0, .pointer (some ⟨n.a, 0, none⟩)), (4, .int .i64 j.1)]) (fun _ => s3G x n r r2 c c2 Q m rg cg (many 3 (fun i => s3W n x (Q i) (S i) (R i)) ++ G)) (fun j => 3 - j.1) ⟨0, Nat.zero_le _⟩ (sub.cons rfl (sub.cons rfl sub.nil)) ?_ ?_
  ·exact entm
  rintro ⟨i, hi⟩
  dsimp only [s3G, s3M]
  refine go ?_
  refine Cx.ifp rfl (fun h => ?_) (fun h => ?_)
  ·have hi3 : i < 3 := by omega
   refine go ?_
   refine Cx.ent (s3_in (A := [pt (some ⟨(Q i).u, 0, none⟩) (SupO n.mp (Q i).pb x (S i)), pt (some ⟨(Q i).s, 0, none⟩) (RSupO n.w (S i))]) (R := R i) hi3 rfl) ?_
   simp only [List.cons_append, List.nil_append]
   refine Cx.openp (a := some ⟨(Q i).s, 0, none⟩) rfl ?_
   rintro ⟨st, lm⟩
   simp only [rsupL, List.cons_append, List.nil_append]
   refine Cx.openp (a := some ⟨st, 0, none⟩) rfl ?_
   rintro ⟨ra, ca⟩
   simp only [List.cons_append, List.nil_append]
   have hpu : (ptrs 3 fun i => (Q i).u)[0 + (i : Int).toNat * 1]? = some (.pointer (some ⟨(Q i).u, 0, none⟩)) := by
    rw [show 0 + (i : Int).toNat * 1 = i by omega]; exact ptrs_get hi3
   have hps : (ptrs 3 fun i => (Q i).s)[0 + (i : Int).toNat * 1]? = some (.pointer (some ⟨(Q i).s, 0, none⟩)) := by
    rw [show 0 + (i : Int).toNat * 1 = i by omega]; exact ptrs_get hi3
   refine Cx.ordc rfl kr_ ?_
   refine ge ?_
   refine Ev.ldrH (b := r) kr_ rfl rfl hpu ?_
   refine ge ?_
   iterate 6 (refine Ev.bring 1 rfl ?_; refine ge ?_)
   refine Ev.bring 1 rfl ?_
   refine Ev.ldrH (b := r2) kr_ rfl rfl hps ?_
   iterate 6 (refine Ev.bring 1 rfl ?_; refine ge ?_)
   refine Ev.caH kr_ rfl rfl (supStash (u := (Q i).u) (mp := n.mp) (pb := (Q i).pb) (x := x) (s := S i) (hS i hi3)) (.keep (fun v L' ⟨_, _, _, e⟩ => by subst e; exact Has.cell rfl) (.keep (fun v L' ⟨_, _, _, e⟩ => by subst e; exact Has.cell rfl) (.keep (fun v L' ⟨_, _, _, e⟩ => by subst e; exact (Has.row (b := r2) (m := 1)).one (take_one hps)) (.keep (fun v L' ⟨_, _, _, e⟩ => by subst e; exact Has.cell rfl) (.dep rfl (.dep rfl .nil)))))) ?_
   rintro v L' ⟨a1, c1, rfl, rfl⟩
   refine ge ?_
   refine Ev.cakH kr_ rfl rfl (sameIntsS (xs := (S i).xs) (ys := (S i).xs) (a := a1) (b := ra) (hS i hi3)) ?_
   refine ge ?_
   rw [decide_eq_true rfl]
   refine go ?_
   refine Cx.lp (α := {k : Nat // k ≤ 3}) (fun k => [(0, .pointer (some ⟨n.a, 0, none⟩)), (4, .int .i64 (i : Nat)), (5, .int .i64 k.1)])
    (fun _ => pt (some ⟨(Q i).u, 0, none⟩) (SupO n.mp (Q i).pb x (S i)) :: pt (some ⟨(Q i).s, 0, none⟩) (Blk 85 [.pointer (some ⟨n.w, 0, none⟩), .pointer (some ⟨st, 0, none⟩), .pointer (some ⟨lm, 0, none⟩)]) :: pt (some ⟨st, 0, none⟩) (RefO (S i).most (S i).xs) :: pt (some ⟨lm, 0, none⟩) (RLimboO (S i).lm) ::
     s3G x n r r2 c c2 Q m rg cg ((many 3 (updS (fun i => s3W n x (Q i) (S i) (R i)) i []) ++ G) ++ R i))
    (fun k => 3 - k.1) ⟨0, Nat.zero_le _⟩ (sub.cons rfl (sub.cons rfl (sub.cons rfl sub.nil))) ?_ ?_
   ·refine Ent.trans (StashO.close (T := 142) (most := (S i).most) (xs := (S i).xs) (a := some ⟨st, 0, none⟩) (r := ra) rfl rfl rfl) ?_
    dsimp only [s3G, s3M]
    exact entm
   rintro ⟨k, hk⟩
   dsimp only [s3G, s3M]
   refine go ?_
   refine Cx.ifp rfl (fun h5 => ?_) (fun h5 => ?_)
   ·have hk3 : k < 3 := by omega
    have hz3 : ((S i).lm.items (k : Int).toNat).length ≤ (S i).lm.size := by unfold Lm.items Lm.size; split <;> omega
    have hBi := hB i hi3
    refine gg ?_
    refine Sx.ldr (b := r) rfl hpu ?_
    refine go ?_
    refine Sx.ca rfl (supBucket (u := (Q i).u) (mp := n.mp) (pb := (Q i).pb) (x := x) (s := S i) (k : Int) hBi) ?_
    rintro v L' (⟨hno, rfl, rfl⟩ | ⟨hyes, r1, k1, rfl, rfl⟩)
    ·refine gg ?_
     refine Sx.ldr (b := r2) rfl hps ?_
     refine go ?_
     refine Sx.ca rfl (refBucket (b := lm) (m := (S i).lm) (k := (k : Int)) hBi) ?_
     rintro v L' (⟨_, rfl, rfl⟩ | ⟨hyes, _⟩)
     rotate_left
     ·exact absurd hno hyes
     refine go ?_
     refine Sx.ca rfl (sameInts (xs := []) (ys := []) (Rd.nil _ _ _) (Rd.nil _ _ _) (by omega)) ?_
     rintro v L' ⟨rfl, rfl⟩
     refine go ?_
     rw [w64 (n := (k : Int) + 1) (by omega) (by omega)]
     refine Klp.nm ⟨k + 1, by omega⟩ (sub.cons rfl (sub.cons rfl (sub.cons rfl sub.nil))) ?_ (by dsimp only; omega)
     exact entm
    ·refine gg ?_
     refine Sx.ldr (b := r2) rfl hps ?_
     refine go ?_
     refine Sx.ca rfl (refBucket (b := lm) (m := (S i).lm) (k := (k : Int)) hBi) ?_
     rintro v L' (⟨hno, _⟩ | ⟨_, r3, k3, rfl, rfl⟩)
     ·exact absurd hno hyes
     refine go ?_
     refine Sx.gyes rfl (by simp) ?_
     refine go ?_
     refine Sx.ca rfl (sameIntsS (xs := (S i).lm.items (k : Int).toNat) (ys := (S i).lm.items (k : Int).toNat) (a := r1) (b := r3) (by omega)) ?_
     rintro v L' ⟨rfl, rfl⟩
     rw [decide_eq_true (rfl : (S i).lm.items (k : Int).toNat = (S i).lm.items (k : Int).toNat)]
     refine go ?_
     rw [w64 (n := (k : Int) + 1) (by omega) (by omega)]
     refine Klp.nm ⟨k + 1, by omega⟩ (sub.cons rfl (sub.cons rfl (sub.cons rfl sub.nil))) ?_ (by dsimp only; omega)
     exact entm
   ·refine go ?_
    rw [w64 (n := (i : Int) + 1) (by omega) (by omega)]
    refine Klp.nm ⟨i + 1, by omega⟩ (sub.cons rfl (sub.cons rfl sub.nil)) ?_ (by dsimp only; omega)
    refine Ent.trans ?_ (s3_out (A := [pt (some ⟨(Q i).u, 0, none⟩) (SupO n.mp (Q i).pb x (S i)), pt (some ⟨(Q i).s, 0, none⟩) (RSupO n.w (S i))]) (R := R i) hi3 rfl)
    simp only [List.cons_append, List.nil_append]
    refine Ent.trans (RSupO.close (a := some ⟨(Q i).s, 0, none⟩) (st := st) (lm := lm) (w := n.w) (S i) rfl rfl rfl) ?_
    exact entm
  ·obtain rfl : i = 3 := by omega
   refine go ?_
   refine Cx.ordc rfl kr_ ?_
   refine ge ?_
   refine Ev.cakH kr_ rfl rfl (cellsCount (b := n.mp) (m := m) hn) ?_
   refine ge ?_
   rw [w64 (n := (m.n : Int)) (by omega) (by omega), decide_eq_true rfl]
   refine go ?_
   refine Kr.one (.inr rfl) rfl ?_ ⟨rfl, rfl⟩
   refine Ent.trans (RMemO.close (a := some ⟨n.rm, 0, none⟩) (r := rg) (v := .int .i64 (m.n : Int)) m hm (by rw [w64 (by omega) (by omega)]) rfl rfl) ?_
   exact entm
end
end Go.Proofs.YtggnbdeokmdjbaaGreat


namespace Go.Proofs.YtggnbdeokmdjbaaGreat
open Go
attribute [local irreducible] Sx Cx Rx Fx Krg Ksq Kbl Klp Kr
section
variable {L F G : St}
abbrev cn1 : Cn := ⟨1, 2, 8, 1, 0, 1⟩
theorem cn1_ok : cn1.ok := by unfold Cn.ok MayC; decide
abbrev mm1 : Mm := ⟨List.replicate 100 0, 0⟩
set_option maxHeartbeats 1000000 in
theorem supplyFirst : Fx Tryz.prog 6 [] L (fun v L' => v = .bool true ∧ L = L') := by
 refine Fx.mk Tryz.func6 k6 nb_ ?_
 dsimp only [c6, kG, kS, kH, kM, kN, kF, kL, envOf, Nat.reduceAdd]
 refine go ?_
 refine Sx.ca rfl (cellsNew 100 (by omega) (by omega)) ?_
 rintro v L' ⟨mp, rfl, rfl⟩
 refine go ?_
 refine Sx.al fun g => ?_
 refine Sx.st (b := g) rfl rfl rfl rfl rfl rfl ?_
 dsimp only [lay]
 refine go ?_
 refine Sx.ca rfl (supNew (mp := mp) (m := mm1) (x := cn1) cn1_ok (by decide)) ?_
 rintro v L' ⟨u, pb, rfl, rfl⟩
 refine go ?_
 refine Sx.ca rfl (supTake (u := u) (mp := mp) (pb := pb) (x := cn1) (s := SupS.nil 0) cn1_ok (by decide)) ?_
 rintro v L' ⟨b, rfl, rfl⟩
 have e1 : takeInit (cn1.ba : Int) (SupS.nil 0) = (SupS.nil 0, ⟨1, 0, false, -1, PopS.init 1, false⟩) := by kernel_rfl
 rw [e1]
 refine go ?_
 refine Sx.ca rfl (takeDone (b := b) (u := u) (pb := pb) (k := cn1.pool) (t := ⟨1, 0, false, -1, PopS.init 1, false⟩) ⟨by simp, fun _ => ⟨rfl, rfl⟩⟩) ?_
 rintro v L' ⟨rfl, rfl⟩
 refine go ?_
 refine Sx.ca rfl (takeStepC (b := b) (u := u) (mp := mp) (pb := pb) (x := cn1) (s := SupS.nil 0) (m := mm1) (t := ⟨1, 0, false, -1, PopS.init 1, false⟩) cn1_ok (by decide) ⟨by simp, fun _ => ⟨rfl, rfl⟩⟩ (by decide)) ?_
 rintro v L' ⟨rfl, rfl⟩
 have e2 : takeStep cn1.pool (cn1.ba : Int) mm1 (SupS.nil 0) ⟨1, 0, false, -1, PopS.init 1, false⟩ = (mm1.tick, SupS.nil 0, ⟨1, 0, false, -1, ⟨1, 0, 0, 0, [], true⟩, true⟩) := by kernel_rfl
 rw [e2]
 refine go ?_
 refine Sx.ca rfl (takeChunk (b := b) (u := u) (pb := pb) (k := cn1.pool) (t := ⟨1, 0, false, -1, ⟨1, 0, 0, 0, [], true⟩, true⟩) ⟨by simp, fun h => by cases h⟩) ?_
 rintro v L' ⟨rfl, rfl⟩
 refine go ?_
 refine Sx.ca rfl (takeDone (b := b) (u := u) (pb := pb) (k := cn1.pool) (t := ⟨1, 0, false, -1, ⟨1, 0, 0, 0, [], true⟩, true⟩) ⟨by simp, fun h => by cases h⟩) ?_
 rintro v L' ⟨rfl, rfl⟩
 refine go ?_
 refine Sx.ca rfl (takeSeen (b := b) (u := u) (pb := pb) (k := cn1.pool) (t := ⟨1, 0, false, -1, ⟨1, 0, 0, 0, [], true⟩, true⟩) ⟨by simp, fun h => by cases h⟩) ?_
 rintro v L' ⟨rfl, rfl⟩
 refine go ?_
 refine Sx.ca rfl (cellsCount (b := mp) (m := mm1.tick) (by decide)) ?_
 rintro v L' ⟨rfl, rfl⟩
 refine go ?_
 refine Kr.one (.inr rfl) rfl ?_ ⟨rfl, rfl⟩
 exact ent
end
end Go.Proofs.YtggnbdeokmdjbaaGreat


namespace Go.Proofs.YtggnbdeokmdjbaaGreat
open Go
attribute [local irreducible] Sx Cx Rx Fx Krg Ksq Kbl Klp Kr
theorem ints_getD {xs : List Int} {i : Nat} {x : Int} (h : xs[i]? = some x) : (ints xs)[i]? = some (.int .i64 x) := by simp [ints, h]
section
variable {L F : St}
theorem Rd.atD {a : Option Addr} {n i : Nat} {vs : List Value} {v : Value} (h : Rd L 1 a n vs) (hv : vs[i]? = some v) : ∃ b o, a = some ⟨b, o, none⟩ ∧ Has L b (o + i) [v] := by
 obtain ⟨h1, h0 | ⟨b, o, rfl, h2⟩⟩ := h
 ·have := (List.getElem?_eq_some_iff.1 hv).1; omega
 ·exact ⟨b, o, rfl, h2.at_ hv⟩
theorem seqN {q : Nat} {xs : List Int} {a : Option Addr} {n c i : Nat} {m : Int} {F : St} [t : Take L (some ⟨q, 0, none⟩) (Blk 127 [.slice a n c, .int .i64 i]) F]
  (hr : Rd L 1 a n (ints xs)) (hi : i ≤ 1000000000) (hm : 0 < m) (hm2 : m ≤ 4611686018427387904) :
  Fx Tryz.prog 61 [.pointer (some ⟨q, 0, none⟩), .int .i64 m] L (fun v L' => v = .int .i64 (xs.getD i 0 % m) ∧ L' = pt (some ⟨q, 0, none⟩) (Blk 127 [.slice a n c, .int .i64 ((i + 1 : Nat) : Int)]) :: F) := by
 have hn : n = xs.length := by have := hr.1; simp [ints] at this; omega
 refine Fx.mk Tryz.func61 k61 nb_ ?_
 dsimp only [c61, kG, kS, kH, kM, kN, kF, kL, envOf, Nat.reduceAdd]
 refine go ?_
 refine Cx.calm kr_ ?_
 repeat' (first | (refine Cm.pvs rfl ?_) | (refine Cm.step rfl ?_) | (refine Cm.done ?_) | (refine Cm.ldb rfl rfl (by rfl) ?_) | (refine Cm.ldbs rfl rfl rfl ?_))
 refine Cx.jn (β := Unit) (fun _ => [(0, .pointer (some ⟨q, 0, none⟩)), (1, .int .i64 m), (5, .int .i64 (xs.getD i 0))]) (fun _ => L) ?_ ?_
 ·refine Cx.ifp rfl (fun h => ?_) (fun h => ?_)
  ·have hlt : i < xs.length := by omega
   have hg : (ints xs)[i]? = some (.int .i64 (xs.getD i 0)) := ints_getD (by simp [hlt])
   obtain ⟨b, o, rfl, hh⟩ := hr.atD hg
   refine Cx.calmK Kjn.mono kr_ ?_
   repeat' (first | (refine Cm.pvs rfl ?_) | (refine Cm.step rfl ?_) | (refine Cm.done ?_) | (refine Cm.ldb rfl rfl (by rfl) ?_) | (refine Cm.ldbs rfl rfl rfl ?_))
   refine Cm.pv rfl rfl ⟨by omega, by omega⟩ ?_
   refine Cm.ld rfl rfl (by simpa using hh) rfl ?_
   repeat' (first | (refine Cm.pvs rfl ?_) | (refine Cm.step rfl ?_) | (refine Cm.done ?_) | (refine Cm.ldb rfl rfl (by rfl) ?_) | (refine Cm.ldbs rfl rfl rfl ?_))
   exact Cm.nil (Kjn.nm () (sub.cons rfl (sub.cons rfl (sub.cons rfl sub.nil))) (Ent.refl _))
  ·refine go ?_
   refine Kjn.nm () (sub.cons rfl (sub.cons rfl (sub.cons ?_ sub.nil))) (Ent.refl _)
   rw [show xs.getD i 0 = 0 by rw [List.getD_eq_getElem?_getD, List.getElem?_eq_none (by omega)]; rfl]
   rfl
 ·rintro ⟨⟩
  refine go ?_
  rw [w64 (by omega) (by omega)]
  refine Sx.ca rfl (number _ m hm hm2) ?_
  rintro v L' ⟨rfl, rfl⟩
  refine go ?_
  exact Kr.one (.inr rfl) rfl (Ent.refl _) ⟨rfl, by simp⟩
def SmallC (w c wd sl ca ba : Int) : Prop := (1 ≤ w ∧ w ≤ 4) ∧ (1 ≤ c ∧ c ≤ 8) ∧ (wd = 8 ∨ wd = 16) ∧ (1 ≤ sl ∧ sl ≤ 4) ∧ (0 ≤ ca ∧ ca ≤ 3) ∧ (1 ≤ ba ∧ ba ≤ 3)
theorem config_ (n : Int) : Fx Tryz.prog 7 [.int .i64 n] L (fun v L' => (∃ w c wd sl ca ba, v = cfg w c wd sl ca ba ∧ SmallC w c wd sl ca ba) ∧ L = L') := by
 refine Fx.mk Tryz.func7 k7 nb_ ?_
 dsimp only [c7, kG, kS, kH, kM, kN, kF, kL, envOf, Nat.reduceAdd]
 refine go ?_
 refine Sx.al fun g => ?_
 refine go ?_
 refine Sx.ca rfl (number n 4 (by omega) (by omega)) ?_
 rintro v L' ⟨rfl, rfl⟩
 refine go ?_
 refine Sx.pv rfl (by decide) ?_
 refine Sx.ca rfl (number _ 8 (by omega) (by omega)) ?_
 rintro v L' ⟨rfl, rfl⟩
 refine go ?_
 refine Sx.pv rfl (by decide) ?_
 refine Sx.ca rfl (number _ 2 (by omega) (by omega)) ?_
 rintro v L' ⟨rfl, rfl⟩
 refine go ?_
 refine Sx.pv rfl (by decide) ?_
 refine Sx.ca rfl (number _ 4 (by omega) (by omega)) ?_
 rintro v L' ⟨rfl, rfl⟩
 refine go ?_
 refine Sx.pv rfl (by decide) ?_
 refine Sx.ca rfl (number _ 4 (by omega) (by omega)) ?_
 rintro v L' ⟨rfl, rfl⟩
 refine go ?_
 refine Sx.pv rfl (by decide) ?_
 refine Sx.ca rfl (number _ 3 (by omega) (by omega)) ?_
 rintro v L' ⟨rfl, rfl⟩
 refine go ?_
 generalize n % 4 = x0
 generalize IntKind.i64.wrap (n.tdiv 4) % 8 = x1
 generalize IntKind.i64.wrap (n.tdiv 32) % 2 = x2
 generalize IntKind.i64.wrap (n.tdiv 64) % 4 = x3
 generalize IntKind.i64.wrap (n.tdiv 256) % 4 = x4
 generalize IntKind.i64.wrap (n.tdiv 1024) % 3 = x5
 refine Sx.bs (sz := 1) rfl rfl fun r => ?_
 refine go ?_
 refine Sx.bx rfl rfl fun q => ?_
 refine go ?_
 refine Sx.ca rfl (seqN (q := q) (xs := [x0, x1, x2, x3, x4, x5]) (i := 0) (Rd.row (b := r) (E := 3) (cap := 6) rfl) (by omega) (by omega) (by omega)) ?_
 rintro v L' ⟨rfl, rfl⟩
 refine go ?_
 refine Sx.ca rfl (seqN (q := q) (xs := [x0, x1, x2, x3, x4, x5]) (i := 1) (Rd.row (b := r) (E := 3) (cap := 6) rfl) (by omega) (by omega) (by omega)) ?_
 rintro v L' ⟨rfl, rfl⟩
 refine go ?_
 refine Sx.ca rfl (seqN (q := q) (xs := [x0, x1, x2, x3, x4, x5]) (i := 2) (Rd.row (b := r) (E := 3) (cap := 6) rfl) (by omega) (by omega) (by omega)) ?_
 rintro v L' ⟨rfl, rfl⟩
 refine go ?_
 refine Sx.ca rfl (seqN (q := q) (xs := [x0, x1, x2, x3, x4, x5]) (i := 3) (Rd.row (b := r) (E := 3) (cap := 6) rfl) (by omega) (by omega) (by omega)) ?_
 rintro v L' ⟨rfl, rfl⟩
 refine go ?_
 refine Sx.ca rfl (seqN (q := q) (xs := [x0, x1, x2, x3, x4, x5]) (i := 4) (Rd.row (b := r) (E := 3) (cap := 6) rfl) (by omega) (by omega) (by omega)) ?_
 rintro v L' ⟨rfl, rfl⟩
 refine go ?_
 refine Sx.ca rfl (seqN (q := q) (xs := [x0, x1, x2, x3, x4, x5]) (i := 5) (Rd.row (b := r) (E := 3) (cap := 6) rfl) (by omega) (by omega) (by omega)) ?_
 rintro v L' ⟨rfl, rfl⟩
 refine go ?_
 refine Sx.st (b := g) rfl rfl rfl rfl rfl rfl ?_
 dsimp only [lay]
 refine go ?_
 refine Kr_cell (b := g) (.inr rfl) rfl rfl (L' := L) ?_ ⟨⟨_, _, _, _, _, _, rfl, ?_⟩, rfl⟩
 ·exact ent
 ·have h0 := Int.emod_nonneg x0 (show (4 : Int) ≠ 0 by omega)
  have h0' := Int.emod_lt_of_pos x0 (show (0 : Int) < 4 by omega)
  have h1 := Int.emod_nonneg x1 (show (8 : Int) ≠ 0 by omega)
  have h1' := Int.emod_lt_of_pos x1 (show (0 : Int) < 8 by omega)
  have h2 := Int.emod_nonneg x2 (show (2 : Int) ≠ 0 by omega)
  have h2' := Int.emod_lt_of_pos x2 (show (0 : Int) < 2 by omega)
  have h3 := Int.emod_nonneg x3 (show (4 : Int) ≠ 0 by omega)
  have h3' := Int.emod_lt_of_pos x3 (show (0 : Int) < 4 by omega)
  have h4 := Int.emod_nonneg x4 (show (4 : Int) ≠ 0 by omega)
  have h4' := Int.emod_lt_of_pos x4 (show (0 : Int) < 4 by omega)
  have h5 := Int.emod_nonneg x5 (show (3 : Int) ≠ 0 by omega)
  have h5' := Int.emod_lt_of_pos x5 (show (0 : Int) < 3 by omega)
  simp only [List.getD_cons_zero, List.getD_cons_succ]
  rw [w64 (n := 1 + x0 % 4) (by omega) (by omega), w64 (n := 1 + x1 % 8) (by omega) (by omega), w64 (n := 8 * (x2 % 2)) (by omega) (by omega), w64 (n := 8 + 8 * (x2 % 2)) (by omega) (by omega), w64 (n := 1 + x3 % 4) (by omega) (by omega), w64 (n := 1 + x5 % 3) (by omega) (by omega)]
  unfold SmallC
  omega
end
end Go.Proofs.YtggnbdeokmdjbaaGreat


namespace Go.Proofs.YtggnbdeokmdjbaaGreat
open Go
attribute [local irreducible] Sx Cx Rx Fx Krg Ksq Kbl Klp Kr
theorem small_cfg {w c wd sl ca ba : Int} (h : SmallC w c wd sl ca ba) : ∃ x : Cn, cfg w c wd sl ca ba = x.v ∧ x.ok ∧ x.ca ≤ 3 ∧ x.c ≤ 8 ∧ x.ba ≤ 3 ∧ x.w ≤ 4 := by
 unfold SmallC at h
 refine ⟨⟨w.toNat, c.toNat, wd.toNat, sl.toNat, ca.toNat, ba.toNat⟩, ?_, ?_, ?_⟩
 ·simp only [Cn.v]
  rw [Int.toNat_of_nonneg (by omega), Int.toNat_of_nonneg (by omega), Int.toNat_of_nonneg (by omega), Int.toNat_of_nonneg (by omega), Int.toNat_of_nonneg (by omega), Int.toNat_of_nonneg (by omega)]
 ·unfold Cn.ok MayC
  simp only
  rw [Int.toNat_of_nonneg (by omega), Int.toNat_of_nonneg (by omega), Int.toNat_of_nonneg (by omega), Int.toNat_of_nonneg (by omega), Int.toNat_of_nonneg (by omega), Int.toNat_of_nonneg (by omega)]
  rw [Int.tmod_eq_emod_of_nonneg (by omega)]
  omega
 ·simp only; omega
theorem iotaI_mem {n : Nat} {x : Int} (h : x ∈ iotaI n) : 0 ≤ x ∧ x < n := by
 simp only [iotaI, List.mem_map, List.mem_range] at h
 obtain ⟨i, hi, rfl⟩ := h
 omega
section
variable {L F G : St}
end
end Go.Proofs.YtggnbdeokmdjbaaGreat


namespace Go.Proofs.YtggnbdeokmdjbaaGreat
open Go Go.RowKit Go.ChangeShapes Go.WideShapes
def In (w : World) (sz : Nat) (v : Value) (n : Nat) (vs : List Value) : Prop :=
 vs.length = n * sz ∧ n ≤ maxLen ∧ ∃ a c, v = .slice a n c ∧ (n = 0 ∨ ∃ b o, a = some ⟨b, o, none⟩ ∧ ∀ j u, vs[j]? = some u → w.cell? ⟨b, o + j, none⟩ = some u)
theorem addr_add (b o i : Nat) : (⟨b, o, none⟩ : Addr).add i = ⟨b, o + i, none⟩ := by
 unfold Addr.add; split <;> simp_all
theorem In.rd {w : World} {sz n : Nat} {v : Value} {vs : List Value} (h : In w sz v n vs) : n ≤ maxLen ∧ ∃ a c, v = .slice a n c ∧ ∀ L : St, Ent L [Old w] → Rd L sz a n vs := by
 obtain ⟨h1, h2, a, c, rfl, h3⟩ := h
 refine ⟨h2, a, c, rfl, fun L hL => ⟨h1, h3.imp id ?_⟩⟩
 rintro ⟨b, o, rfl, hc⟩
 exact ⟨b, o, rfl, Has.old hL hc⟩
theorem flat_get {sz : Nat} (hp : 0 < sz) : ∀ (rows : List (List Value)) (h : ∀ r ∈ rows, r.length = sz) (j : Nat), rows.flatten[j]? = (rows[j / sz]?).bind (·[j % sz]?)
 | [], _, j => by simp
 | r :: l, h, j => by
   have hr : r.length = sz := h r (by simp)
   have ih := flat_get hp l (fun x hx => h x (by simp [hx]))
   by_cases hj : j < sz
   ·rw [List.flatten_cons, List.getElem?_append_left (by omega), Nat.div_eq_of_lt hj, Nat.mod_eq_of_lt hj]
    simp
   ·rw [List.flatten_cons, List.getElem?_append_right (by omega), hr, ih]
    obtain ⟨q, rfl⟩ : ∃ q, j = q + sz := ⟨j - sz, by omega⟩
    rw [Nat.add_sub_cancel, Nat.add_mod_right, Nat.add_div_right q hp]
    simp
theorem flat_length {sz : Nat} : ∀ (rows : List (List Value)) (h : ∀ r ∈ rows, r.length = sz), rows.flatten.length = rows.length * sz
 | [], _ => by simp
 | r :: l, h => by
   have hr : r.length = sz := h r (by simp)
   have ih := flat_length l (fun x hx => h x (by simp [hx]))
   rw [List.flatten_cons, List.length_append, ih, hr, List.length_cons, Nat.add_mul]; omega
section
variable {H : Type} {enc : TypeId × Value → H} {P : Program} {w : World} {base : Nat} {held : Bool}
theorem In.rows {t e : TypeId} {sz fuel : Nat} {v : Value} {x : DataW H × List MemPlace} (ht : P.underlying t = some (.slice e)) (hs : P.cellsOf e = sz) (hp : 0 < sz)
  (h : DataW.trod enc P w base (fun _ => true) held fuel t [v] = some x) :
  ∃ rows : List (List Value), In w sz v rows.length rows.flatten ∧ ∀ r ∈ rows, r.length = sz ∧ ∃ n y, DataW.trod enc P w base (fun _ => true) held n e r = some y := by
 rcases Deep.open_slice ht h with ⟨h0, _⟩ | ⟨a, len, cap, m, n, D, Pl, h0, hb, hl, hm, hmm, rfl, hx⟩
 ·simp only [List.cons.injEq, and_true] at h0
  subst h0
  exact ⟨[], ⟨by simp, by simp, none, 0, rfl, .inl rfl⟩, by simp⟩
 ·simp only [List.cons.injEq, and_true] at h0
  subst h0
  simp only [if_true] at hmm
  subst hmm
  rw [hs] at hx
  obtain ⟨V, hV⟩ := Deep.choose_lt (α := List Value) (p := fun i cs' => w.cells? base (a.add (i * sz)) sz = some cs' ∧ DataW.trod enc P w base (fun _ => true) held n e cs' = some (D i, Pl i)) hx
  have hlen : ∀ i, i < m → (V i).length = sz := fun i hi => (World.cells?_some (hV i hi).1).2.1
  refine ⟨(List.range len).map V, ⟨?_, ?_, some a, m, by simp, ?_⟩, ?_⟩
  ·rw [flat_length _ (by simp only [List.mem_map, List.mem_range]; rintro r ⟨i, hi, rfl⟩; exact hlen i (by omega))]
  ·simp; omega
  ·rcases Nat.eq_zero_or_pos len with h0 | h0
   ·left; simpa using h0
   ·right
    obtain ⟨b, o, spot⟩ := a
    have hc0 := (World.cells?_some (hV 0 (by omega)).1).2.2 0 hp
    rw [List.getElem?_eq_getElem (by rw [hlen 0 (by omega)]; exact hp)] at hc0
    have hspot : spot = none := by simpa [Addr.add] using World.cell?_spot hc0
    subst hspot
    refine ⟨b, o, rfl, fun j u hu => ?_⟩
    rw [flat_get hp _ (by simp only [List.mem_map, List.mem_range]; rintro r ⟨i, hi, rfl⟩; exact hlen i (by omega))] at hu
    obtain ⟨r, hr, hj⟩ := Option.bind_eq_some_iff.1 hu
    rw [List.getElem?_map] at hr
    obtain ⟨i, hi, rfl⟩ := Option.map_eq_some_iff.1 hr
    have hi' : j / sz < len := by have := (List.getElem?_eq_some_iff.1 hi).1; simpa using this
    have hij : i = j / sz := by simpa [hi'] using hi.symm
    subst hij
    have hc := (World.cells?_some (hV (j / sz) (by omega)).1).2.2 (j % sz) (Nat.mod_lt _ hp)
    rw [hj] at hc
    have he : o + j = o + j / sz * sz + j % sz := by have := Nat.div_add_mod j sz; rw [Nat.mul_comm] at this; omega
    rw [he]
    rwa [addr_add, addr_add] at hc
  ·simp only [List.mem_map, List.mem_range]
   rintro r ⟨i, hi, rfl⟩
   exact ⟨hlen i (by omega), n, _, (hV i (by omega)).2⟩
theorem In.ones {t e : TypeId} {fuel : Nat} {v : Value} {x : DataW H × List MemPlace} (ht : P.underlying t = some (.slice e)) (hs : P.cellsOf e = 1)
  (h : DataW.trod enc P w base (fun _ => true) held fuel t [v] = some x) :
  ∃ us : List Value, In w 1 v us.length us ∧ ∀ u ∈ us, ∃ n y, DataW.trod enc P w base (fun _ => true) held n e [u] = some y := by
 obtain ⟨rows, h1, h2⟩ := In.rows ht hs (by omega) h
 have key : ∀ rows : List (List Value), (∀ r ∈ rows, r.length = 1 ∧ ∃ n y, DataW.trod enc P w base (fun _ => true) held n e r = some y) → ∀ u ∈ rows.flatten, ∃ n y, DataW.trod enc P w base (fun _ => true) held n e [u] = some y := by
  intro rows h2 u hu
  obtain ⟨r, hr, hur⟩ := List.mem_flatten.1 hu
  obtain ⟨hl, n, y, hy⟩ := h2 r hr
  match r, hl with
  | [z], _ =>
    simp only [List.mem_singleton] at hur
    subst hur
    exact ⟨n, y, hy⟩
 refine ⟨rows.flatten, ?_, key rows h2⟩
 rw [flat_length rows (fun r hr => (h2 r hr).1), Nat.mul_one]
 exact h1
theorem In.ints {t e : TypeId} {k : IntKind} {fuel : Nat} {v : Value} {x : DataW H × List MemPlace} (ht : P.underlying t = some (.slice e)) (he : P.underlying e = some (.int k)) (hs : P.cellsOf e = 1)
  (h : DataW.trod enc P w base (fun _ => true) held fuel t [v] = some x) : ∃ xs : List Int, In w 1 v xs.length (xs.map (Value.int k)) ∧ ∀ x ∈ xs, (Lit.int k x).wf = true := by
 obtain ⟨us, h1, h2⟩ := In.ones ht hs h
 obtain ⟨xs, rfl, hx⟩ : ∃ xs : List Int, us = xs.map (Value.int k) ∧ ∀ x ∈ xs, (Lit.int k x).wf = true := by
  clear h1 h
  induction us with
  | nil => exact ⟨[], rfl, by simp⟩
  | cons u l ih =>
    obtain ⟨xs, rfl, hx⟩ := ih (fun z hz => h2 z (by simp [hz]))
    obtain ⟨n, y, hy⟩ := h2 u (by simp)
    obtain ⟨z, h3, _, h5⟩ := DataW.trod_int he hy
    simp only [List.cons.injEq, and_true] at h3
    subst h3
    refine ⟨z :: xs, rfl, ?_⟩
    simp only [List.mem_cons, forall_eq_or_imp]
    exact ⟨h5, hx⟩
 exact ⟨xs, by simpa using h1, hx⟩
end
end Go.Proofs.YtggnbdeokmdjbaaGreat


namespace Go.Proofs.YtggnbdeokmdjbaaGreat
open Go
attribute [local irreducible] Sx Cx Rx Fx Krg Ksq Kbl Klp Kr
def sw0 (x : Cn) : Sw := ⟨SupS.nil x.ca, [], 0, 0, TakeS.none_, PushS.init []⟩
def ph0 : PH := ⟨.pointer none, .pointer none, .pointer none, .pointer none, 0, 0, none, 0⟩
theorem many_ent3 {n : Nat} {f g : Nat → St} (h : ∀ i, i < n → ∀ G, Ent (f i ++ G) (g i ++ G)) : ∀ {G : St}, Ent (many n f ++ G) (many n g ++ G) := by
 induction n with
 | zero => intro G; exact Ent.refl _
 | succ n ih =>
   intro G
   rw [many_succ, many_succ, List.append_assoc, List.append_assoc]
   exact Ent.trans (ih fun i hi => h i (by omega)) (Ent.app (h n (by omega) G))
theorem SpOk.first {x : Cn} (hx : x.ok) : SpOk x 0 (poolM x) (fun _ => sw0 x) (fun _ => ph0) := by
 have hlen := hx.len_le
 have hl3 : 3 ≤ x.len := by unfold Cn.len; omega
 have hp0 : Pool x.pool (poolM x) (iotaI x.c) := (fill_pool (hx.pool (Nat.le_refl _) hlen) (by rw [zeroM_len])).1
 have hown : ∀ y, (sw0 x).own.count y = 0 := fun y => by
  have : (sw0 x).own = [] := rfl
  rw [this]; rfl
 have h0 : (poolM x).at_ 0 = 1 := by
  unfold poolM fillM
  show (Mm.lay _ 0 1).at_ 0 = 1
  rw [Mm.at_lay _ (by rw [Mm.len_lay, fillUp_len, zeroM_len]; omega), if_pos rfl]
 refine ⟨⟨iotaI x.c, ⟨poolM_len x, poolM_ok hx, hp0, ?_, fun y => ?_, fun y hy => ?_, fun i _ => ⟨?_, ?_, by show 0 ≤ 2; omega, (fun h => by cases h), (fun h => by cases h)⟩⟩⟩, fun i _ => ⟨(fun h => by cases h), fun _ => rfl, (fun h => by cases h), fun _ => rfl⟩, ?_, fun i _ => ⟨by show -(100 * ((0 : Nat) : Int)) ≤ 0; omega, by show (0 : Int) ≤ _; omega⟩, fun i _ h => by cases h⟩
 ·show hdT ((poolM x).at_ 0) ≤ 10
  rw [h0]; unfold hdT; omega
 ·have h1 := List.nodup_iff_count.1 (iota_nodup x.c) y
  unfold ownC
  rw [hown y]
  exact h1
 ·unfold ownC at hy
  rw [hown y] at hy
  exact iotaI_mem (List.count_pos_iff.1 (by omega))
 ·show (0 : Int) ≤ min (max (x.ca : Int) 0) 64; omega
 ·show min (max (x.ca : Int) 0) 64 ≤ 64; omega
 ·show (poolM x).n ≤ 0
  unfold poolM
  rw [fillM_n]
  exact Nat.le_refl _
section
variable {L F G : St}
theorem Rd.at3 {a : Option Addr} {n i : Nat} {vs : List Value} {v : Value} (h : Rd L 1 a n vs) (hv : vs[i]? = some v) : ∃ b o, a = some ⟨b, o, none⟩ ∧ Has L b (o + i) [v] := by
 obtain ⟨h1, h0 | ⟨b, o, rfl, h2⟩⟩ := h
 ·have := (List.getElem?_eq_some_iff.1 hv).1; omega
 ·exact ⟨b, o, rfl, h2.at_ hv⟩
theorem Fx.post3 {P : Program} {f : FuncId} {vs : List Value} {R R2 : Value → St → Prop} (h : ∀ v L', R v L' → ∃ M, Ent L' M ∧ R2 v M) (x : Fx P f vs L R) : Fx P f vs L R2 := by
 unfold Fx at *
 intro w0 w s
 exact (x w0 w s).mono fun en w' ⟨v', L', he, hR, hS⟩ => by
  obtain ⟨M, hE, hR2⟩ := h v' L' hR
  exact ⟨v', M, he, hR2, hS.ent hE⟩
theorem goesD {x : Cn} {n : Hs} {r r2 c c2 : Nat} {Q : Nat → Who} {m : Mm} {ws : Nat → Sw} {hs : Nat → PH} {i v T : Nat} (hx : x.ok) (hc8 : x.c ≤ 4096) (hT : T ≤ 1000) (hi : i < 3) (h : SpOk x T m ws hs) (hv : v < 280) :
  Fx Tryz.prog 9 [.pointer (some ⟨n.hb, 0, none⟩), .pointer (some ⟨n.a, 0, none⟩), .int .i64 i, .int .i64 v] (spF x n r r2 c c2 Q m ws hs G)
   (fun v' L' => v' = .bool true ∧ ∃ m' ws' hs', SpOk x (T + 1) m' ws' hs' ∧ L' = spF x n r r2 c c2 Q m' ws' hs' G) :=
 Fx.post3 (fun v' L' ⟨e, m', ws', hs', hok, hE⟩ => ⟨_, hE, e, m', ws', hs', hok, rfl⟩) (goesC hx hc8 hT hi h hv)
theorem spSame {x : Cn} {n : Hs} {r r2 c c2 : Nat} {Q : Nat → Who} {m : Mm} {ws : Nat → Sw} {hs : Nat → PH} {T : Nat} (hc8 : x.c ≤ 4096) (hT : T ≤ 1000) (h : SpOk x T m ws hs) :
  Fx Tryz.prog 11 [.pointer (some ⟨n.a, 0, none⟩)] (spF x n r r2 c c2 Q m ws hs G) (fun v L' => v = .bool true ∧ L' = spF x n r r2 c c2 Q m ws hs G) := by
 have e : (fun i => s3W n x (Q i) ((fun i => (ws i).s) i) ((fun i => spR n x (Q i) (ws i) (hs i)) i)) = fun i => spW n x (Q i) (ws i) (hs i) := rfl
 refine Fx.iso3 ?_ ?_ (sameP (x := x) (n := n) (r := r) (r2 := r2) (c := c) (c2 := c2) (Q := Q) (S := fun i => (ws i).s) (R := fun i => spR n x (Q i) (ws i) (hs i)) (m := m)
  (G := [pt (some ⟨n.rp, 0, none⟩) (RSkO n.rm x.pool), pt (some ⟨n.re, 0, none⟩) (REpO x n.rm), pt (some ⟨n.pb, 0, none⟩) (SkO n.mp x.pool), pt (some ⟨n.hb, 0, none⟩) (Blk 41 (hnV hs ws))] ++ G) (by have := h.n; omega) (fun i hi => by have := h.bd hi; omega) (fun i hi => by have := h.bd hi; omega))
 ·dsimp only [spF, s3F] at e ⊢
  rw [e]
  iterate 6 (refine Ent.cons ?_)
  show Ent ([pt (some ⟨n.rp, 0, none⟩) (RSkO n.rm x.pool), pt (some ⟨n.re, 0, none⟩) (REpO x n.rm), pt (some ⟨n.pb, 0, none⟩) (SkO n.mp x.pool), pt (some ⟨n.hb, 0, none⟩) (Blk 41 (hnV hs ws))] ++ ((many 3 fun i => spW n x (Q i) (ws i) (hs i)) ++ G)) _
  exact Ent.deep
 ·dsimp only [spF, s3F] at e ⊢
  rw [e]
  iterate 6 (refine Ent.cons ?_)
  exact Ent.deep (M := [pt (some ⟨n.rp, 0, none⟩) (RSkO n.rm x.pool), pt (some ⟨n.re, 0, none⟩) (REpO x n.rm), pt (some ⟨n.pb, 0, none⟩) (SkO n.mp x.pool), pt (some ⟨n.hb, 0, none⟩) (Blk 41 (hnV hs ws))])
set_option maxRecDepth 100000 in
set_option maxHeartbeats 8000000 in
theorem supplyPlays {w : World} {v : Value} {xs : List Int} (n : Int) (hv : In w 1 v xs.length (ints xs)) : Fx Tryz.prog 3 [.int .i64 n, v] [Old w] (fun v L' => v = .bool true ∧ Ent L' [Old w]) := by
 obtain ⟨hn, sa, scp, rfl, hRd⟩ := hv.rd
 have hmx : maxLen = 9223372036854775807 := rfl
 refine Fx.mk Tryz.func3 k3 nb_ ?_
 dsimp only [c3, kG, kS, kH, kM, kN, kF, kL, envOf, Nat.reduceAdd]
 refine go ?_
 refine Sx.ca rfl supplyFirst ?_
 rintro v L' ⟨rfl, rfl⟩
 refine go ?_
 refine Cx.ifp rfl (fun h => ?_) (fun hlen2 => ?_)
 ·refine go ?_
  exact Kr.one (.inr rfl) rfl (Ent.refl _) ⟨rfl, Ent.refl _⟩
 refine go ?_
 refine Sx.ca rfl (config_ n) ?_
 rintro v L' ⟨⟨w', c, wd, sl, ca, ba, rfl, hsm⟩, rfl⟩
 obtain ⟨x, hxv, hx, hca, hc8, hba, hw4⟩ := small_cfg hsm
 rw [hxv]
 clear hxv hsm
 clear w' c wd sl ca ba
 refine Sx.al fun gb => ?_
 refine Sx.st (b := gb) rfl rfl rfl rfl rfl rfl ?_
 refine Sx.re [.int .i64 x.w, .int .i64 x.c, .int .i64 x.wd, .int .i64 x.sl, .int .i64 x.ca, .int .i64 x.ba] rfl ?_
 refine go ?_
 refine Sx.ca (vs := [x.v, .int .i64 3]) rfl (supMade3 hx) ?_
 rintro v L' ⟨nn, r, r2, c, c2, Q, rfl, rfl⟩
 refine go ?_
 refine Sx.bx rfl rfl fun hb => ?_
 refine go ?_
 obtain ⟨n2, hn2⟩ : ∃ n2 : Hs, n2 = ⟨nn.a, nn.mp, nn.pb, nn.w, nn.rm, nn.rp, nn.rs, nn.re, hb⟩ := ⟨_, rfl⟩
 have hbe : hb = n2.hb := by rw [hn2]
 have hae : nn.a = n2.a := by rw [hn2]
 refine Cx.lp (α := {p : Nat × Mm × (Nat → Sw) × (Nat → PH) // p.1 ≤ xs.length ∧ SpOk x p.1 p.2.1 p.2.2.1 p.2.2.2})
  (fun p => [(1, .slice sa xs.length scp), (5, .bool true), (7, .pointer (some ⟨n2.a, 0, none⟩)), (8, .pointer (some ⟨n2.hb, 0, none⟩)), (9, .int .i64 (p.1.1 : Nat))])
  (fun p => spF x n2 r r2 c c2 Q p.1.2.1 p.1.2.2.1 p.1.2.2.2 [Old w])
  (fun p => xs.length - p.1.1) ⟨(0, poolM x, (fun _ => sw0 x), (fun _ => ph0)), Nat.zero_le _, SpOk.first hx⟩ (sub.cons rfl (sub.cons rfl (sub.cons (by rw [← hae]; rfl) (sub.cons (by rw [← hbe]; rfl) (sub.cons rfl sub.nil))))) ?_ ?_
 ·subst hn2
  dsimp only [spF, smdF]
  have hm1 : ∀ {G : St}, Ent (many 3 (fun i => whoL nn.mp nn.w x (Q i) (SupS.nil x.ca) (SupS.nil x.ca)) ++ G) (many 3 (fun i => spW ⟨nn.a, nn.mp, nn.pb, nn.w, nn.rm, nn.rp, nn.rs, nn.re, hb⟩ x (Q i) (sw0 x) ph0) ++ G) := many_ent3 fun i _ G => by
   rw [spW0 rfl]
   unfold whoL
   simp only [List.cons_append, List.nil_append]
   refine Ent.cons (Ent.trans Ent.swap (Ent.cons (Ent.cons ?_)))
   exact Ent.rownil _ _
  have hm2 : Ent (many 3 (fun i => whoL nn.mp nn.w x (Q i) (SupS.nil x.ca) (SupS.nil x.ca)) ++ [pt (some ⟨gb, 0, none⟩) (Blk 25 [.int .i64 x.w, .int .i64 x.c, .int .i64 x.wd, .int .i64 x.sl, .int .i64 x.ca, .int .i64 x.ba]), Old w]) (many 3 (fun i => spW ⟨nn.a, nn.mp, nn.pb, nn.w, nn.rm, nn.rp, nn.rs, nn.re, hb⟩ x (Q i) (sw0 x) ph0) ++ [Old w]) :=
   Ent.trans hm1 (Ent.app Ent.drop)
  rw [show hnV (fun _ => ph0) (fun _ => sw0 x) = #[.pointer none, .pointer none, .pointer none, .pointer none, .pointer none, .pointer none, .pointer none, .pointer none, .pointer none, .pointer none, .pointer none, .pointer none, .slice none 0 0, .slice none 0 0, .slice none 0 0, .int .i64 0, .int .i64 0, .int .i64 0].toList from rfl]
  repeat (first | exact hm2 | (refine Ent.take1 ?_) | (refine Ent.trans Ent.drop ?_))
 rintro ⟨⟨i, m, ws, hs⟩, hi, hok⟩
 dsimp only at hi hok ⊢
 refine go ?_
 refine Cx.ifp rfl (fun h => ?_) (fun h => ?_)
 ·have hik : i < xs.length := by omega
  have hg : (ints xs)[i]? = some (.int .i64 xs[i]) := by simp [ints]
  obtain ⟨b0, o, rfl, _⟩ := (hRd [Old w] (Ent.refl _)).at3 hg
  have hat : ∀ L, Ent L [Old w] → Has L b0 (o + i * 1) [.int .i64 xs[i]] := fun L hL => by
   obtain ⟨_, _, e, h⟩ := (hRd L hL).at3 hg
   simp only [Option.some.injEq, Addr.mk.injEq, and_true] at e
   obtain ⟨rfl, rfl⟩ := e
   simpa using h
  refine go ?_
  refine Cx.ordc rfl kr_ ?_
  refine ge ?_
  refine Ev.ldH kr_ rfl rfl (hat _ (by dsimp only [spF]; exact entm)) rfl ?_
  refine ge ?_
  refine Ev.cakH kr_ rfl rfl (number xs[i] 3 (by omega) (by omega)) ?_
  refine ge ?_
  refine Ev.ldH kr_ rfl rfl (hat _ (by dsimp only [spF]; exact entm)) rfl ?_
  refine ge ?_
  refine Ev.cakH kr_ rfl rfl (number (IntKind.i64.wrap (Int.tdiv xs[i] 3)) 280 (by omega) (by omega)) ?_
  refine ge ?_
  obtain ⟨who, hwho, hw3⟩ : ∃ who : Nat, xs[i] % 3 = who ∧ who < 3 := by
   have h1 := Int.emod_nonneg xs[i] (show (3 : Int) ≠ 0 by omega)
   have h2 := Int.emod_lt_of_pos xs[i] (show (0 : Int) < 3 by omega)
   exact ⟨(xs[i] % 3).toNat, by omega, by omega⟩
  obtain ⟨d, hd, hd3⟩ : ∃ d : Nat, IntKind.i64.wrap (Int.tdiv xs[i] 3) % 280 = d ∧ d < 280 := by
   have h1 := Int.emod_nonneg (IntKind.i64.wrap (Int.tdiv xs[i] 3)) (show (280 : Int) ≠ 0 by omega)
   have h2 := Int.emod_lt_of_pos (IntKind.i64.wrap (Int.tdiv xs[i] 3)) (show (0 : Int) < 280 by omega)
   exact ⟨(IntKind.i64.wrap (Int.tdiv xs[i] 3) % 280).toNat, by omega, by omega⟩
  rw [hwho, hd]
  refine Ev.caH kr_ rfl rfl (goesD (x := x) (n := n2) (r := r) (r2 := r2) (c := c) (c2 := c2) (Q := Q) (m := m) (ws := ws) (hs := hs) (i := who) (v := d) (T := i) hx (by omega) (by omega) hw3 hok hd3) (Pres.deps kr_) ?_
  rintro v' L' ⟨rfl, m', ws', hs', hok', rfl⟩
  refine ge ?_
  refine Ev.caH kr_ rfl rfl (spSame (x := x) (n := n2) (r := r) (r2 := r2) (c := c) (c2 := c2) (Q := Q) (m := m') (ws := ws') (hs := hs') (T := i + 1) (by omega) (by omega) hok') (Pres.deps kr_) ?_
  rintro v' L' ⟨rfl, rfl⟩
  refine ge ?_
  refine go ?_
  rw [w64 (n := (i : Int) + 1) (by omega) (by omega)]
  refine Klp.nm ⟨(i + 1, m', ws', hs'), (by dsimp only; omega), hok'⟩ (sub.cons rfl (sub.cons rfl (sub.cons rfl (sub.cons rfl (sub.cons rfl sub.nil))))) (Ent.refl _) (by dsimp only; omega)
 ·have hlen := hok.hl
  have hxl := hx.len_le
  have hkk := hx.pool (n := m.ws.length) (by omega) (by omega)
  obtain ⟨P, hI⟩ := hok.i
  have hlk : (listK x.pool m).length ≤ 4096 := by
   rw [list_pool hI.pool]
   have := length_nodup x.c P hI.pool.nd hI.pool.c.mem
   omega
  dsimp only [spF]
  refine go ?_
  refine Cx.ordc rfl kr_ ?_
  refine ge ?_
  iterate 7 (refine Ev.bring 1 rfl ?_; refine ge ?_)
  refine Ev.caH kr_ rfl rfl (stackList (sb := n2.pb) (mp := n2.mp) (k := x.pool) (m := m) hkk) (.keep (fun v L' ⟨_, _, _, e⟩ => by subst e; exact Has.cell rfl) (.keep (fun v L' ⟨_, _, _, e⟩ => by subst e; exact Has.cell rfl) (.dep rfl .nil))) ?_
  rintro v' L' ⟨ro, co, rfl, rfl⟩
  refine ge ?_
  refine Ev.caH kr_ rfl rfl (refStackList (sb := n2.rp) (rm := n2.rm) (k := x.pool) (m := m) hkk) (Pres.deps kr_) ?_
  rintro v' L' ⟨ro2, co2, rfl, rfl⟩
  refine ge ?_
  refine Ev.cakH kr_ rfl rfl (sameIntsS (xs := listK x.pool m) (ys := listK x.pool m) (a := ro) (b := ro2) (by omega)) ?_
  rw [decide_eq_true rfl]
  refine ge ?_
  refine go ?_
  exact Kr.one (.inr rfl) rfl (Ent.refl _) ⟨rfl, entm⟩
end
end Go.Proofs.YtggnbdeokmdjbaaGreat
