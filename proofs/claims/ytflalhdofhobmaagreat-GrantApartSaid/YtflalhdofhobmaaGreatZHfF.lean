/-
  Parts of the proof, merged: what the statement leans on.
-/
import Derived.Deep.Slices
import Derived.Deep.Fields
import Derived.Test.YtflalhdofhobmaaGreatZHfE
/-
  Many parts of one kind.
-/
set_option linter.unusedVariables false
set_option linter.unusedSimpArgs false
namespace Go.Proofs.YtflalhdofhobmaaGreat
open Go
attribute [local irreducible] Sx Cx Rx Fx Krg Ksq Kbl Klp Kr
theorem holds_perm {L M : St} (p : L.Perm M) : ∀ {h : Hp}, holds L h → holds M h := by
  induction p with
  | nil => exact fun H => H
  | cons x _ ih => exact fun H => holds_cons (fun _ => ih) H
  | swap x y l => exact fun H => holds_swap H
  | trans _ _ ih1 ih2 => exact fun H => ih2 (ih1 H)
theorem Ent.perm {L M : St} (p : L.Perm M) : Ent L M := .of fun _ => holds_perm p
def many (n : Nat) (f : Nat → St) : St := (List.range n).flatMap f
def updS (f : Nat → St) (i : Nat) (s : St) : Nat → St := fun j => if j = i then s else f j
theorem Ent.deep {M N G : St} : Ent (N ++ (M ++ G)) (M ++ (N ++ G)) := by
  rw [← List.append_assoc, ← List.append_assoc]; exact .perm (List.perm_append_comm.append_right _)
theorem many_zero (f : Nat → St) : many 0 f = [] := rfl
theorem many_succ (n : Nat) (f : Nat → St) : many (n + 1) f = many n f ++ f n := by simp [many, List.range_succ]
theorem many_congr {n : Nat} {f g : Nat → St} (h : ∀ i, i < n → f i = g i) : many n f = many n g := by
  induction n with
  | zero => rfl
  | succ n ih => rw [many_succ, many_succ, ih fun i hi => h i (by omega), h n (by omega)]
theorem updS_same (f : Nat → St) (i : Nat) (s : St) : updS f i s i = s := if_pos rfl
theorem updS_ne (f : Nat → St) {i j : Nat} (s : St) (h : j ≠ i) : updS f i s j = f j := if_neg h
theorem updS_updS (f : Nat → St) (i : Nat) (s t : St) : updS (updS f i s) i t = updS f i t := by
  funext j; unfold updS; split <;> rfl
theorem many_perm {n : Nat} {f : Nat → St} : ∀ {i : Nat}, i < n → (many n f).Perm (f i ++ many n (updS f i [])) := by
  induction n with
  | zero => intro i h; omega
  | succ n ih =>
    intro i h
    rw [many_succ, many_succ]
    by_cases e : i = n
    · subst e
      rw [updS_same, List.append_nil, many_congr (g := f) fun j hj => updS_ne f [] (by omega)]
      exact List.perm_append_comm
    · rw [updS_ne f [] (show n ≠ i by omega), ← List.append_assoc]
      exact (ih (by omega)).append_right _
/-- One of them ahead. -/
theorem Ent.one {n i : Nat} {f : Nat → St} {G : St} (h : i < n) : Ent (many n f ++ G) (f i ++ (many n (updS f i []) ++ G)) := by
  rw [← List.append_assoc]; exact .perm ((many_perm h).append_right _)
theorem Ent.oneBack {n i : Nat} {f : Nat → St} {s : St} {G : St} (h : i < n) : Ent (s ++ (many n (updS f i []) ++ G)) (many n (updS f i s) ++ G) := by
  have := (many_perm (f := updS f i s) h).append_right G
  rw [updS_same, updS_updS, List.append_assoc] at this
  exact .perm this.symm
theorem Ent.app {A B X : St} (h : Ent A B) : Ent (X ++ A) (X ++ B) := by
  induction X with
  | nil => exact h
  | cons P X ih => exact Ent.cons ih
theorem Ent.dropA {A B : St} : Ent (A ++ B) B := by
  induction A with
  | nil => exact Ent.refl _
  | cons P X ih => exact Ent.trans Ent.drop ih
/-- Where the many stand in a list. -/
class Many (L : St) (n : outParam Nat) (f : outParam (Nat → St)) (N G : outParam St) : Prop where
  eq : L = N ++ (many n f ++ G)
instance (priority := high) Many.here (n : Nat) (f : Nat → St) (G : St) : Many (many n f ++ G) n f [] G := ⟨rfl⟩
instance Many.there (P : As) (L : St) (n : Nat) (f : Nat → St) (N G : St) [t : Many L n f N G] : Many (P :: L) n f (P :: N) G := ⟨by rw [t.eq]; rfl⟩
/-- One of them ahead of all; back. -/
theorem Ent.ith {L : St} {n : Nat} {f : Nat → St} {N G : St} [t : Many L n f N G] (i : Nat) (h : i < n) : Ent L (f i ++ (N ++ (many n (updS f i []) ++ G))) := by
  rw [t.eq]
  exact Ent.trans Ent.deep (Ent.trans (Ent.one h) (Ent.app Ent.deep))
theorem entm {L M : St} (h : Ent L M := by repeat (first | exact Ent.refl _ | (refine Ent.take1 ?_) | (refine Ent.trans Ent.drop ?_) | (refine Ent.trans Ent.dropA ?_))) : Ent L M := h
/-- Addresses, one for each. -/
def ptrs (n : Nat) (U : Nat → Nat) : List Value := (List.range n).map fun i => .pointer (some ⟨U i, 0, none⟩)
theorem ptrs_succ (n : Nat) (U : Nat → Nat) : ptrs (n + 1) U = ptrs n U ++ [.pointer (some ⟨U n, 0, none⟩)] := by simp [ptrs, List.range_succ]
theorem ptrs_get {n i : Nat} {U : Nat → Nat} (h : i < n) : (ptrs n U)[i]? = some (.pointer (some ⟨U i, 0, none⟩)) := by simp [ptrs, h]
theorem ptrs_congr {n : Nat} {U V : Nat → Nat} (h : ∀ i, i < n → U i = V i) : ptrs n U = ptrs n V := by
  unfold ptrs
  refine List.map_congr_left fun i hi => ?_
  rw [h i (List.mem_range.1 hi)]
/-- Where a worker's supplies stand: the program's, its pool; the document's. -/
structure Who where
  u : Nat
  pb : Nat
  s : Nat
section
variable {L F G : St}
def whoL (mp w : Nat) (x : Cn) (q : Who) (S S2 : SupS) : St :=
  [pt (some ⟨q.u, 0, none⟩) (SupO mp q.pb x S), pt (some ⟨q.pb, 0, none⟩) (SkO mp x.pool), pt (some ⟨q.s, 0, none⟩) (RSupO w S2)]
end
end Go.Proofs.YtflalhdofhobmaaGreat

/-
  grant's statements: the memory, the workers' supplies, the document's beside.
-/
set_option linter.unusedVariables false
set_option linter.unusedSimpArgs false
namespace Go.Proofs.YtflalhdofhobmaaGreat
open Go
attribute [local irreducible] Sx Cx Rx Fx Krg Ksq Kbl Klp Kr
section
variable {L F G : St}
/-- All spare, all in the pool. -/
def allM (x : Cn) : Mm := fillM x.spare (poolM x)
theorem allM_len (x : Cn) : (allM x).ws.length = x.len := by unfold allM; rw [fillM_len, poolM_len]
theorem zeroM_at (x : Cn) (a : Nat) : (zeroM x).at_ a = 0 := by
  unfold zeroM Mm.at_
  rw [List.getD_eq_getElem?_getD, List.getElem?_replicate]
  split <;> rfl
theorem allM_at {x : Cn} (hx : x.ok) {a : Nat} (h0 : a ≠ 0) (h1 : a ≠ 1) (hs : ¬ (x.slot ≤ a ∧ a < x.slot + x.sl)) (hl : ¬ (x.link ≤ a ∧ a < x.link + x.c)) : (allM x).at_ a = 0 := by
  have hlen := hx.len_le
  unfold allM
  rw [(fill_pool (hx.spare (n := x.len) (Nat.le_refl _) hlen) (poolM_len x)).2 a h1 (fun j hj => by have : j < x.sl := hj; show a ≠ x.slot + j; omega)]
  unfold poolM
  rw [(fill_pool (hx.pool (n := x.len) (Nat.le_refl _) hlen) (zeroM_len x)).2 a h0 (fun j hj => by have : j < x.c := hj; show a ≠ x.link + j; omega)]
  exact zeroM_at x a
theorem allM_ok {x : Cn} (hx : x.ok) : (allM x).ok := by
  obtain ⟨b1, b2, b3, b4, b5, b6, b7⟩ := hx.b
  refine fillM_ok (fillM_ok (fun w hw => ?_) (by show x.c ≤ 4096; omega)) (by show x.sl ≤ 4096; omega)
  simp only [zeroM] at hw; rw [List.eq_of_mem_replicate hw]; omega
theorem allM_pool {x : Cn} (hx : x.ok) : Pool x.pool (allM x) (iotaI x.c) := by
  have hlen := hx.len_le
  have hsp := hx.spare (n := x.len) (Nat.le_refl _) hlen
  have h1 := (fill_pool (hx.pool (n := x.len) (Nat.le_refl _) hlen) (zeroM_len x)).1
  have h2 := (fill_pool hsp (poolM_len x)).2
  have g : x.slot + x.sl = x.link := by unfold Cn.slot Cn.link; omega
  have g3 : 3 ≤ x.slot := by unfold Cn.slot; omega
  unfold allM
  refine ⟨?_, h1.nd⟩
  rw [h2 _ (by show (0 : Nat) ≠ 1; omega) (fun j hj => by have : j < x.sl := hj; show 0 ≠ x.slot + j; omega)]
  refine h1.c.congr fun z hz => ?_
  have hz2 := h1.c.mem z hz
  rw [h2 _ (by show x.link + z.toNat ≠ 1; omega) (fun j hj => by have : j < x.sl := hj; show x.link + z.toNat ≠ x.slot + j; omega)]
  rfl
theorem allM_spare {x : Cn} (hx : x.ok) : Pool x.spare (allM x) (iotaI x.sl) := (fill_pool (hx.spare (n := x.len) (Nat.le_refl _) hx.len_le) (poolM_len x)).1
/-- Where all stands. -/
structure Hn where
  a : Nat
  mp : Nat
  ro : Nat
  sp : Nat
  g : Nat
  pb : Nat
  w : Nat
  rm : Nat
  rp : Nat
  rs : Nat
  re : Nat
abbrev grV (x : Cn) (n : Hn) (r r2 : Option Addr) (k c c2 : Nat) : List Value :=
  [.int .i64 x.w, .int .i64 x.c, .int .i64 x.wd, .int .i64 x.sl, .int .i64 x.ca, .int .i64 x.ba, .pointer (some ⟨n.mp, 0, none⟩), .pointer (some ⟨n.ro, 0, none⟩), .pointer (some ⟨n.g, 0, none⟩), .pointer (some ⟨n.pb, 0, none⟩), .slice r k c, .pointer (some ⟨n.w, 0, none⟩), .slice r2 k c2]
abbrev grF (x : Cn) (n : Hn) (r r2 : Option Addr) (k c c2 : Nat) (Q : Nat → Who) (S S2 : Nat → SupS) (m m2 : Mm) (G : St) : St :=
  pt (some ⟨n.a, 0, none⟩) (Blk 45 (grV x n r r2 k c c2)) :: pt r (Row 47 1 k c (ptrs k fun i => (Q i).u)) :: pt r2 (Row 81 1 k c2 (ptrs k fun i => (Q i).s)) ::
  pt (some ⟨n.mp, 0, none⟩) (MemO m) :: pt (some ⟨n.pb, 0, none⟩) (SkO n.mp x.pool) :: pt (some ⟨n.ro, 0, none⟩) (RoO n.mp n.sp x) :: pt (some ⟨n.sp, 0, none⟩) (SkO n.mp x.spare) :: pt (some ⟨n.g, 0, none⟩) (GrO n.mp x) ::
  pt (some ⟨n.w, 0, none⟩) (RWO x n.rm n.rp n.rs n.re) :: pt (some ⟨n.rm, 0, none⟩) (RMemO m2) :: pt (some ⟨n.rp, 0, none⟩) (RSkO n.rm x.pool) :: pt (some ⟨n.rs, 0, none⟩) (RSkO n.rm x.spare) :: pt (some ⟨n.re, 0, none⟩) (REpO x n.rm) ::
  (many k (fun i => whoL n.mp n.w x (Q i) (S i) (S2 i)) ++ G)
def updQ (Q : Nat → Who) (i : Nat) (q : Who) : Nat → Who := fun j => if j = i then q else Q j
set_option maxHeartbeats 4000000 in
theorem grMade {x : Cn} (hx : x.ok) : Fx Tryz.prog 14 [x.v] L (fun v L' => ∃ (n : Hn) (r r2 c c2 : Nat) (Q : Nat → Who), v = .pointer (some ⟨n.a, 0, none⟩) ∧
    L' = grF x n (some ⟨r, 0, none⟩) (some ⟨r2, 0, none⟩) 3 c c2 Q (fun _ => SupS.nil x.ca) (fun _ => SupS.nil x.ca) (allM x) (allM x) L) := by
  obtain ⟨b1, b2, b3, b4, b5, b6, b7⟩ := hx.b
  have hlen := hx.len_le
  have hl1 : 1 ≤ x.len := by unfold Cn.len; omega
  have hpl := poolM_len x
  have hzl := zeroM_len x
  have hal := allM_len x
  have hroot : x.root + x.sl = x.slot := by unfold Cn.root Cn.slot; omega
  have hslot : x.slot + x.sl = x.link := by unfold Cn.slot Cn.link; omega
  have hzr : zeroRt x (fillM x.spare (fillM x.pool (zeroM x))) x.sl = allM x := by
    refine zeroRt_same (m := allM x) (by rw [hal]; have : x.link ≤ x.len := by unfold Cn.link Cn.len; omega
                                         omega) (fun i hi => ?_) x.sl (Nat.le_refl _)
    exact allM_at hx (by unfold Cn.root; omega) (by unfold Cn.root; omega) (by omega) (by omega)
  refine Fx.mk Tryz.func14 k14 (Nat.le_of_ble_eq_true rfl) ?_
  dsimp only [c14, envOf, Nat.reduceAdd]
  refine Cx.sq ?_
  refine Cx.rg ?_
  refine Sx.bx rfl rfl fun g0 => ?_
  refine go ?_
  refine Sx.ca rfl (layLen (x.w : Int) x.c x.wd x.sl x.ca x.ba hx) ?_
  rintro v L' ⟨rfl, rfl⟩
  rw [x.lenC]
  refine go ?_
  refine Sx.ca rfl (cellsNew x.len hl1 hlen) ?_
  rintro v L' ⟨mp, rfl, rfl⟩
  refine go ?_
  refine Sx.ca rfl (chainNew (mp := mp) (m := zeroM x) hx (by omega)) ?_
  rintro v L' ⟨ch, pb, rfl, rfl⟩
  refine go ?_
  refine Sx.ca rfl (rootsNew (mp := mp) (m := zeroM x) hx (by omega)) ?_
  rintro v L' ⟨ro, sp, rfl, rfl⟩
  refine go ?_
  refine Sx.ca rfl (grantNew (mp := mp) (m := zeroM x) hx (by omega)) ?_
  rintro v L' ⟨g, rfl, rfl⟩
  refine go ?_
  refine Sx.ca rfl (chainPool (g := ch) (mp := mp) (sb := pb) (x := x)) ?_
  rintro v L' ⟨rfl, rfl⟩
  refine go ?_
  refine Sx.ca rfl (chainFill (g := ch) (mp := mp) (sb := pb) (x := x) (m := zeroM x) (hx.pool (by omega) (by omega))) ?_
  rintro v L' rfl
  refine go ?_
  refine Sx.ca rfl (rootsFill (g := ro) (mp := mp) (sb := sp) (x := x) (m := fillM x.pool (zeroM x)) hx (by rw [fillM_len]; omega)) ?_
  rintro v L' rfl
  rw [hzr]
  refine go ?_
  refine Cx.ordc rfl (by kernel_rfl) ?_
  refine ge ?_
  refine Ev.cakH (by kernel_rfl) rfl rfl (chainPool (g := ch) (mp := mp) (sb := pb) (x := x)) ?_
  refine ge ?_
  refine Ev.caH (by kernel_rfl) rfl rfl (refWNew hx) (.dep rfl (.dep rfl (.keep (fun v L' ⟨_, _, _, _, _, _, e⟩ => by subst e; exact Has.blk) .nil))) ?_
  rintro v L' ⟨w, rm, rp, rs, re, rfl, rfl⟩
  refine ge ?_
  refine Ev.bxH (by kernel_rfl) rfl rfl rfl (Pres.deps (by kernel_rfl)) fun a => ?_
  refine ge ?_
  refine go ?_
  refine Cx.lp (α := {p : Nat × (Nat → Who) × (Option Addr × Nat) × (Option Addr × Nat) // p.1 ≤ 3})
    (fun p => [(1, .pointer (some ⟨g0, 0, none⟩)), (3, .pointer (some ⟨mp, 0, none⟩)), (11, .pointer (some ⟨a, 0, none⟩)), (12, .int .i64 (p.1.1 : Nat))])
    (fun p => pt (some ⟨g0, 0, none⟩) (Blk 24 x.l) :: grF x ⟨a, mp, ro, sp, g, pb, w, rm, rp, rs, re⟩ p.1.2.2.1.1 p.1.2.2.2.1 p.1.1 p.1.2.2.1.2 p.1.2.2.2.2 p.1.2.1 (fun _ => SupS.nil x.ca) (fun _ => SupS.nil x.ca) (allM x) (allM x) L)
    (fun p => 3 - p.1.1) ⟨(0, fun _ => ⟨0, 0, 0⟩, (none, 0), (none, 0)), Nat.zero_le _⟩ (sub.cons rfl (sub.cons rfl (sub.cons rfl (sub.cons rfl sub.nil)))) ?_ ?_
  · dsimp only [grF]
    rw [many_zero]
    refine Ent.trans (Ent.take (a := some ⟨g0, 0, none⟩)) (Ent.cons ?_)
    refine Ent.trans (Ent.take (a := some ⟨a, 0, none⟩)) (Ent.cons ?_)
    refine Ent.trans (Ent.rownil 81 1) (Ent.trans (Ent.rownil 47 1) (Ent.cons (Ent.cons ?_)))
    simp only [List.nil_append]
    rw [show allM x = fillM x.spare (fillM x.pool (zeroM x)) from rfl]
    exact ent
  rintro ⟨⟨j, Q, ⟨r, c⟩, ⟨r2, c2⟩⟩, hj⟩
  dsimp only [grF] at hj ⊢
  refine go ?_
  refine Cx.ifp rfl (fun h => ?_) (fun h => ?_)
  · refine go ?_
    refine Sx.ca rfl (supNew (mp := mp) (m := allM x) hx (by omega)) ?_
    rintro v L' ⟨u, pb2, rfl, rfl⟩
    refine go ?_
    refine Sx.bs (sz := 1) rfl rfl fun q => ?_
    refine Sx.ap (ra := r) rfl rfl (Rd.row (b := q) (E := 47) (cap := 1) rfl) rfl (by simp [maxLen]; omega) (by omega) fun r' c' hc => ?_
    refine go ?_
    refine Cx.orde rfl (by kernel_rfl) ?_
    refine ge ?_
    refine Ev.caH (by kernel_rfl) rfl rfl (refSupply (w := w) (rm := rm) (rp := rp) (rs := rs) (re := re) (x := x)) (.dep rfl (.keep (fun v L' ⟨_, _, _, _, e⟩ => by subst e; exact Has.cell rfl) .nil)) ?_
    rintro v L' ⟨s, st, lm, rfl, rfl⟩
    refine ge ?_
    refine Ev.bsH (sz := 1) (by kernel_rfl) rfl rfl rfl (.dep rfl (.keep (fun v L' ⟨_, _, e⟩ => by subst e; exact Has.cell rfl) .nil)) fun q2 => ?_
    refine ge ?_
    refine Ev.apH (ra := r2) (by kernel_rfl) rfl rfl rfl (Rd.row (b := q2) (E := 81) (cap := 1) rfl) rfl (by simp [maxLen]; omega) (by omega) (Pres.deps (by kernel_rfl)) fun r2' c2' hc2 hk2 => ?_
    refine ge ?_
    refine Ev.stbH (b := a) (by kernel_rfl) rfl rfl rfl rfl rfl (by rfl) rfl (Pres.deps (by kernel_rfl)) ?_
    refine ge ?_
    refine go ?_
    rw [w64 (n := (j : Int) + 1) (by omega) (by omega)]
    refine Klp.nm ⟨(j + 1, updQ Q j ⟨u, pb2, s⟩, (r', c'), (r2', c2')), by dsimp only; omega⟩ (sub.cons rfl (sub.cons rfl (sub.cons rfl (sub.cons rfl sub.nil)))) ?_ (by dsimp only; omega)
    have eu : ptrs j (fun i => (updQ Q j ⟨u, pb2, s⟩ i).u) = ptrs j fun i => (Q i).u := ptrs_congr fun i hi => by simp [updQ, show i ≠ j by omega]
    have es : ptrs j (fun i => (updQ Q j ⟨u, pb2, s⟩ i).s) = ptrs j fun i => (Q i).s := ptrs_congr fun i hi => by simp [updQ, show i ≠ j by omega]
    have em : many j (fun i => whoL mp w x (updQ Q j ⟨u, pb2, s⟩ i) (SupS.nil x.ca) (SupS.nil x.ca)) = many j fun i => whoL mp w x (Q i) (SupS.nil x.ca) (SupS.nil x.ca) := many_congr fun i hi => by simp [updQ, show i ≠ j by omega]
    dsimp only [grF]
    rw [ptrs_succ, ptrs_succ, many_succ, eu, es, em]
    simp only [updQ, if_true, List.append_assoc]
    refine Ent.trans (Ent.take (a := some ⟨g0, 0, none⟩)) (Ent.cons ?_)
    refine Ent.trans (RSupO.close (a := some ⟨s, 0, none⟩) (st := st) (lm := lm) (w := w) (SupS.nil x.ca) rfl rfl rfl) ?_
    iterate 13 (refine Ent.take1 ?_)
    refine Ent.trans ?_ (Ent.deep (N := whoL mp w x ⟨u, pb2, s⟩ (SupS.nil x.ca) (SupS.nil x.ca)))
    simp only [whoL, List.cons_append, List.nil_append]
    exact ent
  · obtain rfl : j = 3 := by omega
    refine Cx.rowkey (a := r) fun _ _ _ hk1 => ?_
    refine Cx.rowkey (a := r2) fun _ _ _ hk2 => ?_
    obtain ⟨ra, rfl⟩ : ∃ g, r = some ⟨g, 0, none⟩ := by
      rcases hk1 with h | h
      · omega
      · exact h
    obtain ⟨rb, rfl⟩ : ∃ g, r2 = some ⟨g, 0, none⟩ := by
      rcases hk2 with h | h
      · omega
      · exact h
    refine go ?_
    exact Kr.one (.inr rfl) rfl Ent.drop ⟨⟨a, mp, ro, sp, g, pb, w, rm, rp, rs, re⟩, ra, rb, c, c2, Q, rfl, rfl⟩
end
end Go.Proofs.YtflalhdofhobmaaGreat

/-
  An Alloc alone that takes a chunk, or finds none.
-/
set_option linter.unusedVariables false
set_option linter.unusedSimpArgs false
namespace Go.Proofs.YtflalhdofhobmaaGreat
/-- Words are nought, one by one. -/
def clrM (m : Mm) (a : Nat) : Nat → Mm
  | 0 => m
  | i + 1 => (clrM m a i).put (a + i) 0
theorem clrM_len (m : Mm) (a : Nat) : ∀ i, (clrM m a i).ws.length = m.ws.length
  | 0 => rfl
  | i + 1 => by show ((clrM m a i).put (a + i) 0).ws.length = _; rw [Mm.len_put]; exact clrM_len m a i
theorem clrM_ok {m : Mm} (h : m.ok) (a : Nat) : ∀ i, (clrM m a i).ok
  | 0 => h
  | i + 1 => Mm.ok_put (clrM_ok h a i) (by omega)
theorem clrM_at {m : Mm} {a : Nat} : ∀ {i : Nat}, a + i ≤ m.ws.length → ∀ b, (clrM m a i).at_ b = if a ≤ b ∧ b < a + i then 0 else m.at_ b
  | 0, _, b => by rw [if_neg (by omega)]; rfl
  | i + 1, h, b => by
    show ((clrM m a i).put (a + i) 0).at_ b = _
    rw [Mm.at_put _ (by rw [clrM_len]; omega), clrM_at (by omega) b]
    by_cases h1 : a + i = b
    · rw [if_pos h1, if_pos (by omega)]
    · rw [if_neg h1]
      by_cases h2 : a ≤ b ∧ b < a + i
      · rw [if_pos h2, if_pos (by omega)]
      · rw [if_neg h2, if_neg (by omega)]
section
variable {x : Cn} {slot : Nat} {gen : Int} {n : Nat} {m : Mm} {S : SupS}
def TakeS.ask1 : TakeS := ⟨1, 0, false, -1, PopS.init 1, false⟩
theorem takeInit_ask (hba : x.ba = 1) (hxs : S.xs = []) (hlm : S.lm.size = 0) : takeInit x.ba S = (S, TakeS.ask1) := by
  unfold takeInit keepT
  rw [if_pos hxs]
  dsimp only
  rw [if_neg (by omega), hba]
  rfl
/-- What the first look comes to where there is nothing left of the newest chunk. -/
theorem al_first (hba : x.ba = 1) (hxs : S.xs = []) (hlm : S.lm.size = 0) (hlv : (rtOf (m.at_ (x.root + slot))).live gen) (need : Nat) (hneed : roundS (rtOf (m.at_ (x.root + slot))).cl n = need) (hf : ¬ (2 ≤ (rtOf (m.at_ (x.root + slot))).mrk ∧ fitsS x.wd (rtOf (m.at_ (x.root + slot))).off need)) :
    alIt (x.al slot gen n) 1 (alR m S) = (m.tick, S, ⟨2, ⟨1, -1, 0, true, false, need, 0, m.at_ (x.root + slot), 0, Hd.zero⟩, TakeS.ask1, gNone, false⟩) := by
  show (m.tick, alSeen (x.al slot gen n) S { AlV.init with cnt := 1, was := m.at_ (x.root + slot) } TakeS.zero) = _
  unfold alSeen
  rw [if_pos hlv]
  dsimp only
  rw [hneed, if_neg hf, if_neg (by show ¬ (0 : Int) ≤ -1; omega), if_neg (by show ¬ false = true; decide), takeInit_ask hba hxs hlm, if_neg (by show ¬ false = true; decide)]
  rfl
/-- The pool is empty: there is none. -/
theorem al_none (hx : x.ok) (hl : m.ws.length = x.len) (hm : m.ok) (hsl : slot < x.sl) (hk : (rtOf (m.at_ (x.root + slot))).ok) (hs : S.xs.length + S.lm.size ≤ 1000) (hm0 : 0 ≤ S.most) (hm2 : S.most ≤ 64) (hba : x.ba = 1) (hxs : S.xs = []) (hlm : S.lm.size = 0)
    (hlv : (rtOf (m.at_ (x.root + slot))).live gen) (need : Nat) (hneed : roundS (rtOf (m.at_ (x.root + slot))).cl n = need) (hf : ¬ (2 ≤ (rtOf (m.at_ (x.root + slot))).mrk ∧ fitsS x.wd (rtOf (m.at_ (x.root + slot))).off need)) (hp : Pool x.pool m []) :
    ∃ t, alIt (x.al slot gen n) 3 (alR m S) = (m.tick.tick.tick, S, ⟨6, ⟨3, -1, 0, true, true, need, 3, m.at_ (x.root + slot), 6, Hd.zero⟩, t, PushS.init [], true⟩) ∧ AlRun x (x.al slot gen n) (alR m S) 3 := by
  have hwl := Mm.at_lt hm (x.root + slot)
  have e1 := al_first (x := x) (slot := slot) (gen := gen) (n := n) (m := m) (S := S) hba hxs hlm hlv need hneed hf
  obtain ⟨W, hW⟩ : ∃ W, m.at_ (x.root + slot) = W := ⟨_, rfl⟩
  have hk' := hk
  rw [hW] at hk hlv hneed hf hwl e1 ⊢
  have hx0 : (S.xs.length : Int) ≤ S.most := by rw [hxs]; exact hm0
  obtain ⟨Q, hQ⟩ : ∃ Q : PopS, Q = ⟨min (max 1 1) 8, 0, 0, m.tick.at_ x.pool.head, [], true⟩ := ⟨_, rfl⟩
  have hps : popStep x.pool m.tick (PopS.init 1) = (Q, m.tick.tick) := by
    have hp1 : Pool x.pool m.tick [] := ⟨hp.c.congr fun _ _ => rfl, hp.nd⟩
    rw [pop_none hp1 1, hQ]
  have hts : takeStep x.pool x.ba m.tick S TakeS.ask1 = (m.tick.tick, S, ⟨1, 0, false, -1, Q, true⟩) := by
    unfold takeStep TakeS.ask1
    simp only [Bool.false_eq_true, if_false]
    rw [hps]
    dsimp only
    rw [if_pos (by rw [hQ])]
    unfold popped
    rw [show (Q.got : List Int) = [] by rw [hQ]]
  have e2 : alIt (x.al slot gen n) 2 (alR m S) = (m.tick.tick, S, ⟨0, ⟨2, -1, 0, true, false, need, 0, W, 0, Hd.zero⟩, ⟨1, 0, false, -1, Q, true⟩, gNone, false⟩) := by
    show alStep (x.al slot gen n) (alIt (x.al slot gen n) 1 (alR m S)).1 (alIt (x.al slot gen n) 1 (alR m S)).2.1 (alIt (x.al slot gen n) 1 (alR m S)).2.2 = _
    rw [e1]
    unfold alStep
    simp only [Bool.false_eq_true, if_false]
    rw [hts]
    rfl
  have e3 : alIt (x.al slot gen n) 3 (alR m S) = (m.tick.tick.tick, S, ⟨6, ⟨3, -1, 0, true, true, need, 3, W, 6, Hd.zero⟩, ⟨1, 0, false, -1, Q, true⟩, PushS.init [], true⟩) := by
    show alStep (x.al slot gen n) (alIt (x.al slot gen n) 2 (alR m S)).1 (alIt (x.al slot gen n) 2 (alR m S)).2.1 (alIt (x.al slot gen n) 2 (alR m S)).2.2 = _
    rw [e2]
    unfold alStep
    simp only [Bool.false_eq_true, if_false]
    rw [show m.tick.tick.at_ (x.root + slot) = W from hW]
    unfold alSeen
    rw [if_pos hlv]
    dsimp only
    rw [hneed, if_neg hf, if_neg (by omega), if_pos rfl, alClose_none rfl hx0]
  refine ⟨_, e3, fun j hj => ?_, fun j hj => ?_, by rw [e3]⟩
  · rcases (show j = 0 ∨ j = 1 ∨ j = 2 ∨ j = 3 by omega) with rfl | rfl | rfl | rfl
    · exact good0 hl hm hk' hs hm0 hm2
    · rw [e1]
      exact ⟨hl, hm, hk', hs, hm0, hm2, fun _ => ⟨by show 2 ≤ 6; omega, by show 1 ≤ 1000000; omega, by show (-1 : Int) ≤ -1; omega, by show (-1 : Int) < x.c; omega, hk, (fun h => by cases h), (fun h => by cases h), (fun h => by rcases h with h | h | h <;> cases h), (fun h => by cases h), fun _ => ⟨by show 1 ≤ 1; omega, fun _ => ⟨rfl, rfl⟩⟩⟩⟩
    · rw [e2]
      exact ⟨hl, hm, hk', hs, hm0, hm2, fun _ => ⟨by show 0 ≤ 6; omega, by show 2 ≤ 1000000; omega, by show (-1 : Int) ≤ -1; omega, by show (-1 : Int) < x.c; omega, hk, (fun h => by cases h), (fun h => by cases h), (fun h => by rcases h with h | h | h <;> cases h), (fun h => by cases h), (fun h => by cases h)⟩⟩
    · rw [e3]
      exact ⟨hl, hm, hk', hs, hm0, hm2, fun h => (by cases h)⟩
  · rcases (show j = 0 ∨ j = 1 ∨ j = 2 by omega) with rfl | rfl | rfl
    · rfl
    · rw [e1]
    · rw [e2]
end
end Go.Proofs.YtflalhdofhobmaaGreat

/-
  An Alloc alone that takes a chunk out of the pool.
-/
set_option linter.unusedVariables false
set_option linter.unusedSimpArgs false
namespace Go.Proofs.YtflalhdofhobmaaGreat
section
variable {x : Cn} {slot : Nat} {gen : Int} {n : Nat} {m : Mm} {S : SupS}
theorem ok_mid {a need cnt was : Nat} {hand : Int} {zat : Nat} {t : TakeS} (ha : a = 3 ∨ a = 4 ∨ a = 5) (hc : cnt ≤ 1000000) (h1 : 0 ≤ hand) (h2 : hand < x.c) (hr : (rtOf was).ok) (hn1 : 1 ≤ need) (hn2 : need ≤ x.wd) (hz : a = 3 → zat < x.wd) :
    AlOk x ⟨a, ⟨cnt, hand, zat, true, false, need, 0, was, 0, Hd.zero⟩, t, gNone, false⟩ :=
  ⟨by show a ≤ 6; omega, hc, by show -1 ≤ hand; omega, h2, hr, fun h => absurd (show a = 1 from h) (by omega), fun _ => ⟨hn1, hn2⟩, fun _ => h1, hz, fun h => absurd (show a = 2 from h) (by omega)⟩
set_option maxHeartbeats 1000000 in
theorem al_new (hx : x.ok) (hl : m.ws.length = x.len) (hm : m.ok) (hsl : slot < x.sl) (hk : (rtOf (m.at_ (x.root + slot))).ok) (hs : S.xs.length + S.lm.size ≤ 1000) (hm0 : 0 ≤ S.most) (hm2 : S.most ≤ 64) (hba : x.ba = 1) (hxs : S.xs = []) (hlm : S.lm.size = 0) (hw8 : x.wd % 8 = 0) (hn : 1 ≤ n) (hnw : n ≤ x.wd)
    (hlv : (rtOf (m.at_ (x.root + slot))).live gen) (need : Nat) (hneed : roundS (rtOf (m.at_ (x.root + slot))).cl n = need) (hf : ¬ (2 ≤ (rtOf (m.at_ (x.root + slot))).mrk ∧ fitsS x.wd (rtOf (m.at_ (x.root + slot))).off need)) (y : Nat) (l : List Int) (hp : Pool x.pool m ((y : Int) :: l)) :
    ∃ M t, alIt (x.al slot gen n) (x.wd + 6) (alR m S) = (M, S, ⟨6, ⟨x.wd + 6, -1, x.wd, true, true, need, x.wd + 6, m.at_ (x.root + slot), 0, ⟨slot, gen, y, 0, n⟩⟩, t, PushS.init [], true⟩) ∧ AlRun x (x.al slot gen n) (alR m S) (x.wd + 6) ∧
      M.ws.length = x.len ∧ M.ok ∧ Pool x.pool M l ∧ M.at_ (x.root + slot) = Rt.w ⟨(rtOf (m.at_ (x.root + slot))).gen, 2 + y, (rtOf (m.at_ (x.root + slot))).cl, afterS x.wd need⟩ ∧
      (∀ a, a ≠ 0 → a ≠ x.link + y → a ≠ x.root + slot → ¬ (x.word + y * x.wd ≤ a ∧ a < x.word + y * x.wd + x.wd) → M.at_ a = m.at_ a) ∧ (∀ a, x.word + y * x.wd ≤ a → a < x.word + y * x.wd + x.wd → M.at_ a = 0) ∧
      (∀ j, j < 4 → (alIt (x.al slot gen n) j (alR m S)).2.2.v.hand = -1 ∧ (alIt (x.al slot gen n) j (alR m S)).2.1 = S ∧ Pool x.pool (alIt (x.al slot gen n) j (alR m S)).1 ((y : Int) :: l)) ∧
      (∀ j, 4 ≤ j → j < x.wd + 6 → (alIt (x.al slot gen n) j (alR m S)).2.2.v.hand = y ∧ (alIt (x.al slot gen n) j (alR m S)).2.1 = S ∧ Pool x.pool (alIt (x.al slot gen n) j (alR m S)).1 l) ∧
      (∀ j, j < x.wd + 6 → (alIt (x.al slot gen n) j (alR m S)).1.at_ (x.root + slot) = m.at_ (x.root + slot)) ∧
      (∀ j, 1 ≤ j → j < 4 → (alIt (x.al slot gen n) j (alR m S)).2.2.at_ = 2 ∧ (alIt (x.al slot gen n) j (alR m S)).2.2.t.at_ = 1 ∧ (alIt (x.al slot gen n) j (alR m S)).2.2.t.q.ok x.pool) ∧
      (∀ j, 4 ≤ j → j < x.wd + 5 → (alIt (x.al slot gen n) j (alR m S)).2.2.at_ = 3 ∨ (alIt (x.al slot gen n) j (alR m S)).2.2.at_ = 4) ∧
      (∃ T, (alIt (x.al slot gen n) (x.wd + 5) (alR m S)).2.2 = ⟨5, ⟨x.wd + 5, y, x.wd, true, false, need, 0, m.at_ (x.root + slot), 0, Hd.zero⟩, T, gNone, false⟩) ∧
      (∀ j, j < x.wd + 6 → RefOk x.pool (alIt (x.al slot gen n) j (alR m S)).2.2 ∧ (alIt (x.al slot gen n) j (alR m S)).2.1 = S) ∧ M.at_ (x.link + y) = ((rtOf (m.at_ (x.root + slot))).chunk + 1).toNat := by
  have hlen := hx.len_le
  obtain ⟨b1, b2, b3, b4, b5, b6, b7⟩ := show MayC (x.w : Int) x.c x.wd x.sl x.ca x.ba from hx
  have hpk := hx.pool (n := m.ws.length) (by omega) (by omega)
  obtain ⟨_, hy0, hy1, hpc⟩ := hp.c
  have hyc : y < x.c := by have : (y : Int) < x.c := hy1; omega
  have hwl := Mm.at_lt hm (x.root + slot)
  have hwd : x.word + y * x.wd + x.wd ≤ x.len := by
    have := word_lt (x := x) (k := y) (j := x.wd - 1) hyc (by omega); omega
  have g1 : x.root + x.sl ≤ x.link := by unfold Cn.root Cn.link; omega
  have g2 : x.link + x.c = x.word := by unfold Cn.link Cn.word; omega
  have g3 : 3 ≤ x.root := by unfold Cn.root; omega
  have e1 := al_first (x := x) (slot := slot) (gen := gen) (n := n) (m := m) (S := S) hba hxs hlm hlv need hneed hf
  have hcl := hk.c
  obtain ⟨W, hW⟩ : ∃ W, m.at_ (x.root + slot) = W := ⟨_, rfl⟩
  have hk' := hk
  rw [hW] at hk hlv hneed hf hwl e1 hcl ⊢
  have hn1 : 1 ≤ need := by have := roundS_ge (cl := (rtOf W).cl) (n := n) hcl; omega
  have hn2 : need ≤ x.wd := by rw [← hneed]; exact roundS_le hcl hnw hw8
  have hx0 : (S.xs.length : Int) ≤ S.most := by rw [hxs]; exact hm0
  -- the Pop
  have hp1 : Pool x.pool m.tick ((y : Int) :: l) := ⟨hp.c.congr fun _ _ => rfl, hp.nd⟩
  obtain ⟨m1, p1, n1, l1, po1, a1, d1⟩ := pop_alone (k := x.pool) (m := m.tick) (len := m.ws.length) hpk rfl hp1 1 (by omega) (by omega) (by simp) 1 (by simp; omega)
  simp only [List.drop_succ_cons, List.drop_zero, List.take_succ_cons, List.take_zero] at p1 po1
  have hin : ∀ j, (popIt x.pool j (PopS.init 1, m.tick)).2.ok ∧ (popIt x.pool j (PopS.init 1, m.tick)).1.ok x.pool ∧ (popIt x.pool j (PopS.init 1, m.tick)).2.ws.length = m.ws.length := by
    intro j
    induction j with
    | zero => exact ⟨hm, PopS.ok_init hpk.n1 1, rfl⟩
    | succ j ih =>
      rw [popIt_succ]
      exact ⟨(popStep_mem hpk ih.1 ih.2.1).1, popStep_ok hpk ih.1 ih.2.1, (popStep_mem hpk ih.1 ih.2.1).2.trans ih.2.2⟩
  have hm1 : m1.ok := by have := (hin (1 + 2)).1; rw [p1] at this; exact this
  -- the first two of its accesses look only
  have hlook : ∀ j, j ≤ 2 → ∃ q : PopS, popIt x.pool j (PopS.init 1, m.tick) = (q, m.tick.add j) ∧ q.done = false := by
    intro j hj
    rcases (show j = 0 ∨ j = 1 ∨ j = 2 by omega) with rfl | rfl | rfl
    · exact ⟨PopS.init 1, rfl, rfl⟩
    · obtain ⟨u, hu⟩ := pop_links hp1 1 (by omega) (by omega) (by simp) 1 (by omega) (by omega) (by simp)
      exact ⟨_, hu, rfl⟩
    · have hu := pop_cas hp1 1 (by omega) (by omega) (by simp) 1 (by simp; omega)
      exact ⟨_, hu, rfl⟩
  have e2 : ∀ j, j ≤ 2 → ∃ q : PopS, alIt (x.al slot gen n) (1 + j) (alR m S) = (m.tick.add j, S, ⟨2, ⟨1 + j, -1, 0, true, false, need, 0, W, 0, Hd.zero⟩, ⟨1, 0, false, -1, q, false⟩, gNone, false⟩) ∧ popIt x.pool j (PopS.init 1, m.tick) = (q, m.tick.add j) := by
    intro j
    induction j with
    | zero => intro _; exact ⟨PopS.init 1, e1, rfl⟩
    | succ j ih =>
      intro hj
      obtain ⟨q, h1, h2⟩ := ih (by omega)
      obtain ⟨q2, h3, h4⟩ := hlook (j + 1) hj
      have h5 := h3
      rw [popIt_succ, h2] at h5
      refine ⟨q2, ?_, h3⟩
      show alStep (x.al slot gen n) (alIt (x.al slot gen n) (1 + j) (alR m S)).1 (alIt (x.al slot gen n) (1 + j) (alR m S)).2.1 (alIt (x.al slot gen n) (1 + j) (alR m S)).2.2 = _
      rw [h1]
      have ht : takeStep x.pool x.ba (m.tick.add j) S ⟨1, 0, false, -1, q, false⟩ = (m.tick.add (j + 1), S, ⟨1, 0, false, -1, q2, false⟩) := by
        unfold takeStep
        simp only [Bool.false_eq_true, if_false]
        rw [h5]
        dsimp only
        rw [h4]
        rfl
      unfold alStep
      simp only [Bool.false_eq_true, if_false]
      rw [ht]
      rfl
  obtain ⟨q2, e3, h32⟩ := e2 2 (by omega)
  obtain ⟨Q, hQ⟩ : ∃ Q, Q = (popStep x.pool (m.tick.add 2) q2).1 := ⟨_, rfl⟩
  have p2 : popStep x.pool (m.tick.add 2) q2 = (⟨1, 0, l.headD (-1), m.tick.at_ x.pool.head, [(y : Int)], true⟩, m1) := by
    have := p1
    rw [show 1 + 2 = 2 + 1 from rfl, popIt_succ, h32] at this
    exact this
  obtain ⟨T, hT⟩ : ∃ T : TakeS, T = ⟨1, y, true, -1, ⟨1, 0, l.headD (-1), m.tick.at_ x.pool.head, [(y : Int)], true⟩, true⟩ := ⟨_, rfl⟩
  have e4 : alIt (x.al slot gen n) 4 (alR m S) = (m1, S, ⟨3, ⟨4, y, 0, true, false, need, 0, W, 0, Hd.zero⟩, T, gNone, false⟩) := by
    show alStep (x.al slot gen n) (alIt (x.al slot gen n) (1 + 2) (alR m S)).1 (alIt (x.al slot gen n) (1 + 2) (alR m S)).2.1 (alIt (x.al slot gen n) (1 + 2) (alR m S)).2.2 = _
    rw [e3]
    have ht : takeStep x.pool x.ba (m.tick.add 2) S ⟨1, 0, false, -1, q2, false⟩ = (m1, S, T) := by
      unfold takeStep
      simp only [Bool.false_eq_true, if_false]
      rw [p2]
      dsimp only
      unfold popped
      dsimp only
      rw [if_pos rfl, hT]
      have : S.give [] = S := by unfold SupS.give; rw [List.append_nil]
      rw [this]
    unfold alStep
    simp only [Bool.false_eq_true, if_false]
    rw [ht]
    dsimp only
    rw [show T.done = true by rw [hT], if_pos rfl]
    unfold alTaken
    rw [show T.is_ = true by rw [hT], if_pos rfl, show T.chunk = y by rw [hT]]
  have hwk : 1 ≤ x.wd := by omega
  have e5 : ∀ i, i ≤ x.wd → alIt (x.al slot gen n) (4 + i) (alR m S) = (clrM m1 (x.word + y * x.wd) i, S, ⟨if i < x.wd then 3 else 4, ⟨4 + i, y, i, true, false, need, 0, W, 0, Hd.zero⟩, T, gNone, false⟩) := by
    intro i
    induction i with
    | zero => intro _; rw [if_pos (by omega)]; exact e4
    | succ i ih =>
      intro hi
      show alStep (x.al slot gen n) (alIt (x.al slot gen n) (4 + i) (alR m S)).1 (alIt (x.al slot gen n) (4 + i) (alR m S)).2.1 (alIt (x.al slot gen n) (4 + i) (alR m S)).2.2 = _
      rw [ih (by omega), if_pos (by omega)]
      unfold alStep
      simp only [Bool.false_eq_true, if_false, Int.toNat_natCast]
      rfl
  have e6 : alIt (x.al slot gen n) (x.wd + 5) (alR m S) = ((clrM m1 (x.word + y * x.wd) x.wd).put (x.link + y) ((rtOf W).chunk + 1).toNat, S, ⟨5, ⟨x.wd + 5, y, x.wd, true, false, need, 0, W, 0, Hd.zero⟩, T, gNone, false⟩) := by
    have := e5 x.wd (Nat.le_refl _)
    rw [if_neg (by omega)] at this
    show alStep (x.al slot gen n) (alIt (x.al slot gen n) (x.wd + 4) (alR m S)).1 (alIt (x.al slot gen n) (x.wd + 4) (alR m S)).2.1 (alIt (x.al slot gen n) (x.wd + 4) (alR m S)).2.2 = _
    rw [show x.wd + 4 = 4 + x.wd by omega, this]
    unfold alStep
    simp only [Bool.false_eq_true, if_false, Int.toNat_natCast]
    rw [show 4 + x.wd + 1 = x.wd + 5 by omega]
    rfl
  have hl1 : m1.ws.length = x.len := l1.trans hl
  have hlc : ∀ i, (clrM m1 (x.word + y * x.wd) i).ws.length = x.len := fun i => (clrM_len _ _ _).trans hl1
  have hcat : ∀ i, i ≤ x.wd → ∀ a, (clrM m1 (x.word + y * x.wd) i).at_ a = if x.word + y * x.wd ≤ a ∧ a < x.word + y * x.wd + i then 0 else m1.at_ a := fun i hi a => clrM_at (by omega) a
  obtain ⟨v5, hv5⟩ : ∃ v5, v5 = ((rtOf W).chunk + 1).toNat := ⟨_, rfl⟩
  have hv5l : v5 < 18446744073709551616 := by
    have := Rt.chunk_lt (rtOf_mrk W); have := (rtOf W).chunk_ge; omega
  rw [← hv5] at e6
  have hat5 : ∀ a, ((clrM m1 (x.word + y * x.wd) x.wd).put (x.link + y) v5).at_ a = if x.link + y = a then v5 else if x.word + y * x.wd ≤ a ∧ a < x.word + y * x.wd + x.wd then 0 else m1.at_ a := fun a => by
    rw [Mm.at_put _ (by rw [hlc]; omega), hcat _ (Nat.le_refl _)]
  obtain ⟨m5, hm5⟩ : ∃ m5, m5 = (clrM m1 (x.word + y * x.wd) x.wd).put (x.link + y) v5 := ⟨_, rfl⟩
  rw [← hm5] at e6 hat5
  have hl5 : m5.ws.length = x.len := by rw [hm5, Mm.len_put]; exact hlc _
  have hok5 : m5.ok := by rw [hm5]; exact Mm.ok_put (clrM_ok hm1 _ _) hv5l
  have hr1 : m1.at_ (x.root + slot) = W := by rw [a1 _ (by show x.root + slot ≠ 0; omega)]; exact hW
  have hr5 : m5.at_ (x.root + slot) = W := by rw [hat5, if_neg (by omega), if_neg (by omega), hr1]
  have hR : Rt.ok ⟨(rtOf W).gen, 2 + y, (rtOf W).cl, afterS x.wd need⟩ := ⟨hk.g, by show 2 + y ≤ 4097; omega, hk.c, by have := afterS_le hn2; show afterS x.wd need ≤ 1024; omega⟩
  have e7 : alIt (x.al slot gen n) (x.wd + 6) (alR m S) = (m5.put (x.root + slot) (Rt.w ⟨(rtOf W).gen, 2 + y, (rtOf W).cl, afterS x.wd need⟩), S, ⟨6, ⟨x.wd + 6, -1, x.wd, true, true, need, x.wd + 6, W, 0, ⟨slot, gen, y, 0, n⟩⟩, T, PushS.init [], true⟩) := by
    show alStep (x.al slot gen n) (alIt (x.al slot gen n) (x.wd + 5) (alR m S)).1 (alIt (x.al slot gen n) (x.wd + 5) (alR m S)).2.1 (alIt (x.al slot gen n) (x.wd + 5) (alR m S)).2.2 = _
    rw [e6]
    unfold alStep
    simp only [Bool.false_eq_true, if_false, Int.toNat_natCast]
    rw [if_pos hr5, alClose_none rfl hx0]
  -- the pool
  have hnl : ∀ z ∈ l, z ≠ (y : Int) := fun z hz e => by
    have := hp.nd
    rw [List.nodup_cons] at this
    exact this.1 (e ▸ hz)
  have pool1 : ∀ i, i ≤ x.wd → Pool x.pool (clrM m1 (x.word + y * x.wd) i) l := fun i hi => by
    refine ⟨?_, po1.nd⟩
    rw [hcat i hi, if_neg (by show ¬ (_ ≤ 0 ∧ 0 < _); omega)]
    refine po1.c.congr fun z hz => ?_
    have hz2 := po1.c.mem z hz
    have hz3 : z < x.c := hz2.2
    rw [hcat i hi, if_neg (by show ¬ (_ ≤ x.link + z.toNat ∧ _); omega)]
  have pool5 : Pool x.pool m5 l := by
    refine ⟨?_, po1.nd⟩
    rw [hat5, if_neg (by show ¬ x.link + y = 0; omega), if_neg (by show ¬ (_ ≤ 0 ∧ 0 < _); omega)]
    refine po1.c.congr fun z hz => ?_
    have hz2 := po1.c.mem z hz
    have hz3 : z < x.c := hz2.2
    have := hnl z hz
    rw [hat5, if_neg (by show ¬ x.link + y = x.link + z.toNat; omega), if_neg (by show ¬ (_ ≤ x.link + z.toNat ∧ _); omega)]
  have hput : ∀ a v, (m5.put (x.root + slot) v).at_ a = if x.root + slot = a then v else m5.at_ a := fun a v => Mm.at_put a (by omega)
  have poolM : Pool x.pool (m5.put (x.root + slot) (Rt.w ⟨(rtOf W).gen, 2 + y, (rtOf W).cl, afterS x.wd need⟩)) l := by
    refine ⟨?_, po1.nd⟩
    rw [hput, if_neg (by show ¬ x.root + slot = 0; omega)]
    refine pool5.c.congr fun z hz => ?_
    rw [hput, if_neg (by show ¬ x.root + slot = x.link + z.toNat; omega)]
  have hall : ∀ j, j < x.wd + 6 → (j = 0) ∨ (∃ i, i ≤ 2 ∧ j = 1 + i) ∨ (∃ i, i ≤ x.wd ∧ j = 4 + i) ∨ j = x.wd + 5 := fun j hj => by
    rcases (show j = 0 ∨ (1 ≤ j ∧ j ≤ 3) ∨ (4 ≤ j ∧ j ≤ 4 + x.wd) ∨ j = x.wd + 5 by omega) with h | h | h | h
    · exact .inl h
    · exact .inr (.inl ⟨j - 1, by omega, by omega⟩)
    · exact .inr (.inr (.inl ⟨j - 4, by omega, by omega⟩))
    · exact .inr (.inr (.inr h))
  have hwok : (rtOf W).ok := hk
  have hnd : ∀ j, j < x.wd + 6 → (alIt (x.al slot gen n) j (alR m S)).2.2.done = false := fun j hj => by
    rcases hall j hj with rfl | ⟨i, hi, rfl⟩ | ⟨i, hi, rfl⟩ | rfl
    · rfl
    · obtain ⟨q, h, _⟩ := e2 i hi; rw [h]
    · rw [e5 i hi]
    · rw [e6]
  have hroot : ∀ j, j < x.wd + 6 → (alIt (x.al slot gen n) j (alR m S)).1.at_ (x.root + slot) = W := fun j hj => by
    rcases hall j hj with rfl | ⟨i, hi, rfl⟩ | ⟨i, hi, rfl⟩ | rfl
    · exact hW
    · obtain ⟨q, h, _⟩ := e2 i hi; rw [h]; exact hW
    · rw [e5 i hi]
      show (clrM m1 (x.word + y * x.wd) i).at_ _ = W
      rw [hcat i hi, if_neg (by omega), hr1]
    · rw [e6]; exact hr5
  refine ⟨_, _, e7, ⟨fun j hj => ?_, hnd, by rw [e7]⟩, by rw [Mm.len_put]; exact hl5, Mm.ok_put hok5 (Rt.w_lt hR), poolM, by rw [hput, if_pos rfl], fun a h0 h1 h2 h3 => ?_, fun a h1 h2 => ?_, fun j hj => ?_, fun j hj1 hj2 => ?_, hroot, fun j hj1 hj2 => ?_, fun j hj1 hj2 => ?_, ⟨T, by rw [e6]⟩, fun j hj => ?_, by rw [hput, if_neg (by omega), hat5, if_pos rfl, hv5]⟩
  · by_cases hj6 : j = x.wd + 6
    · subst hj6
      rw [e7]
      refine ⟨by rw [Mm.len_put]; exact hl5, Mm.ok_put hok5 (Rt.w_lt hR), ?_, hs, hm0, hm2, fun h => (by cases h)⟩
      show (rtOf ((m5.put (x.root + slot) _).at_ (x.root + slot))).ok
      rw [hput, if_pos rfl, rtOf_w hR]; exact hR
    · have hr := hroot j (by omega)
      rcases hall j (by omega) with rfl | ⟨i, hi, rfl⟩ | ⟨i, hi, rfl⟩ | rfl
      · exact good0 hl hm hk' hs hm0 hm2
      · obtain ⟨q, h, _⟩ := e2 i hi
        rw [h] at hr ⊢
        refine ⟨hl, hm, by show (rtOf ((m.tick.add i).at_ _)).ok; rw [hr]; exact hk, hs, hm0, hm2, fun _ => ⟨by show 2 ≤ 6; omega, by show 1 + i ≤ 1000000; omega, by show (-1 : Int) ≤ -1; omega, by show (-1 : Int) < x.c; omega, hk, (fun h => by cases h), (fun h => by cases h), (fun h => by rcases h with h | h | h <;> cases h), (fun h => by cases h), fun _ => ⟨by show 1 ≤ 1; omega, fun _ => ⟨rfl, rfl⟩⟩⟩⟩
      · rw [e5 i hi] at hr ⊢
        refine ⟨hlc i, clrM_ok hm1 _ _, by show (rtOf ((clrM m1 (x.word + y * x.wd) i).at_ _)).ok; rw [hr]; exact hk, hs, hm0, hm2, fun _ => ok_mid (by split <;> omega) (by omega) (by omega) (by omega) hk hn1 hn2 (fun h => by split at h <;> omega)⟩
      · rw [e6] at hr ⊢
        refine ⟨hl5, hok5, by show (rtOf (m5.at_ _)).ok; rw [hr]; exact hk, hs, hm0, hm2, fun _ => ok_mid (by omega) (by omega) (by omega) (by omega) hk hn1 hn2 (fun h => by omega)⟩
  · rw [hput, if_neg (fun h => h2 h.symm), hat5, if_neg (fun h => h1 h.symm), if_neg h3]
    exact a1 a h0
  · rw [hput, if_neg (by omega), hat5, if_neg (by omega), if_pos ⟨h1, h2⟩]
  · rcases (show j = 0 ∨ 1 ≤ j by omega) with rfl | h1
    · exact ⟨rfl, rfl, hp⟩
    · obtain ⟨q, h, _⟩ := e2 (j - 1) (by omega)
      rw [show 1 + (j - 1) = j by omega] at h
      rw [h]
      exact ⟨rfl, rfl, ⟨hp.c.congr fun _ _ => rfl, hp.nd⟩⟩
  · rcases hall j hj2 with h0 | ⟨i, hi, h0⟩ | ⟨i, hi, rfl⟩ | rfl
    · omega
    · omega
    · rw [e5 i hi]; exact ⟨rfl, rfl, pool1 i hi⟩
    · rw [e6]; exact ⟨rfl, rfl, pool5⟩
  · obtain ⟨q, h, h2⟩ := e2 (j - 1) (by omega)
    rw [show 1 + (j - 1) = j by omega] at h
    rw [h]
    refine ⟨rfl, rfl, ?_⟩
    have := (hin (j - 1)).2.1
    rw [h2] at this
    exact this
  · have h := e5 (j - 4) (by omega)
    rw [show 4 + (j - 4) = j by omega] at h
    rw [h]
    show (if j - 4 < x.wd then 3 else 4) = 3 ∨ (if j - 4 < x.wd then 3 else 4) = 4
    split
    · exact .inl rfl
    · exact .inr rfl
  · rcases hall j hj with rfl | ⟨i, hi, rfl⟩ | ⟨i, hi, rfl⟩ | rfl
    · exact ⟨⟨rfl, rfl, fun _ => rfl, fun _ => rfl, by show 0 ≤ 5; omega, (fun h => by cases h), (fun h => by cases h), (fun h => by cases h), by show 0 ≠ 1; omega, (fun h => by cases h)⟩, rfl⟩
    · obtain ⟨q, h, h2⟩ := e2 i hi
      rw [h]
      refine ⟨⟨rfl, rfl, fun _ => rfl, fun _ => rfl, by show 2 ≤ 5; omega, fun _ => rfl, fun _ => ?_, fun _ => ⟨rfl, rfl⟩, by show 2 ≠ 1; omega, fun _ => rfl⟩, rfl⟩
      have := (hin i).2.1
      rw [h2] at this
      exact this
    · rw [e5 i hi]
      refine ⟨⟨rfl, rfl, fun h => ?_, fun h => ?_, ?_, fun h => ?_, fun h => ?_, fun h => ?_, ?_, fun h => ?_⟩, rfl⟩
      · have h' : (if i < x.wd then 3 else 4) ≤ 2 := h
        split at h' <;> omega
      · have h' : (if i < x.wd then 3 else 4) ≤ 2 := h
        split at h' <;> omega
      · show (if i < x.wd then 3 else 4) ≤ 5
        split <;> omega
      · rfl
      · have h' : (if i < x.wd then 3 else 4) = 2 := h
        split at h' <;> omega
      · have h' : (if i < x.wd then 3 else 4) = 2 := h
        split at h' <;> omega
      · show (if i < x.wd then 3 else 4) ≠ 1
        split <;> omega
      · have h' : (if i < x.wd then 3 else 4) = 2 := h
        split at h' <;> omega
    · rw [e6]
      exact ⟨⟨rfl, rfl, fun h => absurd (show 5 ≤ 2 from h) (by omega), fun h => absurd (show 5 ≤ 2 from h) (by omega), Nat.le_refl _, fun _ => rfl, fun h => absurd (show 5 = 2 from h) (by omega), fun h => absurd (show 5 = 2 from h) (by omega), by show 5 ≠ 1; omega, fun h => absurd (show 5 = 2 from h) (by omega)⟩, rfl⟩
end
end Go.Proofs.YtflalhdofhobmaaGreat

/-
  grant's statements: a region by one alone; an Alloc by one alone.
-/
set_option linter.unusedVariables false
set_option linter.unusedSimpArgs false
namespace Go.Proofs.YtflalhdofhobmaaGreat
open Go
attribute [local irreducible] Sx Cx Rx Fx Krg Ksq Kbl Klp Kr
theorem crStep_ok {k : Sk} {ro cl len : Nat} {m : Mm} {c : CreS} (hk : k.ok len) (hm : m.ok) (hcl : cl ≤ 3) (h : c.ok k) (hn : c.cnt + 1 ≤ 1000000) : (crStep k ro cl m c).1.ok k ∧ (crStep k ro cl m c).2.ok ∧ (crStep k ro cl m c).2.ws.length = m.ws.length ∧ (crStep k ro cl m c).1.cnt ≤ c.cnt + 1 := by
  obtain ⟨h1, h2, h3, h4, h5⟩ := h
  have hq := popStep_ok hk hm h2
  have hpm := popStep_mem hk hm h2
  unfold crStep
  split
  · exact ⟨⟨h1, h2, h3, h4, h5⟩, hm, rfl, by show c.cnt ≤ c.cnt + 1; omega⟩
  · split
    · rename_i ha
      split
      · unfold crPopped
        split
        · exact ⟨⟨by show c.at_ ≤ 2; omega, hq, h3, fun h => absurd ha h, hn⟩, hpm.1, hpm.2, Nat.le_refl _⟩
        · rename_i s l hg
          exact ⟨⟨by show 1 ≤ 2; omega, hq, h3, fun _ => hq.g s (by dsimp only at hg; rw [hg]; simp), hn⟩, hpm.1, hpm.2, Nat.le_refl _⟩
      · exact ⟨⟨h1, hq, h3, fun h => absurd ha h, hn⟩, hpm.1, hpm.2, Nat.le_refl _⟩
    · rename_i ha
      exact ⟨⟨by show 2 ≤ 2; omega, h2, Mm.at_lt hm _, fun _ => h4 (by omega), hn⟩, hm, rfl, Nat.le_refl _⟩
    · rename_i ha _
      exact ⟨⟨h1, h2, h3, h4, hn⟩, Mm.ok_put hm (Rt.w_lt (nextRt_ok h3 hcl)), Mm.len_put, Nat.le_refl _⟩
theorem crIt_ok {k : Sk} {ro cl len : Nat} {m : Mm} (hk : k.ok len) (hm : m.ok) (hcl : cl ≤ 3) : ∀ j, j ≤ 100000 → (crIt k ro cl j (CreS.init, m)).1.ok k ∧ (crIt k ro cl j (CreS.init, m)).2.ok ∧ (crIt k ro cl j (CreS.init, m)).2.ws.length = m.ws.length ∧ (crIt k ro cl j (CreS.init, m)).1.cnt ≤ j
  | 0, _ => ⟨⟨by show 0 ≤ 2; omega, PopS.ok_init hk.n1 1, by show 0 < 18446744073709551616; omega, fun h => absurd rfl h, by show 0 ≤ 1000000; omega⟩, hm, rfl, Nat.le_refl _⟩
  | j + 1, hj => by
    obtain ⟨a, b, c, d⟩ := crIt_ok hk hm hcl j (by omega)
    have := crStep_ok (ro := ro) hk b hcl a (by omega)
    exact ⟨this.1, this.2.1, this.2.2.1.trans c, by have := this.2.2.2; show (crStep k ro cl (crIt k ro cl j (CreS.init, m)).2 (crIt k ro cl j (CreS.init, m)).1).1.cnt ≤ j + 1; omega⟩
section
variable {L F G : St}
abbrev rgF (x : Cn) (n : Hn) (r r2 : Option Addr) (k c c2 : Nat) (m : Mm) (G : St) : St :=
  pt (some ⟨n.a, 0, none⟩) (Blk 45 (grV x n r r2 k c c2)) :: pt (some ⟨n.mp, 0, none⟩) (MemO m) :: pt (some ⟨n.ro, 0, none⟩) (RoO n.mp n.sp x) :: pt (some ⟨n.sp, 0, none⟩) (SkO n.mp x.spare) ::
  pt (some ⟨n.rm, 0, none⟩) (RMemO m) :: pt (some ⟨n.w, 0, none⟩) (RWO x n.rm n.rp n.rs n.re) :: pt (some ⟨n.rs, 0, none⟩) (RSkO n.rm x.spare) :: G
set_option maxHeartbeats 4000000 in
theorem grRegion {x : Cn} {n : Hn} {r r2 : Option Addr} {k c c2 : Nat} {m : Mm} (cl : Nat) (hcl : cl ≤ 3) (hx : x.ok) (hl : m.ws.length = x.len) (hm : m.ok) {s : Nat} {l : List Int} (hp : Pool x.spare m ((s : Int) :: l)) :
    Fx Tryz.prog 25 [.pointer (some ⟨n.a, 0, none⟩), .int .i64 cl] (rgF x n r r2 k c c2 m G)
      (fun v L' => v = .tuple #[.int .i64 s, .int .i64 (laterT (rtOf (m.at_ (x.root + s))).gen : Nat), .bool true] ∧ L' = rgF x n r r2 k c c2 (crIt x.spare x.root cl 10 (CreS.init, m)).2 G) := by
  have hlen := hx.len_le
  have hk := hx.spare (n := m.ws.length) (by omega) (by omega)
  have hroot : x.root + x.sl = x.slot := by unfold Cn.root Cn.slot; omega
  obtain ⟨C, M, e10, hd, hcode, hslot, hat, hwas, _⟩ := cr_alone (k := x.spare) (ro := x.root) (cl := cl) (m := m) hk rfl hm hp (by show x.root + x.sl ≤ x.slot; omega) (by show 1 < x.root; unfold Cn.root; omega) hcl
  rw [Int.toNat_natCast] at hwas
  refine Fx.mk Tryz.func25 k25 (Nat.le_of_ble_eq_true rfl) ?_
  dsimp only [c25, envOf, Nat.reduceAdd]
  refine go ?_
  refine Cx.ordc rfl (by kernel_rfl) ?_
  refine ge ?_
  iterate 5 (refine Ev.bring 1 rfl ?_; refine ge ?_)
  refine Ev.caH (by kernel_rfl) rfl rfl (rootsCreate (g := n.ro) (mp := n.mp) (sb := n.sp) (x := x) cl hcl hx) (.keep (fun v L' ⟨_, _, e⟩ => by subst e; exact Has.cell rfl) (.dep rfl .nil)) ?_
  rintro v L' ⟨b, rfl, rfl⟩
  refine ge ?_
  refine Ev.caH (by kernel_rfl) rfl rfl (refCreate (w := n.w) (rm := n.rm) (rp := n.rp) (rs := n.rs) (re := n.re) (x := x) cl hcl) (Pres.deps (by kernel_rfl)) ?_
  rintro v L' ⟨bb, rfl, rfl⟩
  refine ge ?_
  refine go ?_
  refine Cx.lp (α := {j : Nat // j ≤ 10}) (fun j => [(7, .pointer (some ⟨b, 0, none⟩)), (8, .pointer (some ⟨bb, 0, none⟩)), (9, .int .i64 j.1)])
    (fun j => pt (some ⟨b, 0, none⟩) (CreO n.ro n.sp x.spare cl (crIt x.spare x.root cl j.1 (CreS.init, m)).1) :: pt (some ⟨bb, 0, none⟩) (RCreO n.w n.rs cl (crIt x.spare x.root cl j.1 (CreS.init, m)).1) :: rgF x n r r2 k c c2 (crIt x.spare x.root cl j.1 (CreS.init, m)).2 G)
    (fun j => 10 - j.1) ⟨0, by omega⟩ (sub.cons rfl (sub.cons rfl (sub.cons rfl sub.nil))) ?_ ?_
  · dsimp only [rgF, crIt]
    exact ent
  rintro ⟨j, hj⟩
  dsimp only [rgF]
  obtain ⟨k1, k2, k3, k4⟩ := crIt_ok (ro := x.root) (m := m) hk hm hcl j (by omega)
  refine go ?_
  refine Cx.ifp rfl (fun h => ?_) (fun h => ?_)
  · refine go ?_
    refine Sx.ca rfl (crStepC (b := b) (r := n.ro) (mp := n.mp) (sp := n.sp) (x := x) (m := (crIt x.spare x.root cl j (CreS.init, m)).2) (cl := cl) (c := (crIt x.spare x.root cl j (CreS.init, m)).1) hx (by omega) hcl k1) ?_
    rintro v L' ⟨rfl, rfl⟩
    refine go ?_
    refine Sx.ca rfl (refCrStep (b := bb) (w := n.w) (rm := n.rm) (rp := n.rp) (rs := n.rs) (re := n.re) (x := x) (m := (crIt x.spare x.root cl j (CreS.init, m)).2) (cl := cl) (c := (crIt x.spare x.root cl j (CreS.init, m)).1) hx (by omega) hcl k1) ?_
    rintro v L' ⟨rfl, rfl⟩
    refine go ?_
    rw [w64 (n := (j : Int) + 1) (by omega) (by omega)]
    refine Klp.nm ⟨j + 1, by omega⟩ (sub.cons rfl (sub.cons rfl (sub.cons rfl sub.nil))) ?_ (by dsimp only; omega)
    dsimp only [rgF, crIt]
    refine Ent.trans (Ent.take (a := some ⟨b, 0, none⟩)) (Ent.cons ?_)
    exact ent
  · obtain rfl : j = 10 := by omega
    rw [e10]
    dsimp only
    refine go ?_
    refine Sx.ca rfl (crRegion (b := b) (r := n.ro) (sp := n.sp) (k := x.spare) (cl := cl) (c := C) hd hat hcode) ?_
    rintro v L' ⟨rfl, rfl⟩
    rw [hslot, hwas]
    refine go ?_
    refine Cx.ent (Ent.take (a := some ⟨bb, 0, none⟩)) ?_
    refine Cx.openp (a := some ⟨bb, 0, none⟩) rfl ?_
    intro p
    have er : C.rslot = s := by unfold CreS.rslot; rw [if_neg (by omega), hslot]
    have eg : C.rgen = laterT (rtOf (m.at_ (x.root + s))).gen := by unfold CreS.rgen; rw [if_pos ⟨hd, hat⟩, hwas]
    simp only [rcrL, List.cons_append, List.nil_append, er, eg, hd, hcode]
    refine Cx.ordc rfl (by kernel_rfl) ?_
    refine ge ?_
    refine Ev.cakH (by kernel_rfl) rfl rfl (crDone (b := b) (r := n.ro) (sp := n.sp) (k := x.spare) (cl := cl) (c := C) hd) ?_
    refine ge ?_
    refine Ev.yes 43 rfl rfl ?_
    refine ge ?_
    refine Ev.yes 49 rfl rfl ?_
    refine ge ?_
    refine Ev.cakH (by kernel_rfl) rfl rfl (crCode (b := b) (r := n.ro) (sp := n.sp) (k := x.spare) (cl := cl) (c := C) hd) ?_
    rw [hcode]
    refine ge ?_
    refine Ev.yes 54 rfl rfl ?_
    refine ge ?_
    refine Ev.yes 61 rfl rfl ?_
    refine ge ?_
    refine Ev.yes 69 rfl (decide_eq_true rfl) ?_
    refine ge ?_
    refine go ?_
    refine Kr.three (.inr rfl) rfl rfl rfl ?_ ⟨by rw [decide_eq_true rfl], rfl⟩
    refine Ent.trans Ent.drop ?_
    exact ent
abbrev agF (x : Cn) (n : Hn) (r : Nat) (r2 : Option Addr) (k c c2 : Nat) (Q : Nat → Who) (i : Nat) (S : SupS) (m : Mm) (G : St) : St :=
  pt (some ⟨n.a, 0, none⟩) (Blk 45 (grV x n (some ⟨r, 0, none⟩) r2 k c c2)) :: pt (some ⟨r, 0, none⟩) (Row 47 1 k c (ptrs k fun i => (Q i).u)) :: pt (some ⟨(Q i).u, 0, none⟩) (SupO n.mp (Q i).pb x S) ::
  pt (some ⟨n.mp, 0, none⟩) (MemO m) :: pt (some ⟨(Q i).pb, 0, none⟩) (SkO n.mp x.pool) :: pt (some ⟨n.g, 0, none⟩) (GrO n.mp x) :: G
set_option maxHeartbeats 4000000 in
theorem grAlone {x : Cn} {n : Hn} {r : Nat} {r2 : Option Addr} {k c c2 : Nat} {Q : Nat → Who} {i : Nat} {S : SupS} {m : Mm} {slot : Nat} {gen : Int} {sz : Nat} (N : Nat) (hN : N < 4000) (hi : i < k) (hk : k ≤ 64) (hx : x.ok) (hs : slot < x.sl) (hn : 1 ≤ sz) (hn2 : sz ≤ x.wd) (hw8 : x.wd % 8 = 0) (hr : AlRun x (x.al slot gen sz) (alR m S) N) :
    Fx Tryz.prog 20 [.pointer (some ⟨n.a, 0, none⟩), .int .i64 i, .int .i64 slot, .int .i64 gen, .int .i64 sz] (agF x n r r2 k c c2 Q i S m G)
      (fun v L' => ∃ b, v = .tuple #[.pointer (some ⟨b, 0, none⟩), .int .i64 N] ∧ L' = pt (some ⟨b, 0, none⟩) (AlO n.g (Q i).u (Q i).pb x slot gen sz (alIt (x.al slot gen sz) N (alR m S)).2.2) ::
        agF x n r r2 k c c2 Q i (alIt (x.al slot gen sz) N (alR m S)).2.1 (alIt (x.al slot gen sz) N (alR m S)).1 G) := by
  obtain ⟨hgood, hnd, hd⟩ := hr
  refine Fx.mk Tryz.func20 k20 (Nat.le_of_ble_eq_true rfl) ?_
  dsimp only [c20, envOf, Nat.reduceAdd]
  refine go ?_
  refine Cx.ordc rfl (by kernel_rfl) ?_
  refine ge ?_
  refine Ev.ldrH (b := r) (v := .pointer (some ⟨(Q i).u, 0, none⟩)) (by kernel_rfl) rfl rfl (by rw [show 0 + (i : Int).toNat * 1 = i by omega]; exact ptrs_get (U := fun i => (Q i).u) hi) ?_
  refine ge ?_
  refine Ev.caH (by kernel_rfl) rfl rfl (grantAlloc (g := n.g) (u := (Q i).u) (mp := n.mp) (pb := (Q i).pb) (x := x) slot gen sz hs hn hn2) (Pres.deps (by kernel_rfl)) ?_
  rintro v L' ⟨b, rfl, rfl⟩
  refine ge ?_
  refine go ?_
  refine Cx.lp (α := {j : Nat // j ≤ N}) (fun j => [(12, .pointer (some ⟨b, 0, none⟩)), (14, .int .i64 j.1), (15, .int .i64 j.1)])
    (fun j => pt (some ⟨b, 0, none⟩) (AlO n.g (Q i).u (Q i).pb x slot gen sz (alIt (x.al slot gen sz) j.1 (alR m S)).2.2) :: agF x n r r2 k c c2 Q i (alIt (x.al slot gen sz) j.1 (alR m S)).2.1 (alIt (x.al slot gen sz) j.1 (alR m S)).1 G)
    (fun j => N - j.1) ⟨0, by omega⟩ (sub.cons rfl (sub.cons rfl (sub.cons rfl sub.nil))) ?_ ?_
  · dsimp only [agF, alIt]
    exact ent
  rintro ⟨j, hj⟩
  dsimp only [agF]
  obtain ⟨g1, g2, g3, g4, g5, g6, g7⟩ := hgood j hj
  repeat' (first|refine Zo0 rfl ?_|refine Zo1 ?_|refine Zo2 ?_|refine Zo3 ?_|refine Zo4 ?_|refine Zo5 ?_|refine Zo6 ?_|refine Zo7 ?_|refine Zo8 rfl ?_|refine Zo9 rfl ?_|refine Zoa ?_|refine Zob ?_|refine Zoc ?_|refine Zod ?_|refine Zoe ?_|refine Zof ?_|refine Zog ?_|refine Zoh ?_|refine Zom rfl (by rfl) ?_|refine Zon rfl rfl ?_|refine Zoo rfl rfl rfl rfl (by rfl) (by rfl) ?_|refine Zop rfl trivial ?_|refine Zoq rfl rfl rfl ?_)
  rw [decide_eq_true (show (j : Int) < 4000 by omega)]
  refine go ?_
  refine Sx.ca rfl (alStepC (b := b) (g := n.g) (u := (Q i).u) (mp := n.mp) (pb := (Q i).pb) (x := x) (slot := slot) (gen := gen) (n := sz) (S := (alIt (x.al slot gen sz) j (alR m S)).2.1) (m := (alIt (x.al slot gen sz) j (alR m S)).1) (a := (alIt (x.al slot gen sz) j (alR m S)).2.2) hx (by omega) hs hn hn2 hw8 g3 (by omega) g5 g6 g7) ?_
  rintro v L' ⟨rfl, rfl⟩
  by_cases hjn : j = N
  · subst hjn
    have e : alStep (x.al slot gen sz) (alIt (x.al slot gen sz) j (alR m S)).1 (alIt (x.al slot gen sz) j (alR m S)).2.1 (alIt (x.al slot gen sz) j (alR m S)).2.2 = alIt (x.al slot gen sz) j (alR m S) := by
      unfold alStep; rw [if_pos hd]
    rw [hd, e]
    refine go ?_
    refine Kr.two (.inr rfl) rfl rfl ?_ ⟨b, rfl, rfl⟩
    exact ent
  · rw [hnd j (by omega)]
    refine go ?_
    rw [w64 (n := (j : Int) + 1) (by omega) (by omega)]
    refine Klp.nm ⟨j + 1, by omega⟩ (sub.cons rfl (sub.cons rfl (sub.cons rfl sub.nil))) ?_ (by dsimp only; omega)
    dsimp only [agF, alIt]
    exact ent
theorem alDone {b g u pb : Nat} {x : Cn} {slot : Nat} {gen : Int} {n : Nat} {s : AlS} {F1 : St} (hd : s.done = true) [t1 : Take L (some ⟨b, 0, none⟩) (AlO g u pb x slot gen n s) F1] : Fx Tryz.prog 27 [.pointer (some ⟨b, 0, none⟩)] L (fun v L' => v = .bool true ∧ L = L') := by
  refine Fx.kept (t := t1) ?_
  refine Fx.mk Tryz.func27 k27 (Nat.le_of_ble_eq_true rfl) ?_
  dsimp only [c27, envOf, Nat.reduceAdd]
  refine Cx.ent (Ent.of t1.out) ?_
  refine Cx.openp (a := some ⟨b, 0, none⟩) (AlO.dd_ hd) ?_
  rintro ⟨q, n1, n2, n3, tp⟩
  simp only [alDL, List.cons_append, List.nil_append]
  refine go ?_
  refine Sx.ca rfl (machDoneYes (b := b)) ?_
  rintro v L' ⟨rfl, rfl⟩
  refine go ?_
  exact Kr.one (.inr rfl) rfl (AlO.closeD (v := s.v) (rt := rtOf s.v.was) s hd rfl rfl rfl rfl) ⟨rfl, rfl⟩
theorem alCode {b g u pb : Nat} {x : Cn} {slot : Nat} {gen : Int} {n : Nat} {s : AlS} {F1 : St} (hd : s.done = true) [t1 : Take L (some ⟨b, 0, none⟩) (AlO g u pb x slot gen n s) F1] : Fx Tryz.prog 21 [.pointer (some ⟨b, 0, none⟩)] L (fun v L' => v = .int .i64 (s.v.code : Nat) ∧ L = L') := by
  refine Fx.kept (t := t1) ?_
  refine Fx.mk Tryz.func21 k21 (Nat.le_of_ble_eq_true rfl) ?_
  dsimp only [c21, envOf, Nat.reduceAdd]
  refine Cx.ent (Ent.of t1.out) ?_
  refine go ?_
  refine Sx.ca rfl (alDone (b := b) (g := g) (u := u) (pb := pb) (x := x) (slot := slot) (gen := gen) (n := n) (s := s) hd) ?_
  rintro v L' ⟨rfl, rfl⟩
  refine go ?_
  refine Sx.openp (a := some ⟨b, 0, none⟩) (AlO.dd_ hd) ?_
  rintro ⟨q, n1, n2, n3, tp⟩
  simp only [alDL, List.cons_append, List.nil_append]
  refine go ?_
  exact Kr.one (.inr rfl) rfl (AlO.closeD (v := s.v) (rt := rtOf s.v.was) s hd rfl rfl rfl rfl) ⟨rfl, rfl⟩
theorem alPoint {b g u pb : Nat} {x : Cn} {slot : Nat} {gen : Int} {n : Nat} {s : AlS} {F1 : St} (hd : s.done = true) [t1 : Take L (some ⟨b, 0, none⟩) (AlO g u pb x slot gen n s) F1] : Fx Tryz.prog 22 [.pointer (some ⟨b, 0, none⟩)] L (fun v L' => v = .int .i64 (s.v.point : Nat) ∧ L = L') := by
  refine Fx.kept (t := t1) ?_
  refine Fx.mk Tryz.func22 k22 (Nat.le_of_ble_eq_true rfl) ?_
  dsimp only [c22, envOf, Nat.reduceAdd]
  refine Cx.ent (Ent.of t1.out) ?_
  refine Cx.openp (a := some ⟨b, 0, none⟩) (AlO.dd_ hd) ?_
  rintro ⟨q, n1, n2, n3, tp⟩
  simp only [alDL, List.cons_append, List.nil_append]
  refine go ?_
  exact Kr.one (.inr rfl) rfl (AlO.closeD (v := s.v) (rt := rtOf s.v.was) s hd rfl rfl rfl rfl) ⟨rfl, rfl⟩
theorem alObject {b g u pb : Nat} {x : Cn} {slot : Nat} {gen : Int} {n : Nat} {s : AlS} {F1 : St} (hd : s.done = true) [t1 : Take L (some ⟨b, 0, none⟩) (AlO g u pb x slot gen n s) F1] : Fx Tryz.prog 28 [.pointer (some ⟨b, 0, none⟩)] L (fun v L' => v = hdA s.v.obj ∧ L = L') := by
  refine Fx.kept (t := t1) ?_
  refine Fx.mk Tryz.func28 k28 (Nat.le_of_ble_eq_true rfl) ?_
  dsimp only [c28, envOf, Nat.reduceAdd]
  refine Cx.ent (Ent.of t1.out) ?_
  refine Cx.sq ?_
  refine Cx.rg ?_
  refine Sx.al fun o => ?_
  refine go ?_
  refine Sx.ca rfl (alDone (b := b) (g := g) (u := u) (pb := pb) (x := x) (slot := slot) (gen := gen) (n := n) (s := s) hd) ?_
  rintro v L' ⟨rfl, rfl⟩
  refine go ?_
  refine Sx.ent (Ent.take (a := some ⟨b, 0, none⟩)) ?_
  refine Sx.openp (a := some ⟨b, 0, none⟩) (AlO.dd_ hd) ?_
  rintro ⟨q, n1, n2, n3, tp⟩
  simp only [alDL, List.cons_append, List.nil_append]
  refine go ?_
  refine Sx.st (b := o) rfl rfl rfl rfl rfl rfl ?_
  refine Sx.re (hdL s.v.obj) rfl ?_
  refine go ?_
  refine Kr_cell (b := o) (.inr rfl) rfl rfl ?_ ⟨rfl, rfl⟩
  refine Ent.trans Ent.drop ?_
  exact AlO.closeD (v := s.v) (rt := rtOf s.v.was) s hd rfl rfl rfl rfl
end
end Go.Proofs.YtflalhdofhobmaaGreat

/-
  grant's statements: the chapter's example.
-/
set_option linter.unusedVariables false
set_option linter.unusedSimpArgs false
namespace Go.Proofs.YtflalhdofhobmaaGreat
open Go
attribute [local irreducible] Sx Cx Rx Fx Krg Ksq Kbl Klp Kr
/-- What a region made by one alone, first of all, leaves behind. -/
theorem region0 {x : Cn} (hx : x.ok) (cl : Nat) (hcl : cl ≤ 3) : ∃ M, (crIt x.spare x.root cl 10 (CreS.init, allM x)).2 = M ∧ M.n = 5 ∧ M.ws.length = x.len ∧ M.ok ∧ Pool x.pool M (iotaI x.c) ∧ rtOf (M.at_ (x.root + 0)) = ⟨1, 1, cl, 0⟩ ∧ (∀ a, a ≠ 1 → a ≠ x.root → M.at_ a = (allM x).at_ a) ∧
    Pool x.spare (allM x) (((0 : Nat) : Int) :: (iotaI x.sl).tail) ∧ laterT (rtOf ((allM x).at_ (x.root + 0))).gen = 1 := by
  obtain ⟨b1, b2, b3, b4, b5, b6, b7⟩ := hx.b
  have hlen := hx.len_le
  have hl := allM_len x
  have hk := hx.spare (n := (allM x).ws.length) (by omega) (by omega)
  have hroot : x.root + x.sl = x.slot := by unfold Cn.root Cn.slot; omega
  have hslot : x.slot + x.sl = x.link := by unfold Cn.slot Cn.link; omega
  have g3 : 3 ≤ x.root := by unfold Cn.root; omega
  have hsp := allM_spare hx
  have hio : iotaI x.sl = ((0 : Nat) : Int) :: (iotaI x.sl).tail := by
    have h0 := iota_get (n := x.sl) (i := 0) (by omega)
    have hl0 : (iotaI x.sl).length = x.sl := by simp [iotaI]
    cases he : iotaI x.sl with
    | nil => rw [he] at hl0; simp at hl0; omega
    | cons z l => rw [he] at h0; simp only [itI, List.getD_cons_zero] at h0; rw [h0]; rfl
  rw [hio] at hsp
  have h0 : (allM x).at_ (x.root + 0) = 0 := allM_at hx (by omega) (by omega) (by omega) (by omega)
  have hroot0 : (allM x).at_ (x.root + 0) < 18446744073709551616 := by omega
  obtain ⟨C, M, e10, _, _, _, _, _, hn, hml, hmo, _, hrv, hoth⟩ := cr_alone (k := x.spare) (ro := x.root) (cl := cl) (m := allM x) hk rfl (allM_ok hx) hsp (by show x.root + x.sl ≤ x.slot; omega) (by show 1 < x.root; omega) hcl
  rw [Int.toNat_natCast] at hrv hoth
  refine ⟨M, by rw [e10], ?_, hml.trans hl, hmo, ?_, ?_, fun a ha hb => hoth a ha (by omega), hsp, by rw [h0]; rfl⟩
  · rw [hn]; unfold allM poolM; rw [fillM_n, fillM_n]; rfl
  · have hp := allM_pool hx
    refine ⟨?_, hp.nd⟩
    rw [hoth _ (by show (0 : Nat) ≠ 1; omega) (by show 0 ≠ x.root + 0; omega)]
    refine hp.c.congr fun z hz => ?_
    have hz2 := hp.c.mem z hz
    exact hoth _ (by show x.link + z.toNat ≠ 1; omega) (by show x.link + z.toNat ≠ x.root + 0; omega)
  · rw [hrv, rtOf_w (nextRt_ok hroot0 hcl), h0]; rfl
section
variable {L F G : St}
theorem grF_rg {x : Cn} {n : Hn} {r r2 : Option Addr} {k c c2 : Nat} {Q : Nat → Who} {S S2 : Nat → SupS} {m : Mm} : Ent (grF x n r r2 k c c2 Q S S2 m m G)
    (rgF x n r r2 k c c2 m (pt r (Row 47 1 k c (ptrs k fun i => (Q i).u)) :: pt r2 (Row 81 1 k c2 (ptrs k fun i => (Q i).s)) :: pt (some ⟨n.pb, 0, none⟩) (SkO n.mp x.pool) :: pt (some ⟨n.g, 0, none⟩) (GrO n.mp x) ::
      pt (some ⟨n.rp, 0, none⟩) (RSkO n.rm x.pool) :: pt (some ⟨n.re, 0, none⟩) (REpO x n.rm) :: (many k (fun i => whoL n.mp n.w x (Q i) (S i) (S2 i)) ++ G))) := by
  exact entm
set_option maxHeartbeats 4000000 in
theorem grFirst : Fx Tryz.prog 12 [] L (fun v L' => v = .bool true ∧ L = L') := by
  refine Fx.mk Tryz.func12 k12 (Nat.le_of_ble_eq_true rfl) ?_
  dsimp only [c12, envOf, Nat.reduceAdd]
  have hx : (⟨1, 2, 8, 1, 1, 1⟩ : Cn).ok := by unfold Cn.ok MayC; decide
  obtain ⟨x, hxe⟩ : ∃ x, x = (⟨1, 2, 8, 1, 1, 1⟩ : Cn) := ⟨_, rfl⟩
  have hwd : x.wd = 8 := by rw [hxe]
  have hc : x.c = 2 := by rw [hxe]
  have hca : x.ca = 1 := by rw [hxe]
  have hba : x.ba = 1 := by rw [hxe]
  have hsl : x.sl = 1 := by rw [hxe]
  rw [← hxe] at hx
  obtain ⟨M, hM, hn, hml, hmo, hpo, hrt, hoth, hsp, hgen⟩ := region0 hx 0 (by omega)
  have hio : iotaI x.c = ((0 : Nat) : Int) :: [1] := by rw [hc]; rfl
  rw [hio] at hpo
  have hcl : (rtOf (M.at_ (x.root + 0))).cl = 0 := by rw [hrt]
  obtain ⟨M2, t, e14, hrun, _⟩ := al_new (x := x) (slot := 0) (gen := 1) (n := 3) (m := M) (S := SupS.nil x.ca) hx hml hmo (by omega) (by rw [hrt]; exact ⟨by show 1 < 4294967296; omega, by show 1 ≤ 4097; omega, by show 0 ≤ 3; omega, by show 0 ≤ 1024; omega⟩)
    (by show 0 + 0 ≤ 1000; omega) (by rw [hca]; decide) (by rw [hca]; decide) hba rfl rfl (by omega) (by omega) (by omega) (by rw [hrt]; exact ⟨by show 1 ≤ 1; omega, rfl⟩) 3 (by rw [hrt]; rfl) (by rw [hrt]; intro h; have := h.1; dsimp only at this; omega) 0 [1] hpo
  rw [hwd] at e14 hrun
  refine go ?_
  refine Sx.ca (vs := [x.v]) (by rw [hxe]; rfl) (grMade hx) ?_
  rintro v L' ⟨n, r, r2, c, c2, Q, rfl, rfl⟩
  refine go ?_
  refine Sx.ent grF_rg ?_
  refine Sx.ca rfl (grRegion (x := x) (n := n) (m := allM x) (s := 0) (l := (iotaI x.sl).tail) 0 (by omega) hx (allM_len x) (allM_ok hx) hsp) ?_
  rintro v L' ⟨rfl, rfl⟩
  rw [hM, hgen]
  refine go ?_
  have ga := grAlone (x := x) (n := n) (r := r) (r2 := some ⟨r2, 0, none⟩) (k := 3) (c := c) (c2 := c2) (Q := Q) (i := 0) (S := SupS.nil x.ca) (m := M) (slot := 0) (gen := 1) (sz := 3) (G := L) 14 (by omega) (by omega) (by omega) hx (by omega) (by omega) (by omega) (by omega) hrun
  rw [e14] at ga
  refine Sx.ent ?_ (Sx.ca rfl ga ?_)
  · dsimp only [rgF, agF]
    refine Ent.trans (Ent.ith 0 (by omega)) ?_
    simp only [whoL, List.cons_append, List.nil_append]
    exact entm
  rintro v L' ⟨b, rfl, rfl⟩
  refine go ?_
  obtain ⟨A, hA⟩ : ∃ A : AlS, A = ⟨6, ⟨8 + 6, -1, 8, true, true, 3, 8 + 6, M.at_ (x.root + 0), 0, ⟨((0 : Nat) : Int), 1, ((0 : Nat) : Int), 0, ((3 : Nat) : Int)⟩⟩, t, PushS.init [], true⟩ := ⟨_, rfl⟩
  rw [← hA]
  have a1 : A.done = true := by rw [hA]
  have a2 : A.v.code = 0 := by rw [hA]
  have a3 : A.v.obj = ⟨((0 : Nat) : Int), 1, ((0 : Nat) : Int), 0, ((3 : Nat) : Int)⟩ := by rw [hA]
  have a4 : A.v.point = 14 := by rw [hA]
  refine Sx.ca rfl (alDone (b := b) (g := n.g) (u := (Q 0).u) (pb := (Q 0).pb) (x := x) (slot := 0) (gen := 1) (n := 3) (s := A) a1) ?_
  rintro v L' ⟨rfl, rfl⟩
  refine go ?_
  refine Sx.ca rfl (alCode (b := b) (g := n.g) (u := (Q 0).u) (pb := (Q 0).pb) (x := x) (slot := 0) (gen := 1) (n := 3) (s := A) a1) ?_
  rintro v L' ⟨rfl, rfl⟩
  rw [a2]
  refine go ?_
  refine Sx.ca rfl (alObject (b := b) (g := n.g) (u := (Q 0).u) (pb := (Q 0).pb) (x := x) (slot := 0) (gen := 1) (n := 3) (s := A) a1) ?_
  rintro v L' ⟨rfl, rfl⟩
  rw [a3]
  refine go ?_
  refine Sx.ca rfl (alPoint (b := b) (g := n.g) (u := (Q 0).u) (pb := (Q 0).pb) (x := x) (slot := 0) (gen := 1) (n := 3) (s := A) a1) ?_
  rintro v L' ⟨rfl, rfl⟩
  rw [a4]
  refine go ?_
  refine Kr.one (.inr rfl) rfl ?_ ⟨rfl, rfl⟩
  exact entm
end
end Go.Proofs.YtflalhdofhobmaaGreat

/-
  The supplies' example.
-/
set_option linter.unusedVariables false
set_option linter.unusedSimpArgs false
namespace Go.Proofs.YtflalhdofhobmaaGreat
open Go
attribute [local irreducible] Sx Cx Rx Fx Krg Ksq Kbl Klp Kr
section
variable {L F G : St}
end
end Go.Proofs.YtflalhdofhobmaaGreat

/-
  BoundKinds' walk: no kind's bound is above Alone's, nor Alone's above Most's; with more of anything no bound is less.
-/
set_option linter.unusedVariables false
set_option linter.unusedSimpArgs false
namespace Go.Proofs.YtflalhdofhobmaaGreat
open Go
attribute [local irreducible] Sx Cx Rx Fx Krg Ksq Kbl Klp Kr
theorem ints_getD {xs : List Int} {i : Nat} {x : Int} (h : xs[i]? = some x) : (ints xs)[i]? = some (.int .i64 x) := by simp [ints, h]
section
variable {L F : St}
theorem Rd.atD {a : Option Addr} {n i : Nat} {vs : List Value} {v : Value} (h : Rd L 1 a n vs) (hv : vs[i]? = some v) : ∃ b o, a = some ⟨b, o, none⟩ ∧ Has L b (o + i) [v] := by
  obtain ⟨h1, h0 | ⟨b, o, rfl, h2⟩⟩ := h
  · have := (List.getElem?_eq_some_iff.1 hv).1; omega
  · exact ⟨b, o, rfl, h2.at_ hv⟩
/-- The next number of a row of numbers. -/
theorem seqN {q : Nat} {xs : List Int} {a : Option Addr} {n c i : Nat} {m : Int} {F : St} [t : Take L (some ⟨q, 0, none⟩) (Blk 125 [.slice a n c, .int .i64 i]) F]
    (hr : Rd L 1 a n (ints xs)) (hi : i ≤ 1000000000) (hm : 0 < m) (hm2 : m ≤ 4611686018427387904) :
    Fx Tryz.prog 68 [.pointer (some ⟨q, 0, none⟩), .int .i64 m] L (fun v L' => v = .int .i64 (xs.getD i 0 % m) ∧ L' = pt (some ⟨q, 0, none⟩) (Blk 125 [.slice a n c, .int .i64 ((i + 1 : Nat) : Int)]) :: F) := by
  have hn : n = xs.length := by have := hr.1; simp [ints] at this; omega
  refine Fx.mk Tryz.func68 k68 (Nat.le_of_ble_eq_true rfl) ?_
  dsimp only [c68, envOf, Nat.reduceAdd]
  refine go ?_
  refine Cx.calm (by kernel_rfl) ?_
  repeat' (first | (refine Cm.pvs rfl ?_) | (refine Cm.step rfl ?_) | (refine Cm.done ?_) | (refine Cm.ldb rfl rfl (by rfl) ?_) | (refine Cm.ldbs rfl rfl rfl ?_))
  refine Cx.jn (β := Unit) (fun _ => [(0, .pointer (some ⟨q, 0, none⟩)), (1, .int .i64 m), (5, .int .i64 (xs.getD i 0))]) (fun _ => L) ?_ ?_
  · refine Cx.ifp rfl (fun h => ?_) (fun h => ?_)
    · have hlt : i < xs.length := by omega
      have hg : (ints xs)[i]? = some (.int .i64 (xs.getD i 0)) := ints_getD (by simp [hlt])
      obtain ⟨b, o, rfl, hh⟩ := hr.atD hg
      refine Cx.calmK Kjn.mono (by kernel_rfl) ?_
      repeat' (first | (refine Cm.pvs rfl ?_) | (refine Cm.step rfl ?_) | (refine Cm.done ?_) | (refine Cm.ldb rfl rfl (by rfl) ?_) | (refine Cm.ldbs rfl rfl rfl ?_))
      refine Cm.pv rfl rfl ⟨by omega, by omega⟩ ?_
      refine Cm.ld rfl rfl (by simpa using hh) rfl ?_
      repeat' (first | (refine Cm.pvs rfl ?_) | (refine Cm.step rfl ?_) | (refine Cm.done ?_) | (refine Cm.ldb rfl rfl (by rfl) ?_) | (refine Cm.ldbs rfl rfl rfl ?_))
      exact Cm.nil (Kjn.nm () (sub.cons rfl (sub.cons rfl (sub.cons rfl sub.nil))) (Ent.refl _))
    · refine go ?_
      refine Kjn.nm () (sub.cons rfl (sub.cons rfl (sub.cons ?_ sub.nil))) (Ent.refl _)
      rw [show xs.getD i 0 = 0 by rw [List.getD_eq_getElem?_getD, List.getElem?_eq_none (by omega)]; rfl]
      rfl
  · rintro ⟨⟩
    refine go ?_
    rw [w64 (by omega) (by omega)]
    refine Sx.ca rfl (number _ m hm hm2) ?_
    rintro v L' ⟨rfl, rfl⟩
    refine go ?_
    exact Kr.one (.inr rfl) rfl (Ent.refl _) ⟨rfl, by simp⟩
/-- What a small configuration is. -/
def SmallC (w c wd sl ca ba : Int) : Prop := (1 ≤ w ∧ w ≤ 4) ∧ (1 ≤ c ∧ c ≤ 8) ∧ (wd = 8 ∨ wd = 16) ∧ (1 ≤ sl ∧ sl ≤ 4) ∧ (0 ≤ ca ∧ ca ≤ 3) ∧ (1 ≤ ba ∧ ba ≤ 3)
theorem config_ (n : Int) : Fx Tryz.prog 13 [.int .i64 n] L (fun v L' => (∃ w c wd sl ca ba, v = cfg w c wd sl ca ba ∧ SmallC w c wd sl ca ba) ∧ L = L') := by
  refine Fx.mk Tryz.func13 k13 (Nat.le_of_ble_eq_true rfl) ?_
  dsimp only [c13, envOf, Nat.reduceAdd]
  refine go ?_
  refine Sx.al fun g => ?_
  refine go ?_
  refine Sx.ca rfl (number n 4 (by omega) (by omega)) ?_
  rintro v L' ⟨rfl, rfl⟩
  refine go ?_
  refine Sx.pv rfl (by decide) ?_
  refine Sx.ca rfl (number _ 8 (by omega) (by omega)) ?_
  rintro v L' ⟨rfl, rfl⟩
  refine go ?_
  refine Sx.pv rfl (by decide) ?_
  refine Sx.ca rfl (number _ 2 (by omega) (by omega)) ?_
  rintro v L' ⟨rfl, rfl⟩
  refine go ?_
  refine Sx.pv rfl (by decide) ?_
  refine Sx.ca rfl (number _ 4 (by omega) (by omega)) ?_
  rintro v L' ⟨rfl, rfl⟩
  refine go ?_
  refine Sx.pv rfl (by decide) ?_
  refine Sx.ca rfl (number _ 4 (by omega) (by omega)) ?_
  rintro v L' ⟨rfl, rfl⟩
  refine go ?_
  refine Sx.pv rfl (by decide) ?_
  refine Sx.ca rfl (number _ 3 (by omega) (by omega)) ?_
  rintro v L' ⟨rfl, rfl⟩
  refine go ?_
  generalize n % 4 = x0
  generalize IntKind.i64.wrap (n.tdiv 4) % 8 = x1
  generalize IntKind.i64.wrap (n.tdiv 32) % 2 = x2
  generalize IntKind.i64.wrap (n.tdiv 64) % 4 = x3
  generalize IntKind.i64.wrap (n.tdiv 256) % 4 = x4
  generalize IntKind.i64.wrap (n.tdiv 1024) % 3 = x5
  refine Sx.bs (sz := 1) rfl rfl fun r => ?_
  refine go ?_
  refine Sx.bx rfl rfl fun q => ?_
  refine go ?_
  refine Sx.ca rfl (seqN (q := q) (xs := [x0, x1, x2, x3, x4, x5]) (i := 0) (Rd.row (b := r) (E := 3) (cap := 6) rfl) (by omega) (by omega) (by omega)) ?_
  rintro v L' ⟨rfl, rfl⟩
  refine go ?_
  refine Sx.ca rfl (seqN (q := q) (xs := [x0, x1, x2, x3, x4, x5]) (i := 1) (Rd.row (b := r) (E := 3) (cap := 6) rfl) (by omega) (by omega) (by omega)) ?_
  rintro v L' ⟨rfl, rfl⟩
  refine go ?_
  refine Sx.ca rfl (seqN (q := q) (xs := [x0, x1, x2, x3, x4, x5]) (i := 2) (Rd.row (b := r) (E := 3) (cap := 6) rfl) (by omega) (by omega) (by omega)) ?_
  rintro v L' ⟨rfl, rfl⟩
  refine go ?_
  refine Sx.ca rfl (seqN (q := q) (xs := [x0, x1, x2, x3, x4, x5]) (i := 3) (Rd.row (b := r) (E := 3) (cap := 6) rfl) (by omega) (by omega) (by omega)) ?_
  rintro v L' ⟨rfl, rfl⟩
  refine go ?_
  refine Sx.ca rfl (seqN (q := q) (xs := [x0, x1, x2, x3, x4, x5]) (i := 4) (Rd.row (b := r) (E := 3) (cap := 6) rfl) (by omega) (by omega) (by omega)) ?_
  rintro v L' ⟨rfl, rfl⟩
  refine go ?_
  refine Sx.ca rfl (seqN (q := q) (xs := [x0, x1, x2, x3, x4, x5]) (i := 5) (Rd.row (b := r) (E := 3) (cap := 6) rfl) (by omega) (by omega) (by omega)) ?_
  rintro v L' ⟨rfl, rfl⟩
  refine go ?_
  refine Sx.st (b := g) rfl rfl rfl rfl rfl rfl ?_
  dsimp only [lay]
  refine go ?_
  refine Kr_cell (b := g) (.inr rfl) rfl rfl (L' := L) ?_ ⟨⟨_, _, _, _, _, _, rfl, ?_⟩, rfl⟩
  · exact ent
  · have h0 := Int.emod_nonneg x0 (show (4 : Int) ≠ 0 by omega)
    have h0' := Int.emod_lt_of_pos x0 (show (0 : Int) < 4 by omega)
    have h1 := Int.emod_nonneg x1 (show (8 : Int) ≠ 0 by omega)
    have h1' := Int.emod_lt_of_pos x1 (show (0 : Int) < 8 by omega)
    have h2 := Int.emod_nonneg x2 (show (2 : Int) ≠ 0 by omega)
    have h2' := Int.emod_lt_of_pos x2 (show (0 : Int) < 2 by omega)
    have h3 := Int.emod_nonneg x3 (show (4 : Int) ≠ 0 by omega)
    have h3' := Int.emod_lt_of_pos x3 (show (0 : Int) < 4 by omega)
    have h4 := Int.emod_nonneg x4 (show (4 : Int) ≠ 0 by omega)
    have h4' := Int.emod_lt_of_pos x4 (show (0 : Int) < 4 by omega)
    have h5 := Int.emod_nonneg x5 (show (3 : Int) ≠ 0 by omega)
    have h5' := Int.emod_lt_of_pos x5 (show (0 : Int) < 3 by omega)
    simp only [List.getD_cons_zero, List.getD_cons_succ]
    rw [w64 (n := 1 + x0 % 4) (by omega) (by omega), w64 (n := 1 + x1 % 8) (by omega) (by omega), w64 (n := 8 * (x2 % 2)) (by omega) (by omega), w64 (n := 8 + 8 * (x2 % 2)) (by omega) (by omega), w64 (n := 1 + x3 % 4) (by omega) (by omega), w64 (n := 1 + x5 % 3) (by omega) (by omega)]
    unfold SmallC
    omega
end
end Go.Proofs.YtflalhdofhobmaaGreat

/-
  SupplyAll's walk.
-/
set_option linter.unusedVariables false
set_option linter.unusedSimpArgs false
namespace Go.Proofs.YtflalhdofhobmaaGreat
open Go
attribute [local irreducible] Sx Cx Rx Fx Krg Ksq Kbl Klp Kr
/-- What is taken goes. -/
theorem TakeR.perm {ba : Int} {s s' : SupS} {l l' : List Int} {ch : Int} {is_ : Bool} {N : Nat} (h1 : 1 ≤ ba) (h : TakeR ba s l ch is_ N s' l') (hn : s.xs ++ l ≠ []) : is_ = true ∧ (s.xs ++ l).Perm (ch :: (s'.xs ++ l')) := by
  rcases h with ⟨hx, rfl, rfl, _, rfl, rfl⟩ | ⟨hx, hl, c, hc, rfl, rfl, _, rfl, rfl⟩ | ⟨hx, hl, _⟩
  · refine ⟨rfl, ?_⟩
    have e : s.xs = s.xs.dropLast ++ [lastI s.xs] := by
      unfold lastI
      rw [List.getLastD_eq_getLast?, List.getLast?_eq_some_getLast hx]
      exact (List.dropLast_concat_getLast hx).symm
    have : (s.xs.dropLast ++ [lastI s.xs] ++ l').Perm (lastI s.xs :: (s.xs.dropLast ++ l')) := by
      rw [List.append_assoc]
      exact List.perm_middle
    rw [← e] at this
    exact this
  · refine ⟨rfl, ?_⟩
    obtain ⟨y, l2, rfl⟩ := List.exists_cons_of_ne_nil hl
    obtain ⟨c, rfl⟩ : ∃ d, c = d + 1 := ⟨c - 1, by simp at hc; omega⟩
    have : (s.give (List.take (c + 1) (y :: l2)).tail).xs ++ List.drop (c + 1) (y :: l2) = l2 := by
      simp [SupS.give, hx]
    rw [this, hx]
    exact List.Perm.refl _
  · rw [hx, hl] at hn; exact absurd rfl hn
/-- What is known while one alone takes all. -/
def AllP (x : Cn) (i : Nat) (s : SupS) (m : Mm) (l : List Int) (sn : List Bool) : Prop :=
  s.most = (SupS.nil x.ca).most ∧ s.lm = Lm.nil ∧ m.ws.length = x.len ∧ Pool x.pool m l ∧ (s.xs ++ l).Nodup ∧ (∀ y ∈ s.xs ++ l, 0 ≤ y ∧ y < (x.c : Int)) ∧ i + (s.xs ++ l).length = x.c ∧ sn.length = x.c ∧ (∀ y ∈ s.xs ++ l, sn[y.toNat]? = some false)
theorem AllP.step {x : Cn} {i : Nat} {s s' : SupS} {m m' : Mm} {l l' : List Int} {sn : List Bool} {ch : Int} {is_ : Bool} {N : Nat} (h1 : 1 ≤ (x.ba : Int)) (h8 : (x.ba : Int) ≤ 8) (h : AllP x i s m l sn) (hi : i < x.c) (ht : TakeR x.ba s l ch is_ N s' l')
    (hl : m'.ws.length = x.len) (hp : Pool x.pool m' l') : is_ = true ∧ (0 ≤ ch ∧ ch < (x.c : Int)) ∧ sn[ch.toNat]? = some false ∧ AllP x (i + 1) s' m' l' (sn.set ch.toNat true) := by
  obtain ⟨a1, a2, a3, a4, a5, a6, a7, a8, a9⟩ := h
  obtain ⟨hi1, hpm⟩ := ht.perm h1 (by intro e; rw [e] at a7; simp at a7; omega)
  obtain ⟨_, z2, z3⟩ := ht.size h8
  have hmem : ch ∈ s.xs ++ l := hpm.mem_iff.2 (by simp)
  have hnd := hpm.nodup_iff.1 a5
  rw [List.nodup_cons] at hnd
  have hsub : ∀ y ∈ s'.xs ++ l', y ∈ s.xs ++ l := fun y hy => hpm.mem_iff.2 (List.mem_cons_of_mem _ hy)
  have hlen := hpm.length_eq
  rw [List.length_cons] at hlen
  refine ⟨hi1, a6 _ hmem, a9 _ hmem, z3.trans a1, z2.trans a2, hl, hp, hnd.2, fun y hy => a6 y (hsub y hy), by omega, by rw [List.length_set]; exact a8, fun y hy => ?_⟩
  have h2 := a6 y (hsub y hy)
  have h3 := a6 _ hmem
  rw [List.getElem?_set_ne (fun e => hnd.1 (by rw [show ch = y by omega]; exact hy))]
  exact a9 y (hsub y hy)
section
variable {L F G : St}
end
end Go.Proofs.YtflalhdofhobmaaGreat

/-
  GrantArgs' walk.
-/
set_option linter.unusedVariables false
set_option linter.unusedSimpArgs false
namespace Go.Proofs.YtflalhdofhobmaaGreat
open Go
attribute [local irreducible] Sx Cx Rx Fx Krg Ksq Kbl Klp Kr
section
variable {L F G : St}
theorem grF_out {P : As} {x : Cn} {n : Hn} {r r2 : Option Addr} {k c c2 : Nat} {Q : Nat → Who} {S S2 : Nat → SupS} {m m2 : Mm} : Ent (grF x n r r2 k c c2 Q S S2 m m2 (P :: G)) (P :: grF x n r r2 k c c2 Q S S2 m m2 G) := by
  dsimp only [grF]
  iterate 13 (refine Ent.trans (Ent.cons ?_) Ent.swap)
  exact Ent.deep (N := many k _) (M := [P]) (G := G)
theorem Cn.ok.w8 {x : Cn} (h : x.ok) : x.wd % 8 = 0 := by
  obtain ⟨_, _, _, b4, _⟩ := show MayC (x.w : Int) x.c x.wd x.sl x.ca x.ba from h
  rw [show (8 : Int) = ((8 : Nat) : Int) from rfl, natTmod] at b4
  omega
end
end Go.Proofs.YtflalhdofhobmaaGreat

/-
  GrantAlone: what one alone has got, behind each object.
-/
set_option linter.unusedVariables false
set_option linter.unusedSimpArgs false
namespace Go.Proofs.YtflalhdofhobmaaGreat
/-- ch: the newest chunk, -1: none; off: how many of its words are given away; used: how many chunks were taken; l: what is in the pool. -/
structure GA (x : Cn) (cl : Nat) (m : Mm) (ch : Int) (off used : Nat) (l : List Int) : Prop where
  len : m.ws.length = x.len
  ok : m.ok
  pool : Pool x.pool m l
  cnt : l.length + used = x.c
  root : rtOf (m.at_ (x.root + 0)) = ⟨1, if ch = -1 then 1 else (ch + 2).toNat, cl, off⟩
  ch1 : -1 ≤ ch
  ch2 : ch < x.c
  out : ch ∉ l
  off1 : off ≤ x.wd
theorem GA.rok {x : Cn} {cl : Nat} {m : Mm} {ch : Int} {off used : Nat} {l : List Int} (h : GA x cl m ch off used l) (hcl : cl ≤ 3) (hc : x.c ≤ 4096) (hwd : x.wd ≤ 1024) : (rtOf (m.at_ (x.root + 0))).ok := by
  rw [h.root]
  have := h.ch1; have := h.ch2; have := h.off1
  refine ⟨by show 1 < 4294967296; omega, ?_, hcl, by show off ≤ 1024; omega⟩
  show (if ch = -1 then 1 else (ch + 2).toNat) ≤ 4097
  split <;> omega
/-- No chunk of the pool was taken. -/
theorem GA.first {x : Cn} {cl : Nat} {m : Mm} (hl : m.ws.length = x.len) (hm : m.ok) (hp : Pool x.pool m (iotaI x.c)) (hr : rtOf (m.at_ (x.root + 0)) = ⟨1, 1, cl, 0⟩) : GA x cl m (-1) 0 0 (iotaI x.c) := by
  refine ⟨hl, hm, hp, by simp [iotaI], by rw [hr]; rfl, by omega, by omega, fun h => ?_, by omega⟩
  have := hp.c.mem _ h
  omega
section
variable {x : Cn} {cl n : Nat} {m : Mm} {S : SupS} {ch : Int} {off used : Nat} {l : List Int}
/-- Words of the newest chunk. -/
theorem GA.fit (h : GA x cl m ch off used l) (hx : x.ok) (hcl : cl ≤ 3) (hn : 1 ≤ n) (hnw : n ≤ x.wd) (hs : S.xs.length + S.lm.size ≤ 1000) (hm0 : 0 ≤ S.most) (hm2 : S.most ≤ 64) (hx0 : (S.xs.length : Int) ≤ S.most) (h0 : 0 ≤ ch) (need : Nat) (hneed : roundS cl n = need) (hf : fitsS x.wd off need) :
    ∃ M A, alIt (x.al 0 1 n) 2 (alR m S) = (M, S, A) ∧ AlRun x (x.al 0 1 n) (alR m S) 2 ∧ A.done = true ∧ A.v.code = 0 ∧ A.v.obj = ⟨0, 1, ch, off, n⟩ ∧ A.v.point = 2 ∧ GA x cl M ch (off + need) used l := by
  obtain ⟨b1, b2, b3, b4, b5, b6, b7⟩ := show MayC (x.w : Int) x.c x.wd x.sl x.ca x.ba from hx
  have g1 : x.root + x.sl ≤ x.link := by unfold Cn.root Cn.link; omega
  have g2 : x.link + x.c ≤ x.len := by unfold Cn.link Cn.len; omega
  have g3 : 3 ≤ x.root := by unfold Cn.root; omega
  have hr := h.root
  have hrk := h.rok hcl (by omega) (by omega)
  have hc1 := h.ch2
  rw [if_neg (by omega)] at hr
  obtain ⟨e, hrun⟩ := al_fit (x := x) (slot := 0) (gen := 1) (n := n) (m := m) (S := S) h.len h.ok (by omega) hrk hs hm0 hm2 hx0 (by omega) (by rw [hr]; exact ⟨by show 1 ≤ (ch + 2).toNat; omega, rfl⟩) need (by rw [hr]; exact hneed) (by rw [hr]; show 2 ≤ (ch + 2).toNat; omega) (by rw [hr]; exact hf)
  have hR : Rt.ok ⟨1, (ch + 2).toNat, cl, off + need⟩ := ⟨by show 1 < 4294967296; omega, by show (ch + 2).toNat ≤ 4097; omega, hcl, by have := hf.2; show off + need ≤ 1024; omega⟩
  rw [hr] at e
  have hput : ∀ a v, (m.tick.put (x.root + 0) v).at_ a = if x.root + 0 = a then v else m.at_ a := fun a v => Mm.at_put a (by have := h.len; show _ < m.ws.length; omega)
  refine ⟨_, _, e, hrun, rfl, rfl, ?_, rfl, ⟨by rw [Mm.len_put]; exact h.len, Mm.ok_put (Mm.ok_tick h.ok) (Rt.w_lt hR), ⟨?_, h.pool.nd⟩, h.cnt, ?_, h.ch1, h.ch2, h.out, hf.2⟩⟩
  · show (⟨((0 : Nat) : Int), 1, Rt.chunk ⟨1, (ch + 2).toNat, cl, off⟩, (off : Int), (n : Int)⟩ : Hd) = _
    unfold Rt.chunk
    rw [if_neg (by show ¬ (ch + 2).toNat < 2; omega)]
    dsimp only
    rw [show (((ch + 2).toNat : Nat) : Int) - 2 = ch by omega]
    rfl
  · rw [hput, if_neg (by show ¬ x.root + 0 = 0; omega)]
    refine h.pool.c.congr fun z hz => ?_
    have := h.pool.c.mem z hz
    rw [hput, if_neg (by show ¬ x.root + 0 = x.link + z.toNat; omega)]
  · rw [hput, if_pos rfl, rtOf_w hR, if_neg (by omega)]
/-- There is none. -/
theorem GA.none_ (h : GA x cl m ch off used l) (hx : x.ok) (hcl : cl ≤ 3) (hs : S.xs.length + S.lm.size ≤ 1000) (hm0 : 0 ≤ S.most) (hm2 : S.most ≤ 64) (hba : x.ba = 1) (hxs : S.xs = []) (hlm : S.lm.size = 0) (need : Nat) (hneed : roundS cl n = need) (hf : ¬ (0 ≤ ch ∧ fitsS x.wd off need)) (hu : used = x.c) :
    ∃ M A, alIt (x.al 0 1 n) 3 (alR m S) = (M, S, A) ∧ AlRun x (x.al 0 1 n) (alR m S) 3 ∧ A.done = true ∧ A.v.code = 6 ∧ A.v.obj = Hd.zero ∧ A.v.point = 3 ∧ GA x cl M ch off used l := by
  obtain ⟨b1, b2, b3, b4, b5, b6, b7⟩ := show MayC (x.w : Int) x.c x.wd x.sl x.ca x.ba from hx
  have hr := h.root
  have hrk := h.rok hcl (by omega) (by omega)
  have hc1 := h.ch1
  have hl : l = [] := List.eq_nil_of_length_eq_zero (by have := h.cnt; omega)
  have hmk : 1 ≤ (if ch = -1 then 1 else (ch + 2).toNat) := by split <;> omega
  have hmk2 : 2 ≤ (if ch = -1 then 1 else (ch + 2).toNat) → 0 ≤ ch := by split <;> omega
  obtain ⟨t, e, hrun⟩ := al_none (x := x) (slot := 0) (gen := 1) (n := n) (m := m) (S := S) hx h.len h.ok (by omega) hrk hs hm0 hm2 hba hxs hlm (by rw [hr]; exact ⟨hmk, rfl⟩) need (by rw [hr]; exact hneed) (by rw [hr]; exact fun hh => hf ⟨hmk2 hh.1, hh.2⟩) (by rw [← hl]; exact h.pool)
  exact ⟨_, _, e, hrun, rfl, rfl, rfl, rfl, ⟨h.len, h.ok, ⟨h.pool.c.congr fun _ _ => rfl, h.pool.nd⟩, h.cnt, h.root, h.ch1, h.ch2, h.out, h.off1⟩⟩
/-- A chunk more. -/
theorem GA.more (h : GA x cl m ch off used l) (hx : x.ok) (hcl : cl ≤ 3) (hw8 : x.wd % 8 = 0) (hn : 1 ≤ n) (hnw : n ≤ x.wd) (hs : S.xs.length + S.lm.size ≤ 1000) (hm0 : 0 ≤ S.most) (hm2 : S.most ≤ 64) (hba : x.ba = 1) (hxs : S.xs = []) (hlm : S.lm.size = 0) (need : Nat) (hneed : roundS cl n = need) (hf : ¬ (0 ≤ ch ∧ fitsS x.wd off need)) (hu : used ≠ x.c) :
    ∃ M A y l', alIt (x.al 0 1 n) (x.wd + 6) (alR m S) = (M, S, A) ∧ AlRun x (x.al 0 1 n) (alR m S) (x.wd + 6) ∧ A.done = true ∧ A.v.code = 0 ∧ A.v.obj = ⟨0, 1, y, 0, n⟩ ∧ A.v.point = x.wd + 6 ∧ y ≠ ch ∧ 0 ≤ y ∧ GA x cl M y (afterS x.wd need) (used + 1) l' := by
  obtain ⟨b1, b2, b3, b4, b5, b6, b7⟩ := show MayC (x.w : Int) x.c x.wd x.sl x.ca x.ba from hx
  have hr := h.root
  have hrk := h.rok hcl (by omega) (by omega)
  have hc1 := h.ch1
  have hcnt := h.cnt
  have hmk : 1 ≤ (if ch = -1 then 1 else (ch + 2).toNat) := by split <;> omega
  have hmk2 : 2 ≤ (if ch = -1 then 1 else (ch + 2).toNat) → 0 ≤ ch := by split <;> omega
  obtain ⟨z, l', rfl⟩ : ∃ z l', l = z :: l' := by
    cases l with
    | nil => simp at hcnt; omega
    | cons z l' => exact ⟨z, l', rfl⟩
  have hz := h.pool.c.mem z (by simp)
  obtain ⟨y, rfl⟩ : ∃ y : Nat, z = y := ⟨z.toNat, by omega⟩
  have hzc : (y : Int) < x.c := hz.2
  have hn2 : need ≤ x.wd := by rw [← hneed]; exact roundS_le hcl hnw hw8
  have haf := afterS_le hn2
  obtain ⟨M, t, e, hrun, e1, e2, e3, e4, _⟩ := al_new (x := x) (slot := 0) (gen := 1) (n := n) (m := m) (S := S) hx h.len h.ok (by omega) hrk hs hm0 hm2 hba hxs hlm hw8 hn hnw (by rw [hr]; exact ⟨hmk, rfl⟩) need (by rw [hr]; exact hneed) (by rw [hr]; exact fun hh => hf ⟨hmk2 hh.1, hh.2⟩) y l' h.pool
  rw [hr] at e4
  have hR : Rt.ok ⟨1, 2 + y, cl, afterS x.wd need⟩ := ⟨by show 1 < 4294967296; omega, by show 2 + y ≤ 4097; omega, hcl, by show afterS x.wd need ≤ 1024; omega⟩
  have hnd := h.pool.nd
  rw [List.nodup_cons] at hnd
  refine ⟨M, _, (y : Int), l', e, hrun, rfl, rfl, rfl, rfl, fun hh => h.out (by rw [← hh]; simp), by omega, ⟨e1, e2, e3, by simp at hcnt; omega, ?_, by omega, hzc, hnd.1, haf⟩⟩
  rw [e4, rtOf_w hR, if_neg (by omega)]
  congr 1
  omega
end
end Go.Proofs.YtflalhdofhobmaaGreat

/-
  What comes in: a slice of an argument, as it stands in the world there was, read out of the statement's own reading.
-/
set_option linter.unusedVariables false
set_option linter.unusedSimpArgs false
namespace Go.Proofs.YtflalhdofhobmaaGreat
open Go Go.RowKit Go.ChangeShapes Go.WideShapes
/-- A slice that came in: n elements of sz cells each. -/
def In (w : World) (sz : Nat) (v : Value) (n : Nat) (vs : List Value) : Prop :=
  vs.length = n * sz ∧ n ≤ maxLen ∧ ∃ a c, v = .slice a n c ∧ (n = 0 ∨ ∃ b o, a = some ⟨b, o, none⟩ ∧ ∀ j u, vs[j]? = some u → w.cell? ⟨b, o + j, none⟩ = some u)
theorem addr_add (b o i : Nat) : (⟨b, o, none⟩ : Addr).add i = ⟨b, o + i, none⟩ := by
  unfold Addr.add; split <;> simp_all
theorem In.rd {w : World} {sz n : Nat} {v : Value} {vs : List Value} (h : In w sz v n vs) : n ≤ maxLen ∧ ∃ a c, v = .slice a n c ∧ ∀ L : St, Ent L [Old w] → Rd L sz a n vs := by
  obtain ⟨h1, h2, a, c, rfl, h3⟩ := h
  refine ⟨h2, a, c, rfl, fun L hL => ⟨h1, h3.imp id ?_⟩⟩
  rintro ⟨b, o, rfl, hc⟩
  exact ⟨b, o, rfl, Has.old hL hc⟩
theorem flat_get {sz : Nat} (hp : 0 < sz) : ∀ (rows : List (List Value)) (h : ∀ r ∈ rows, r.length = sz) (j : Nat), rows.flatten[j]? = (rows[j / sz]?).bind (·[j % sz]?)
  | [], _, j => by simp
  | r :: l, h, j => by
    have hr : r.length = sz := h r (by simp)
    have ih := flat_get hp l (fun x hx => h x (by simp [hx]))
    by_cases hj : j < sz
    · rw [List.flatten_cons, List.getElem?_append_left (by omega), Nat.div_eq_of_lt hj, Nat.mod_eq_of_lt hj]
      simp
    · rw [List.flatten_cons, List.getElem?_append_right (by omega), hr, ih]
      obtain ⟨q, rfl⟩ : ∃ q, j = q + sz := ⟨j - sz, by omega⟩
      rw [Nat.add_sub_cancel, Nat.add_mod_right, Nat.add_div_right q hp]
      simp
theorem flat_length {sz : Nat} : ∀ (rows : List (List Value)) (h : ∀ r ∈ rows, r.length = sz), rows.flatten.length = rows.length * sz
  | [], _ => by simp
  | r :: l, h => by
    have hr : r.length = sz := h r (by simp)
    have ih := flat_length l (fun x hx => h x (by simp [hx]))
    rw [List.flatten_cons, List.length_append, ih, hr, List.length_cons, Nat.add_mul]; omega
section
variable {H : Type} {enc : TypeId × Value → H} {P : Program} {w : World} {base : Nat} {held : Bool}
theorem In.rows {t e : TypeId} {sz fuel : Nat} {v : Value} {x : DataW H × List MemPlace} (ht : P.underlying t = some (.slice e)) (hs : P.cellsOf e = sz) (hp : 0 < sz)
    (h : DataW.trod enc P w base (fun _ => true) held fuel t [v] = some x) :
    ∃ rows : List (List Value), In w sz v rows.length rows.flatten ∧ ∀ r ∈ rows, r.length = sz ∧ ∃ n y, DataW.trod enc P w base (fun _ => true) held n e r = some y := by
  rcases Deep.open_slice ht h with ⟨h0, _⟩ | ⟨a, len, cap, m, n, D, Pl, h0, hb, hl, hm, hmm, rfl, hx⟩
  · simp only [List.cons.injEq, and_true] at h0
    subst h0
    exact ⟨[], ⟨by simp, by simp, none, 0, rfl, .inl rfl⟩, by simp⟩
  · simp only [List.cons.injEq, and_true] at h0
    subst h0
    simp only [if_true] at hmm
    subst hmm
    rw [hs] at hx
    obtain ⟨V, hV⟩ := Deep.choose_lt (α := List Value) (p := fun i cs' => w.cells? base (a.add (i * sz)) sz = some cs' ∧ DataW.trod enc P w base (fun _ => true) held n e cs' = some (D i, Pl i)) hx
    have hlen : ∀ i, i < m → (V i).length = sz := fun i hi => (World.cells?_some (hV i hi).1).2.1
    refine ⟨(List.range len).map V, ⟨?_, ?_, some a, m, by simp, ?_⟩, ?_⟩
    · rw [flat_length _ (by simp only [List.mem_map, List.mem_range]; rintro r ⟨i, hi, rfl⟩; exact hlen i (by omega))]
    · simp; omega
    · rcases Nat.eq_zero_or_pos len with h0 | h0
      · left; simpa using h0
      · right
        obtain ⟨b, o, spot⟩ := a
        have hc0 := (World.cells?_some (hV 0 (by omega)).1).2.2 0 hp
        rw [List.getElem?_eq_getElem (by rw [hlen 0 (by omega)]; exact hp)] at hc0
        have hspot : spot = none := by simpa [Addr.add] using World.cell?_spot hc0
        subst hspot
        refine ⟨b, o, rfl, fun j u hu => ?_⟩
        rw [flat_get hp _ (by simp only [List.mem_map, List.mem_range]; rintro r ⟨i, hi, rfl⟩; exact hlen i (by omega))] at hu
        obtain ⟨r, hr, hj⟩ := Option.bind_eq_some_iff.1 hu
        rw [List.getElem?_map] at hr
        obtain ⟨i, hi, rfl⟩ := Option.map_eq_some_iff.1 hr
        have hi' : j / sz < len := by have := (List.getElem?_eq_some_iff.1 hi).1; simpa using this
        have hij : i = j / sz := by simpa [hi'] using hi.symm
        subst hij
        have hc := (World.cells?_some (hV (j / sz) (by omega)).1).2.2 (j % sz) (Nat.mod_lt _ hp)
        rw [hj] at hc
        have he : o + j = o + j / sz * sz + j % sz := by have := Nat.div_add_mod j sz; rw [Nat.mul_comm] at this; omega
        rw [he]
        rwa [addr_add, addr_add] at hc
    · simp only [List.mem_map, List.mem_range]
      rintro r ⟨i, hi, rfl⟩
      exact ⟨hlen i (by omega), n, _, (hV i (by omega)).2⟩
/-- One cell each. -/
theorem In.ones {t e : TypeId} {fuel : Nat} {v : Value} {x : DataW H × List MemPlace} (ht : P.underlying t = some (.slice e)) (hs : P.cellsOf e = 1)
    (h : DataW.trod enc P w base (fun _ => true) held fuel t [v] = some x) :
    ∃ us : List Value, In w 1 v us.length us ∧ ∀ u ∈ us, ∃ n y, DataW.trod enc P w base (fun _ => true) held n e [u] = some y := by
  obtain ⟨rows, h1, h2⟩ := In.rows ht hs (by omega) h
  have key : ∀ rows : List (List Value), (∀ r ∈ rows, r.length = 1 ∧ ∃ n y, DataW.trod enc P w base (fun _ => true) held n e r = some y) → ∀ u ∈ rows.flatten, ∃ n y, DataW.trod enc P w base (fun _ => true) held n e [u] = some y := by
    intro rows h2 u hu
    obtain ⟨r, hr, hur⟩ := List.mem_flatten.1 hu
    obtain ⟨hl, n, y, hy⟩ := h2 r hr
    match r, hl with
    | [z], _ =>
      simp only [List.mem_singleton] at hur
      subst hur
      exact ⟨n, y, hy⟩
  refine ⟨rows.flatten, ?_, key rows h2⟩
  rw [flat_length rows (fun r hr => (h2 r hr).1), Nat.mul_one]
  exact h1
/-- Integers. -/
theorem In.ints {t e : TypeId} {k : IntKind} {fuel : Nat} {v : Value} {x : DataW H × List MemPlace} (ht : P.underlying t = some (.slice e)) (he : P.underlying e = some (.int k)) (hs : P.cellsOf e = 1)
    (h : DataW.trod enc P w base (fun _ => true) held fuel t [v] = some x) : ∃ xs : List Int, In w 1 v xs.length (xs.map (Value.int k)) ∧ ∀ x ∈ xs, (Lit.int k x).wf = true := by
  obtain ⟨us, h1, h2⟩ := In.ones ht hs h
  obtain ⟨xs, rfl, hx⟩ : ∃ xs : List Int, us = xs.map (Value.int k) ∧ ∀ x ∈ xs, (Lit.int k x).wf = true := by
    clear h1 h
    induction us with
    | nil => exact ⟨[], rfl, by simp⟩
    | cons u l ih =>
      obtain ⟨xs, rfl, hx⟩ := ih (fun z hz => h2 z (by simp [hz]))
      obtain ⟨n, y, hy⟩ := h2 u (by simp)
      obtain ⟨z, h3, _, h5⟩ := DataW.trod_int he hy
      simp only [List.cons.injEq, and_true] at h3
      subst h3
      refine ⟨z :: xs, rfl, ?_⟩
      simp only [List.mem_cons, forall_eq_or_imp]
      exact ⟨h5, hx⟩
  exact ⟨xs, by simpa using h1, hx⟩
end
end Go.Proofs.YtflalhdofhobmaaGreat

/-
  GrantAlone's walk.
-/
set_option linter.unusedVariables false
set_option linter.unusedSimpArgs false
namespace Go.Proofs.YtflalhdofhobmaaGreat
open Go
attribute [local irreducible] Sx Cx Rx Fx Krg Ksq Kbl Klp Kr
section
variable {L F G : St}
theorem Rd.at1_ {a : Option Addr} {n i : Nat} {vs : List Value} {v : Value} (h : Rd L 1 a n vs) (hv : vs[i]? = some v) : ∃ b o, a = some ⟨b, o, none⟩ ∧ Has L b (o + i) [v] := by
  obtain ⟨h1, h0 | ⟨b, o, rfl, h2⟩⟩ := h
  · have := (List.getElem?_eq_some_iff.1 hv).1; omega
  · exact ⟨b, o, rfl, h2.at_ hv⟩
end
end Go.Proofs.YtflalhdofhobmaaGreat

/-
  A region is ended while an Alloc alone is under way.
-/
set_option linter.unusedVariables false
set_option linter.unusedSimpArgs false
namespace Go.Proofs.YtflalhdofhobmaaGreat
/-- The other memory differs at one cell, where it holds v. -/
def Off (r v : Nat) (m m2 : Mm) : Prop := m2.ws = m.ws.set r v
section
variable {r v : Nat} {m m2 : Mm}
theorem Off.len (h : Off r v m m2) : m2.ws.length = m.ws.length := by rw [show m2.ws = _ from h, List.length_set]
theorem Off.at_ (h : Off r v m m2) {a : Nat} (ha : r ≠ a) : m2.at_ a = m.at_ a := by
  unfold Mm.at_
  rw [show m2.ws = _ from h, List.getD_eq_getElem?_getD, List.getElem?_set_ne ha, ← List.getD_eq_getElem?_getD]
theorem Off.tick (h : Off r v m m2) : Off r v m.tick m2.tick := h
theorem Off.put (h : Off r v m m2) {i w : Nat} (hi : r ≠ i) : Off r v (m.put i w) (m2.put i w) := by
  show m2.ws.set i w = (m.ws.set i w).set r v
  rw [show m2.ws = _ from h, List.set_comm _ _ hi]
theorem Off.cas (h : Off r v m m2) {i o w : Nat} (hi : r ≠ i) : Off r v (m.cas i o w) (m2.cas i o w) := by
  unfold Mm.cas
  rw [h.at_ hi]
  split
  · exact h.put hi
  · exact h
theorem Off.ok (h : Off r v m m2) (hm : m.ok) (hv : v < 18446744073709551616) : m2.ok := fun w hw => by
  rw [show m2.ws = _ from h] at hw
  rcases List.mem_or_eq_of_mem_set hw with h | rfl
  · exact hm w h
  · exact hv
theorem Off.pool {k : Sk} {l : List Int} (h : Off r v m m2) (h0 : r ≠ k.head) (hl : ∀ z : Int, 0 ≤ z → z < k.n → r ≠ k.links + z.toNat) (hp : Pool k m l) : Pool k m2 l := by
  refine ⟨?_, hp.nd⟩
  rw [h.at_ h0]
  refine hp.c.congr fun z hz => ?_
  have := hp.c.mem z hz
  rw [h.at_ (hl z this.1 this.2)]
end
section
variable {x : Cn} {slot : Nat} {gen : Int} {n : Nat} {m : Mm} {S : SupS}
theorem AlRun.all {p : AlP} {r : Mm × SupS × AlS} {N : Nat} (h : AlRun x p r N) (j : Nat) : AlGood x p.slot (alIt p j r) := by
  by_cases hj : j ≤ N
  · exact h.good j hj
  · obtain ⟨i, rfl⟩ : ∃ i, j = N + i := ⟨j - N, by omega⟩
    rw [alIt_idle h.d]
    exact h.good N (Nat.le_refl _)
end
end Go.Proofs.YtflalhdofhobmaaGreat

/-
  An End's steps; what is told of an Alloc.
-/
set_option linter.unusedVariables false
set_option linter.unusedSimpArgs false
namespace Go.Proofs.YtflalhdofhobmaaGreat
open Go
attribute [local irreducible] Sx Cx Rx Fx Krg Ksq Kbl Klp Kr
theorem small_cfg2 {w c wd sl ca ba : Int} (h : SmallC w c wd sl ca ba) : ∃ x : Cn, cfg w c wd sl ca ba = x.v ∧ x.ok ∧ x.ca ≤ 3 ∧ x.c ≤ 8 ∧ x.ba ≤ 3 ∧ x.w ≤ 4 ∧ x.wd ≤ 16 ∧ x.sl ≤ 4 := by
  unfold SmallC at h
  refine ⟨⟨w.toNat, c.toNat, wd.toNat, sl.toNat, ca.toNat, ba.toNat⟩, ?_, ?_, ?_⟩
  · simp only [Cn.v]
    rw [Int.toNat_of_nonneg (by omega), Int.toNat_of_nonneg (by omega), Int.toNat_of_nonneg (by omega), Int.toNat_of_nonneg (by omega), Int.toNat_of_nonneg (by omega), Int.toNat_of_nonneg (by omega)]
  · unfold Cn.ok MayC
    simp only
    rw [Int.toNat_of_nonneg (by omega), Int.toNat_of_nonneg (by omega), Int.toNat_of_nonneg (by omega), Int.toNat_of_nonneg (by omega), Int.toNat_of_nonneg (by omega), Int.toNat_of_nonneg (by omega)]
    rw [Int.tmod_eq_emod_of_nonneg (by omega)]
    omega
  · simp only; omega
section
variable {L F G : St}
/-- Is an Alloc done? -/
theorem alDoneQ {b g u pb : Nat} {x : Cn} {slot : Nat} {gen : Int} {n : Nat} {s : AlS} {F1 : St} (h6 : s.done = false → s.at_ ≤ 6) [t1 : Take L (some ⟨b, 0, none⟩) (AlO g u pb x slot gen n s) F1] : Fx Tryz.prog 27 [.pointer (some ⟨b, 0, none⟩)] L (fun v L' => v = .bool s.done ∧ L = L') := by
  cases hd : s.done with
  | true => exact alDone (b := b) (g := g) (u := u) (pb := pb) (x := x) (slot := slot) (gen := gen) (n := n) (s := s) hd
  | false =>
    have h7 := h6 hd
    refine Fx.kept (t := t1) ?_
    refine Fx.mk Tryz.func27 k27 (Nat.le_of_ble_eq_true rfl) ?_
    dsimp only [c27, envOf, Nat.reduceAdd]
    refine Cx.ent (Ent.of t1.out) ?_
    by_cases h2 : s.at_ = 2
    · refine Cx.openp (a := some ⟨b, 0, none⟩) (AlO.tt_ hd h2) ?_
      intro q
      simp only [alTL, List.cons_append, List.nil_append]
      refine go ?_
      refine Sx.ca rfl (machDoneNo (b := b)) ?_
      rintro v L' ⟨rfl, rfl⟩
      refine go ?_
      exact Kr.one (.inr rfl) rfl (AlO.closeT (v := s.v) (rt := rtOf s.v.was) s hd h2 rfl rfl rfl rfl) ⟨rfl, rfl⟩
    · by_cases h6 : s.at_ = 6
      · refine Cx.openp (a := some ⟨b, 0, none⟩) (AlO.gg_ hd h6) ?_
        rintro ⟨q, tp⟩
        simp only [alGL, List.cons_append, List.nil_append]
        refine go ?_
        refine Sx.ca rfl (machDoneNo (b := b)) ?_
        rintro v L' ⟨rfl, rfl⟩
        refine go ?_
        exact Kr.one (.inr rfl) rfl (AlO.closeG (v := s.v) (rt := rtOf s.v.was) s hd h6 rfl rfl rfl rfl) ⟨rfl, rfl⟩
      · refine Cx.openp (a := some ⟨b, 0, none⟩) (AlO.ss_ hd h2 h6) ?_
        rintro ⟨n1, n2, n3, tp⟩
        simp only [alSL, List.cons_append, List.nil_append]
        refine go ?_
        refine Sx.ca rfl (machDoneNo (b := b)) ?_
        rintro v L' ⟨rfl, rfl⟩
        refine go ?_
        exact Kr.one (.inr rfl) rfl (AlO.closeS (v := s.v) (rt := rtOf s.v.was) s hd (by rw [← Bool.not_eq_true, Nat.beq_eq]; exact h2) (by rw [← Bool.not_eq_true, Nat.beq_eq]; exact h6) rfl rfl rfl rfl) ⟨rfl, rfl⟩
end
end Go.Proofs.YtflalhdofhobmaaGreat

/-
  GrantStale's walk.
-/
set_option linter.unusedVariables false
set_option linter.unusedSimpArgs false
namespace Go.Proofs.YtflalhdofhobmaaGreat
open Go
attribute [local irreducible] Sx Cx Rx Fx Krg Ksq Kbl Klp Kr
section
variable {L F G : St}
end
end Go.Proofs.YtflalhdofhobmaaGreat

/-
  A region in two memories whose words differ.
-/
set_option linter.unusedVariables false
set_option linter.unusedSimpArgs false
namespace Go.Proofs.YtflalhdofhobmaaGreat
open Go
attribute [local irreducible] Sx Cx Rx Fx Krg Ksq Kbl Klp Kr
section
variable {L F G : St}
abbrev rgF2 (x : Cn) (n : Hn) (r r2 : Option Addr) (k c c2 : Nat) (m m2 : Mm) (G : St) : St :=
  pt (some ⟨n.a, 0, none⟩) (Blk 45 (grV x n r r2 k c c2)) :: pt (some ⟨n.mp, 0, none⟩) (MemO m) :: pt (some ⟨n.ro, 0, none⟩) (RoO n.mp n.sp x) :: pt (some ⟨n.sp, 0, none⟩) (SkO n.mp x.spare) ::
  pt (some ⟨n.rm, 0, none⟩) (RMemO m2) :: pt (some ⟨n.w, 0, none⟩) (RWO x n.rm n.rp n.rs n.re) :: pt (some ⟨n.rs, 0, none⟩) (RSkO n.rm x.spare) :: G
set_option maxHeartbeats 4000000 in
theorem grRegion2 {x : Cn} {n : Hn} {r r2 : Option Addr} {k c c2 : Nat} {m m2 : Mm} (cl : Nat) (hcl : cl ≤ 3) (hx : x.ok) (hl : m.ws.length = x.len) (hm : m.ok) (hl2 : m2.ws.length = x.len) (hm2 : m2.ok) {s : Nat} {l : List Int} (hp : Pool x.spare m ((s : Int) :: l)) (hp2 : Pool x.spare m2 ((s : Int) :: l)) (hrr : m2.at_ (x.root + s) = m.at_ (x.root + s)) :
    Fx Tryz.prog 25 [.pointer (some ⟨n.a, 0, none⟩), .int .i64 cl] (rgF2 x n r r2 k c c2 m m2 G)
      (fun v L' => v = .tuple #[.int .i64 s, .int .i64 (laterT (rtOf (m.at_ (x.root + s))).gen : Nat), .bool true] ∧ L' = rgF2 x n r r2 k c c2 (crIt x.spare x.root cl 10 (CreS.init, m)).2 (crIt x.spare x.root cl 10 (CreS.init, m2)).2 G) := by
  have hlen := hx.len_le
  have hk := hx.spare (n := m.ws.length) (by omega) (by omega)
  have hroot : x.root + x.sl = x.slot := by unfold Cn.root Cn.slot; omega
  obtain ⟨C, M, e10, hd, hcode, hslot, hat, hwas, _⟩ := cr_alone (k := x.spare) (ro := x.root) (cl := cl) (m := m) hk rfl hm hp (by show x.root + x.sl ≤ x.slot; omega) (by show 1 < x.root; unfold Cn.root; omega) hcl
  rw [Int.toNat_natCast] at hwas
  have hk2 := hx.spare (n := m2.ws.length) (by omega) (by omega)
  obtain ⟨C2, M2, e102, hd2, hcode2, hslot2, hat2, hwas2, _⟩ := cr_alone (k := x.spare) (ro := x.root) (cl := cl) (m := m2) hk2 rfl hm2 hp2 (by show x.root + x.sl ≤ x.slot; omega) (by show 1 < x.root; unfold Cn.root; omega) hcl
  rw [Int.toNat_natCast] at hwas2
  refine Fx.mk Tryz.func25 k25 (Nat.le_of_ble_eq_true rfl) ?_
  dsimp only [c25, envOf, Nat.reduceAdd]
  refine go ?_
  refine Cx.ordc rfl (by kernel_rfl) ?_
  refine ge ?_
  iterate 5 (refine Ev.bring 1 rfl ?_; refine ge ?_)
  refine Ev.caH (by kernel_rfl) rfl rfl (rootsCreate (g := n.ro) (mp := n.mp) (sb := n.sp) (x := x) cl hcl hx) (.keep (fun v L' ⟨_, _, e⟩ => by subst e; exact Has.cell rfl) (.dep rfl .nil)) ?_
  rintro v L' ⟨b, rfl, rfl⟩
  refine ge ?_
  refine Ev.caH (by kernel_rfl) rfl rfl (refCreate (w := n.w) (rm := n.rm) (rp := n.rp) (rs := n.rs) (re := n.re) (x := x) cl hcl) (Pres.deps (by kernel_rfl)) ?_
  rintro v L' ⟨bb, rfl, rfl⟩
  refine ge ?_
  refine go ?_
  refine Cx.lp (α := {j : Nat // j ≤ 10}) (fun j => [(7, .pointer (some ⟨b, 0, none⟩)), (8, .pointer (some ⟨bb, 0, none⟩)), (9, .int .i64 j.1)])
    (fun j => pt (some ⟨b, 0, none⟩) (CreO n.ro n.sp x.spare cl (crIt x.spare x.root cl j.1 (CreS.init, m)).1) :: pt (some ⟨bb, 0, none⟩) (RCreO n.w n.rs cl (crIt x.spare x.root cl j.1 (CreS.init, m2)).1) :: rgF2 x n r r2 k c c2 (crIt x.spare x.root cl j.1 (CreS.init, m)).2 (crIt x.spare x.root cl j.1 (CreS.init, m2)).2 G)
    (fun j => 10 - j.1) ⟨0, by omega⟩ (sub.cons rfl (sub.cons rfl (sub.cons rfl sub.nil))) ?_ ?_
  · dsimp only [rgF2, crIt]
    exact ent
  rintro ⟨j, hj⟩
  dsimp only [rgF2]
  obtain ⟨k1, k2, k3, k4⟩ := crIt_ok (ro := x.root) (m := m) hk hm hcl j (by omega)
  obtain ⟨k12, k22, k32, k42⟩ := crIt_ok (ro := x.root) (m := m2) hk2 hm2 hcl j (by omega)
  refine go ?_
  refine Cx.ifp rfl (fun h => ?_) (fun h => ?_)
  · refine go ?_
    refine Sx.ca rfl (crStepC (b := b) (r := n.ro) (mp := n.mp) (sp := n.sp) (x := x) (m := (crIt x.spare x.root cl j (CreS.init, m)).2) (cl := cl) (c := (crIt x.spare x.root cl j (CreS.init, m)).1) hx (by omega) hcl k1) ?_
    rintro v L' ⟨rfl, rfl⟩
    refine go ?_
    refine Sx.ca rfl (refCrStep (b := bb) (w := n.w) (rm := n.rm) (rp := n.rp) (rs := n.rs) (re := n.re) (x := x) (m := (crIt x.spare x.root cl j (CreS.init, m2)).2) (cl := cl) (c := (crIt x.spare x.root cl j (CreS.init, m2)).1) hx (by omega) hcl k12) ?_
    rintro v L' ⟨rfl, rfl⟩
    refine go ?_
    rw [w64 (n := (j : Int) + 1) (by omega) (by omega)]
    refine Klp.nm ⟨j + 1, by omega⟩ (sub.cons rfl (sub.cons rfl (sub.cons rfl sub.nil))) ?_ (by dsimp only; omega)
    dsimp only [rgF2, crIt]
    refine Ent.trans (Ent.take (a := some ⟨b, 0, none⟩)) (Ent.cons ?_)
    exact ent
  · obtain rfl : j = 10 := by omega
    rw [e10, e102]
    dsimp only
    refine go ?_
    refine Sx.ca rfl (crRegion (b := b) (r := n.ro) (sp := n.sp) (k := x.spare) (cl := cl) (c := C) hd hat hcode) ?_
    rintro v L' ⟨rfl, rfl⟩
    rw [hslot, hwas]
    refine go ?_
    refine Cx.ent (Ent.take (a := some ⟨bb, 0, none⟩)) ?_
    refine Cx.openp (a := some ⟨bb, 0, none⟩) rfl ?_
    intro p
    have er : C2.rslot = s := by unfold CreS.rslot; rw [if_neg (by omega), hslot2]
    have eg : C2.rgen = laterT (rtOf (m.at_ (x.root + s))).gen := by unfold CreS.rgen; rw [if_pos ⟨hd2, hat2⟩, hwas2, hrr]
    simp only [rcrL, List.cons_append, List.nil_append, er, eg, hd2, hcode2]
    refine Cx.ordc rfl (by kernel_rfl) ?_
    refine ge ?_
    refine Ev.cakH (by kernel_rfl) rfl rfl (crDone (b := b) (r := n.ro) (sp := n.sp) (k := x.spare) (cl := cl) (c := C) hd) ?_
    refine ge ?_
    refine Ev.yes 43 rfl rfl ?_
    refine ge ?_
    refine Ev.yes 49 rfl rfl ?_
    refine ge ?_
    refine Ev.cakH (by kernel_rfl) rfl rfl (crCode (b := b) (r := n.ro) (sp := n.sp) (k := x.spare) (cl := cl) (c := C) hd) ?_
    rw [hcode]
    refine ge ?_
    refine Ev.yes 54 rfl rfl ?_
    refine ge ?_
    refine Ev.yes 61 rfl rfl ?_
    refine ge ?_
    refine Ev.yes 69 rfl (decide_eq_true rfl) ?_
    refine ge ?_
    refine go ?_
    refine Kr.three (.inr rfl) rfl rfl rfl ?_ ⟨by rw [decide_eq_true rfl], rfl⟩
    refine Ent.trans Ent.drop ?_
    exact ent
end
/-- The words may hold anything: what a region made by one alone, first of all, leaves behind. -/
theorem region1 {x : Cn} (hx : x.ok) (cl : Nat) (hcl : cl ≤ 3) {m : Mm} (hl : m.ws.length = x.len) (hm : m.ok) (he : ∀ a, a < x.word → m.at_ a = (allM x).at_ a) : ∃ M, (crIt x.spare x.root cl 10 (CreS.init, m)).2 = M ∧ M.ws.length = x.len ∧ M.ok ∧ Pool x.pool M (iotaI x.c) ∧ rtOf (M.at_ (x.root + 0)) = ⟨1, 1, cl, 0⟩ ∧
    Pool x.spare m (((0 : Nat) : Int) :: (iotaI x.sl).tail) ∧ m.at_ (x.root + 0) = (allM x).at_ (x.root + 0) ∧ M.at_ 0 = (allM x).at_ 0 := by
  obtain ⟨b1, b2, b3, b4, b5, b6, b7⟩ := hx.b
  have hlen := hx.len_le
  have hk := hx.spare (n := m.ws.length) (by omega) (by omega)
  have hroot : x.root + x.sl = x.slot := by unfold Cn.root Cn.slot; omega
  have hslot : x.slot + x.sl = x.link := by unfold Cn.slot Cn.link; omega
  have hword : x.link + x.c = x.word := by unfold Cn.link Cn.word; omega
  have g3 : 3 ≤ x.root := by unfold Cn.root; omega
  obtain ⟨_, _, _, _, _, _, _, _, hsp0, _⟩ := region0 hx cl hcl
  have hsp : Pool x.spare m (((0 : Nat) : Int) :: (iotaI x.sl).tail) := by
    refine ⟨?_, hsp0.nd⟩
    rw [he _ (by show 1 < x.word; omega)]
    refine hsp0.c.congr fun z hz => he _ ?_
    have := hsp0.c.mem z hz
    have h2 : z < (x.sl : Int) := this.2
    show x.slot + z.toNat < x.word
    omega
  have hp : Pool x.pool m (iotaI x.c) := by
    have hp0 := allM_pool hx
    refine ⟨?_, hp0.nd⟩
    rw [he _ (by show 0 < x.word; omega)]
    refine hp0.c.congr fun z hz => he _ ?_
    have := hp0.c.mem z hz
    have h2 : z < (x.c : Int) := this.2
    show x.link + z.toNat < x.word
    omega
  have h00 : (allM x).at_ (x.root + 0) = 0 := allM_at hx (by omega) (by omega) (by omega) (by omega)
  have h0 : m.at_ (x.root + 0) = 0 := (he _ (by omega)).trans h00
  have hroot0 : m.at_ (x.root + 0) < 18446744073709551616 := by omega
  obtain ⟨C, M, e10, _, _, _, _, _, hn, hml, hmo, _, hrv, hoth⟩ := cr_alone (k := x.spare) (ro := x.root) (cl := cl) (m := m) hk rfl hm hsp (by show x.root + x.sl ≤ x.slot; omega) (by show 1 < x.root; omega) hcl
  rw [Int.toNat_natCast] at hrv hoth
  refine ⟨M, by rw [e10], hml.trans hl, hmo, ?_, ?_, hsp, by rw [h0, h00], ?_⟩
  · refine ⟨?_, hp.nd⟩
    rw [hoth _ (by show (0 : Nat) ≠ 1; omega) (by show 0 ≠ x.root + 0; omega)]
    refine hp.c.congr fun z hz => ?_
    have hz2 := hp.c.mem z hz
    exact hoth _ (by show x.link + z.toNat ≠ 1; omega) (by show x.link + z.toNat ≠ x.root + 0; omega)
  · rw [hrv, rtOf_w (nextRt_ok hroot0 hcl), h0]; rfl
  · rw [hoth 0 (by show (0 : Nat) ≠ 1; omega) (by show 0 ≠ x.root + 0; omega)]; exact he 0 (by omega)
end Go.Proofs.YtflalhdofhobmaaGreat

/-
  Allocs of three: how all begins, one begins, one goes on, one ends.
-/
set_option linter.unusedVariables false
set_option linter.unusedSimpArgs false
namespace Go.Proofs.YtflalhdofhobmaaGreat
/-- No Alloc. -/
def aIdle : AlS := ⟨0, AlV.init, TakeS.zero, gNone, true⟩
def updW (W : Nat → Wk) (i : Nat) (v : Wk) : Nat → Wk := fun j => if j = i then v else W j
def wl (W : Nat → Wk) : List Wk := [W 0, W 1, W 2]
theorem wl_split (W : Nat → Wk) {i : Nat} (hi : i < 3) : ∃ A B, wl W = A ++ W i :: B ∧ ∀ v, wl (updW W i v) = A ++ v :: B := by
  rcases (show i = 0 ∨ i = 1 ∨ i = 2 by omega) with rfl | rfl | rfl
  · exact ⟨[], [W 1, W 2], rfl, fun v => rfl⟩
  · exact ⟨[W 0], [W 2], rfl, fun v => rfl⟩
  · exact ⟨[W 0, W 1], [], rfl, fun v => rfl⟩
def Ap (x : Cn) (cl : Nat) (m : Mm) (W : Nat → Wk) (has : List Hd) (T : Nat) : Prop := ∃ P R, ApI x 0 cl 1 m (wl W) has P R T
section
variable {x : Cn} {cl T i : Nat} {m : Mm} {W : Nat → Wk} {has : List Hd}
theorem Ap.first {ca : Nat} (hx : x.ok) (hca : ca ≤ 64) (hcl : cl ≤ 3) (hl : m.ws.length = x.len) (hm : m.ok) (hp : Pool x.pool m (iotaI x.c)) (hrt : rtOf (m.at_ (x.root + 0)) = ⟨1, 1, cl, 0⟩) (h0 : hdT (m.at_ 0) ≤ 10) : Ap x cl m (fun _ => ⟨SupS.nil ca, aIdle, 1⟩) [] 0 := by
  obtain ⟨b1, b2, b3, b4, b5, b6, b7⟩ := show MayC (x.w : Int) x.c x.wd x.sl x.ca x.ba from hx
  have hown : ∀ y : Int, ((wl fun _ => (⟨SupS.nil ca, aIdle, 1⟩ : Wk)).flatMap Wk.own).count y = 0 := fun y => rfl
  refine ⟨iotaI x.c, [], hl, hm, ⟨by rw [hrt]; exact ⟨by show 1 < 4294967296; omega, by show 1 ≤ 4097; omega, hcl, by show 0 ≤ 1024; omega⟩, by rw [hrt], by rw [hrt], by rw [hrt]; exact Nat.le_refl _, by rw [hrt]; exact Nat.zero_le _, by rw [hrt]; exact Nat.zero_mod _⟩, fun h => ?_, hp, by show hdT (m.at_ 0) ≤ _; omega, fun y => ?_, fun y hy => ?_, fun w hw => ?_, fun y hy => (by cases hy), fun o ho => ?_, ?_⟩
  · rw [hrt] at h
    have h : 2 ≤ 1 := h
    omega
  · rw [hown, List.count_nil]
    have := List.nodup_iff_count.1 hp.nd y
    omega
  · rw [hown, List.count_nil] at hy
    have := List.count_pos_iff.1 (show 0 < (iotaI x.c).count y by omega)
    exact hp.c.mem y this
  · have hw : w = ⟨SupS.nil ca, aIdle, 1⟩ := by simpa [wl] using hw
    subst hw
    refine ⟨Nat.le_refl _, by show 1 ≤ x.wd; omega, rfl, ?_, ?_, Nat.zero_le _, fun _ => rfl, fun _ => rfl, Nat.le_refl _, fun h => (by cases h), fun h => (by cases h)⟩
    · show 0 ≤ min (max (ca : Int) 0) 64; omega
    · show min (max (ca : Int) 0) 64 ≤ 64; omega
  · have ho : o ∈ ([] : List Hd) := ho
    cases ho
  · exact List.Pairwise.nil
/-- One begins. -/
theorem Ap.begin_ (h : Ap x cl m W has T) (hx : x.ok) (hi : i < 3) (hd : (W i).a.done = true) (h0 : (W i).a.at_ ≠ 6) {n : Nat} (h1 : 1 ≤ n) (h2 : n ≤ x.wd) : Ap x cl m (updW W i ⟨(W i).s, AlS.init, n⟩) has (T + 1) := by
  obtain ⟨b1, b2, b3, b4, b5, b6, b7⟩ := show MayC (x.w : Int) x.c x.wd x.sl x.ca x.ba from hx
  obtain ⟨P, R, h⟩ := h
  obtain ⟨A, B, e, eu⟩ := wl_split W hi
  rw [e] at h
  have hw := h.mid
  have hh := hw.h6 (.inl hd)
  have ho := Wk.own_6 hw h0
  rw [if_neg (by omega), List.append_nil] at ho
  refine ⟨P, R, ?_⟩
  rw [eu]
  refine h.upd (by omega) h.len h.ok h.root h.hd h.pool (.inl ⟨rfl, rfl⟩) (by omega) (fun y => ?_) (fun _ _ _ _ _ => rfl) ⟨h1, h2, hw.lm, hw.m0, hw.m2, Nat.zero_le _, fun hh => (by rcases hh with hh | hh <;> cases hh), fun _ => rfl, Nat.zero_le _, fun hh => (by cases hh), fun _ => ?_⟩ (fun y h1 h2 => absurd h1 h2) (fun _ h => h) (fun _ h => h) (.inl ?_)
  · rw [ho]
    show P.count y + R.count y + ((W i).s.xs ++ ([] ++ [])).count y = _
    rw [List.append_nil, List.append_nil]
  · exact ⟨Int.le_refl _, rt_zero_ok, fun hh => absurd rfl hh, fun hh => absurd rfl hh, fun hh => (by cases hh), fun hh => (by simp [AlS.init] at hh), fun hh => (by cases hh), fun hh => absurd hh (by show ¬ (0 : Int) ≤ -1; omega), fun _ hh => absurd hh (by show ¬ (0 : Int) ≤ -1; omega), fun _ _ => rfl, fun hh => (by cases hh), fun hh => (by cases hh), fun hh => (by cases hh)⟩
  · rw [Wk.pend_6 h0]; rfl
/-- One goes on. -/
theorem Ap.go (h : Ap x cl m W has T) (hx : x.ok) (hT : T ≤ 1000) (hcl : cl ≤ 3) (hw8 : x.wd % 8 = 0) (hi : i < 3) (hd : (W i).a.done = false) :
    Ap x cl (alStep (x.al 0 1 (W i).n) m (W i).s (W i).a).1 (updW W i ⟨(alStep (x.al 0 1 (W i).n) m (W i).s (W i).a).2.1, (alStep (x.al 0 1 (W i).n) m (W i).s (W i).a).2.2, (W i).n⟩) has (T + 1) := by
  have hx' := hx
  obtain ⟨b1, b2, b3, b4, b5, b6, b7⟩ := show MayC (x.w : Int) x.c x.wd x.sl x.ca x.ba from hx
  obtain ⟨P, R, h⟩ := h
  obtain ⟨A, B, e, eu⟩ := wl_split W hi
  rw [e] at h
  obtain ⟨P', R', h'⟩ := ap_step h hx' (by omega) hT hcl hw8 hd
  exact ⟨P', R', by rw [eu]; exact h'⟩
/-- What is asked of the one that goes on. -/
theorem Ap.good (h : Ap x cl m W has T) (hx : x.ok) (hT : T ≤ 1000) (hcl : cl ≤ 3) (hw8 : x.wd % 8 = 0) (hi : i < 3) (hd : (W i).a.done = false) :
    1 ≤ (W i).n ∧ (W i).n ≤ x.wd ∧ m.ws.length = x.len ∧ m.ok ∧ (rtOf (m.at_ (x.root + 0))).ok ∧ (W i).s.xs.length + (W i).s.lm.size ≤ 1000000 ∧ 0 ≤ (W i).s.most ∧ (W i).s.most ≤ 64 ∧ AlOk x (W i).a := by
  obtain ⟨b1, b2, b3, b4, b5, b6, b7⟩ := show MayC (x.w : Int) x.c x.wd x.sl x.ca x.ba from hx
  obtain ⟨P, R, h⟩ := h
  obtain ⟨A, B, e, eu⟩ := wl_split W hi
  rw [e] at h
  have hw := h.mid
  have := h.xs_le
  have := hw.lm
  exact ⟨hw.n1, hw.n2, h.len, h.ok, h.root.ok, by omega, hw.m0, hw.m2, h.alOk hx hT hcl hw8 hd⟩
theorem Ap.mono {T' : Nat} (h : Ap x cl m W has T) (hT : T ≤ T') : Ap x cl m W has T' := by
  obtain ⟨P, R, h⟩ := h
  exact ⟨P, R, h.len, h.ok, h.root, h.hd, h.pool, Nat.le_trans h.tag (by omega), h.one, h.rng, fun w hw => by
    have hu := h.wk w hw
    exact ⟨hu.n1, hu.n2, hu.lm, hu.m0, hu.m2, hu.a6, hu.h6, hu.gd, Nat.le_trans hu.cnt hT, hu.cd, hu.run⟩, h.zr, h.obj, h.dj⟩
theorem Ap.objs (h : Ap x cl m W has T) : ∀ o ∈ has, 0 ≤ o.off ∧ 1 ≤ o.len ∧ o.off + o.len ≤ x.wd := by
  obtain ⟨P, R, h⟩ := h
  intro o ho
  have := h.obj o (List.mem_append_left _ ho)
  exact ⟨this.f, this.l, this.e⟩
theorem Ap.a6 (h : Ap x cl m W has T) (hi : i < 3) : (W i).a.at_ ≤ 6 := by
  obtain ⟨P, R, h⟩ := h
  obtain ⟨A, B, e, eu⟩ := wl_split W hi
  rw [e] at h
  exact h.mid.a6
theorem updW_at (W : Nat → Wk) (i : Nat) (v : Wk) : updW W i v i = v := if_pos rfl
theorem updW_updW (W : Nat → Wk) (i : Nat) (u v : Wk) : updW (updW W i u) i v = updW W i v := by
  funext j; unfold updW; split <;> rfl
theorem Ap.len (h : Ap x cl m W has T) : m.ws.length = x.len := by obtain ⟨P, R, h⟩ := h; exact h.len
theorem Ap.ok (h : Ap x cl m W has T) : m.ok := by obtain ⟨P, R, h⟩ := h; exact h.ok
/-- One ends. -/
theorem Ap.fin (h : Ap x cl m W has T) (hx : x.ok) (hi : i < 3) (hd : (W i).a.done = true) (h6 : (W i).a.at_ = 6) :
    ((W i).a.v.code = 6 ∧ Ap x cl m (updW W i ⟨(W i).s, aIdle, (W i).n⟩) has (T + 1)) ∨
    ((W i).a.v.code = 0 ∧ Ap x cl m (updW W i ⟨(W i).s, aIdle, (W i).n⟩) (has ++ [(W i).a.v.obj]) (T + 1) ∧ (∀ o ∈ has, Apt o (W i).a.v.obj) ∧ ∃ (c : Nat) (f l : Nat), (W i).a.v.obj = ⟨0, 1, c, f, l⟩ ∧ c < x.c ∧ 1 ≤ l ∧ f + l ≤ x.wd ∧ f % 2 ^ cl = 0 ∧ ∀ j, j < x.wd → m.at_ (x.word + c * x.wd + j) = 0) := by
  obtain ⟨b1, b2, b3, b4, b5, b6, b7⟩ := show MayC (x.w : Int) x.c x.wd x.sl x.ca x.ba from hx
  obtain ⟨P, R, h⟩ := h
  obtain ⟨A, B, e, eu⟩ := wl_split W hi
  rw [e] at h
  have hw := h.mid
  have hh := hw.h6 (.inl hd)
  have hgd := hw.gd (.inl hd)
  have ho : (W i).own = (W i).s.xs := by unfold Wk.own ownH ownG; rw [if_neg (by omega), hgd]; simp
  have hwk : WkI x cl 1 (T + 1) m P ⟨(W i).s, aIdle, (W i).n⟩ := ⟨hw.n1, hw.n2, hw.lm, hw.m0, hw.m2, Nat.zero_le _, fun _ => rfl, fun _ => rfl, Nat.zero_le _, fun hh => (by cases hh), fun hh => (by cases hh)⟩
  have hcn : ∀ y, (Wk.own ⟨(W i).s, aIdle, (W i).n⟩).count y = (W i).own.count y := fun y => by
    rw [ho]
    show ((W i).s.xs ++ ([] ++ [])).count y = _
    rw [List.append_nil, List.append_nil]
  have hpe : ∀ v : Wk, (A ++ v :: B).flatMap Wk.pend = A.flatMap Wk.pend ++ (v.pend ++ B.flatMap Wk.pend) := fun v => by simp only [List.flatMap_append, List.flatMap_cons]
  have hall : ∀ y, ((A ++ (⟨(W i).s, aIdle, (W i).n⟩ : Wk) :: B).flatMap Wk.own).count y = ((A ++ W i :: B).flatMap Wk.own).count y := fun y => by rw [ApI.cnt_mid, ApI.cnt_mid, hcn]
  have hws : ∀ v ∈ A ++ (⟨(W i).s, aIdle, (W i).n⟩ : Wk) :: B, WkI x cl 1 (T + 1) m P v := fun v hv => by
    have hle : ∀ u, WkI x cl 1 T m P u → WkI x cl 1 (T + 1) m P u := fun u hu => ⟨hu.n1, hu.n2, hu.lm, hu.m0, hu.m2, hu.a6, hu.h6, hu.gd, Nat.le_succ_of_le hu.cnt, hu.cd, hu.run⟩
    rcases List.mem_append.1 hv with hv | hv
    · exact hle v (h.wk v (List.mem_append_left _ hv))
    · rcases List.mem_cons.1 hv with rfl | hv
      · exact hwk
      · exact hle v (h.wk v (by simp [hv]))
  rcases hw.cd h6 with hc | hc
  · right
    have hp1 : (W i).pend = [(W i).a.v.obj] := by unfold Wk.pend; rw [if_pos ⟨h6, hc⟩]
    have hp2 : Wk.pend ⟨(W i).s, aIdle, (W i).n⟩ = [] := rfl
    have hperm : (has ++ (A ++ W i :: B).flatMap Wk.pend).Perm (has ++ [(W i).a.v.obj] ++ (A ++ (⟨(W i).s, aIdle, (W i).n⟩ : Wk) :: B).flatMap Wk.pend) := by
      rw [hpe, hpe, hp1, hp2, List.append_assoc, List.nil_append]
      exact List.Perm.append_left has List.perm_middle
    have hob := h.obj (W i).a.v.obj (by rw [hpe, hp1]; simp)
    refine ⟨hc, ⟨P, R, ?_⟩, fun o hoh => ?_, ?_⟩
    · rw [eu]
      exact ⟨h.len, h.ok, h.root, h.hd, h.pool, by have := h.tag; omega, fun y => by rw [hall]; exact h.one y, fun y hy => h.rng y (by rw [hall] at hy; exact hy), hws, h.zr, fun o hoo => h.obj o (hperm.mem_iff.2 hoo), (hperm.pairwise_iff (fun h => h.symm)).1 h.dj⟩
    · have hdj := h.dj
      rw [hpe, hp1] at hdj
      exact (List.pairwise_append.1 hdj).2.2 o hoh _ (by simp)
    · have hcr := h.rng (W i).a.v.obj.chunk (by have := List.count_pos_iff.2 hob.c; omega)
      obtain ⟨⟨s, g, c, f, l⟩, hoe⟩ : ∃ o, (W i).a.v.obj = o := ⟨_, rfl⟩
      rw [hoe] at hob hcr ⊢
      obtain ⟨o1, o2, o3, o4, o5, o6, o7, _⟩ := hob
      dsimp only at o1 o2 o3 o4 o5 o6 o7 hcr
      subst o1 o2
      refine ⟨c.toNat, f.toNat, l.toNat, ?_, by omega, by omega, by omega, ?_, fun j hj => h.zr c o3 j hj⟩
      · rw [Int.toNat_of_nonneg hcr.1, Int.toNat_of_nonneg o5, Int.toNat_of_nonneg (by omega)]; rfl
      · have hft : ((f.toNat : Nat) : Int) = f := Int.toNat_of_nonneg o5
        rw [← hft, ← Int.natCast_emod] at o6
        exact Int.ofNat.inj o6
  · left
    refine ⟨hc, P, R, ?_⟩
    rw [eu]
    exact h.upd (by omega) h.len h.ok h.root h.hd h.pool (.inl ⟨rfl, rfl⟩) (by omega) (fun y => by rw [hcn]) (fun _ _ _ _ _ => rfl) hwk (fun y h1 h2 => absurd h1 h2) (fun _ h => h) (fun _ h => h) (.inl (show ([] : List Hd) = (W i).pend from by unfold Wk.pend; rw [if_neg (fun hh => by have := hh.2; omega)]))
end
end Go.Proofs.YtflalhdofhobmaaGreat

/-
  GrantApart's walk.
-/
set_option linter.unusedVariables false
set_option linter.unusedSimpArgs false
namespace Go.Proofs.YtflalhdofhobmaaGreat
open Go
attribute [local irreducible] Sx Cx Rx Fx Krg Ksq Kbl Klp Kr
/-- The words hold anything. -/
structure LM (x : Cn) (m : Mm) : Prop where
  l : m.ws.length = x.len
  o : m.ok
  e : ∀ a, a < x.word → m.at_ a = (allM x).at_ a
theorem LM.lay {x : Cn} {m : Mm} {i v : Nat} (h : LM x m) (hi : x.word ≤ i) (hl : i < x.len) (hv : v < 18446744073709551616) : LM x (m.lay i v) :=
  ⟨by rw [Mm.len_lay]; exact h.l, Mm.ok_lay h.o hv, fun a ha => by rw [Mm.at_lay _ (by rw [h.l]; exact hl), if_neg (by omega)]; exact h.e a ha⟩
theorem allM_0 {x : Cn} (hx : x.ok) : (allM x).at_ 0 = 1 := by
  have hlen := hx.len_le
  have hk := hx.spare (n := x.len) (Nat.le_refl _) hlen
  have hp := hx.pool (n := x.len) (Nat.le_refl _) hlen
  have h1 := (fill_pool hk (poolM_len x)).2 0 (by show (0 : Nat) ≠ 1; omega) (fun j _ => by show 0 ≠ x.slot + j; unfold Cn.slot; omega)
  unfold allM
  rw [h1]
  have hh := hp.h
  unfold poolM fillM
  rw [Mm.at_lay _ (by rw [Mm.len_lay, fillUp_len, zeroM_len]; exact hh)]
  exact if_pos rfl
def hds (l : List Hd) : List Value := l.flatMap fun o => [.int .i64 o.slot, .int .i64 o.gen, .int .i64 o.chunk, .int .i64 o.off, .int .i64 o.len]
theorem hds_get : ∀ (l : List Hd) (j : Nat) (h : j < l.length) (k : Nat), k < 5 → (hds l)[j * 5 + k]? = [Value.int .i64 l[j].slot, .int .i64 l[j].gen, .int .i64 l[j].chunk, .int .i64 l[j].off, .int .i64 l[j].len][k]?
  | [], j, h, _, _ => by simp at h
  | o :: l, 0, h, k, hk => by
    show ([Value.int .i64 o.slot, .int .i64 o.gen, .int .i64 o.chunk, .int .i64 o.off, .int .i64 o.len] ++ hds l)[0 * 5 + k]? = _
    rw [Nat.zero_mul, Nat.zero_add, List.getElem?_append_left (by simpa using hk)]; rfl
  | o :: l, j + 1, h, k, hk => by
    show ([Value.int .i64 o.slot, .int .i64 o.gen, .int .i64 o.chunk, .int .i64 o.off, .int .i64 o.len] ++ hds l)[(j + 1) * 5 + k]? = _
    rw [List.getElem?_append_right (by simp; omega), show (j + 1) * 5 + k - [Value.int .i64 o.slot, .int .i64 o.gen, .int .i64 o.chunk, .int .i64 o.off, .int .i64 o.len].length = j * 5 + k by simp; omega]
    exact hds_get l j (by simpa using h) k hk
def xvs (W : Nat → Wk) (bs : Nat → Nat) : List Value := (List.range 3).map fun j => if (W j).a.done then .pointer none else .pointer (some ⟨bs j, 0, none⟩)
section
variable {L F G : St}
def wkF (mp g : Nat) (x : Cn) (q : Who) (w : Wk) (b : Nat) : St := pt (some ⟨q.u, 0, none⟩) (SupO mp q.pb x w.s) :: pt (some ⟨q.pb, 0, none⟩) (SkO mp x.pool) :: (if w.a.done then [] else [pt (some ⟨b, 0, none⟩) (AlO g q.u q.pb x 0 1 w.n w.a)])
theorem many_ent {n : Nat} {f g : Nat → St} (h : ∀ i, i < n → ∀ G, Ent (f i ++ G) (g i ++ G)) : ∀ {G : St}, Ent (many n f ++ G) (many n g ++ G) := by
  induction n with
  | zero => exact Ent.refl _
  | succ n ih =>
    intro G
    rw [many_succ, many_succ, List.append_assoc, List.append_assoc]
    exact Ent.trans (ih fun i hi => h i (by omega)) (Ent.app (h n (by omega) G))
def updN (f : Nat → Nat) (i v : Nat) : Nat → Nat := fun j => if j = i then v else f j
theorem xvs_get {W : Nat → Wk} {bs : Nat → Nat} {i : Nat} (h : i < 3) : (xvs W bs)[0 + (i : Int).toNat * 1]? = some (if (W i).a.done then .pointer none else .pointer (some ⟨bs i, 0, none⟩)) := by simp [xvs, h]
theorem xvs_len (W : Nat → Wk) (bs : Nat → Nat) : (xvs W bs).length = 3 := by simp [xvs]
theorem xvs_set {W : Nat → Wk} {bs : Nat → Nat} {i b : Nat} {w : Wk} (h : i < 3) : (xvs W bs).set (0 + (i : Int).toNat * 1) (if w.a.done then .pointer none else .pointer (some ⟨b, 0, none⟩)) = xvs (updW W i w) (updN bs i b) := by
  rcases (show i = 0 ∨ i = 1 ∨ i = 2 by omega) with rfl | rfl | rfl <;> rfl
theorem xvs_blt {W : Nat → Wk} {bs : Nat → Nat} {i : Nat} (h : i < 3) : Nat.blt (0 + (i : Int).toNat * 1) (xvs W bs).length = true := by
  rw [xvs_len]; rcases (show i = 0 ∨ i = 1 ∨ i = 2 by omega) with rfl | rfl | rfl <;> rfl
theorem xvs_same {W : Nat → Wk} {bs : Nat → Nat} {i : Nat} {w : Wk} (h : i < 3) (hd : w.a.done = (W i).a.done) : xvs W bs = xvs (updW W i w) (updN bs i (bs i)) := by
  refine Eq.symm ?_
  rcases (show i = 0 ∨ i = 1 ∨ i = 2 by omega) with rfl | rfl | rfl
  · show [_, _, _] = [_, _, _]
    simp only [updW, updN, if_true, hd]; rfl
  · show [_, _, _] = [_, _, _]
    simp only [updW, updN, if_true, hd]; rfl
  · show [_, _, _] = [_, _, _]
    simp only [updW, updN, if_true, hd]; rfl
theorem wk_back {mp g : Nat} {x : Cn} {Q : Nat → Who} {W : Nat → Wk} {bs : Nat → Nat} {i b : Nat} {w : Wk} {s : St} (hi : i < 3) (hs : ∀ G, Ent (s ++ G) (wkF mp g x (Q i) w b ++ G)) :
    Ent (s ++ (many 3 (updS (fun i => wkF mp g x (Q i) (W i) (bs i)) i []) ++ G)) (many 3 (fun j => wkF mp g x (Q j) (updW W i w j) (updN bs i b j)) ++ G) := by
  refine Ent.trans (hs _) ?_
  refine Ent.trans (Ent.oneBack hi) ?_
  have e : updS (fun i => wkF mp g x (Q i) (W i) (bs i)) i (wkF mp g x (Q i) w b) = fun j => wkF mp g x (Q j) (updW W i w j) (updN bs i b j) := by
    funext j
    unfold updS updW updN
    by_cases h : j = i
    · subst h; simp
    · simp [h]
  rw [e]
  exact Ent.refl _
abbrev apF (x : Cn) (n : Hn) (r c : Nat) (Q : Nat → Who) (gb xb : Nat) (m : Mm) (W : Nat → Wk) (bs : Nat → Nat) (has : List Hd) (h : Option Addr × Nat) (r2 : Option Addr) (c2 : Nat) (G : St) : St :=
  pt (some ⟨n.a, 0, none⟩) (Blk 45 (grV x n (some ⟨r, 0, none⟩) r2 3 c c2)) :: pt (some ⟨r, 0, none⟩) (Row 47 1 3 c (ptrs 3 fun i => (Q i).u)) ::
  pt (some ⟨n.mp, 0, none⟩) (MemO m) :: pt (some ⟨n.g, 0, none⟩) (GrO n.mp x) :: pt (some ⟨n.pb, 0, none⟩) (SkO n.mp x.pool) :: pt (some ⟨gb, 0, none⟩) (Blk 24 [.int .i64 x.w, .int .i64 x.c, .int .i64 x.wd, .int .i64 x.sl, .int .i64 x.ca, .int .i64 x.ba]) ::
  pt (some ⟨xb, 0, none⟩) (Blk 59 (xvs W bs)) :: pt h.1 (Row 62 5 has.length h.2 (hds has)) :: (many 3 (fun i => wkF n.mp n.g x (Q i) (W i) (bs i)) ++ G)
set_option maxRecDepth 100000 in
set_option maxHeartbeats 8000000 in
theorem grantApart {w : World} {v : Value} {xs : List Int} (n cls : Int) (hv : In w 1 v xs.length (ints xs)) : Fx Tryz.prog 4 [.int .i64 n, .int .i64 cls, v] [Old w] (fun v L' => v = .bool true ∧ Ent L' [Old w]) := by
  obtain ⟨hn, sa, scp, rfl, hRd⟩ := hv.rd
  have hmx : maxLen = 9223372036854775807 := rfl
  refine Fx.mk Tryz.func4 k4 (Nat.le_of_ble_eq_true rfl) ?_
  dsimp only [c4, envOf, Nat.reduceAdd]
  refine go ?_
  refine Sx.ca rfl grFirst ?_
  rintro v L' ⟨rfl, rfl⟩
  refine go ?_
  refine Cx.ifp rfl (fun h => ?_) (fun hlen2 => ?_)
  · refine go ?_
    exact Kr.one (.inr rfl) rfl (Ent.refl _) ⟨rfl, Ent.refl _⟩
  refine go ?_
  refine Sx.ca rfl (config_ n) ?_
  rintro v L' ⟨⟨w', c, wd, sl, ca, ba, rfl, hsm⟩, rfl⟩
  obtain ⟨x, hxv, hx, hca, hc8, hba, hw4, hw16, hsl4⟩ := small_cfg2 hsm
  rw [hxv]
  clear hxv hsm
  clear w' c wd sl ca ba
  refine Sx.al fun gb => ?_
  refine Sx.st (b := gb) rfl rfl rfl rfl rfl rfl ?_
  refine Sx.re [.int .i64 x.w, .int .i64 x.c, .int .i64 x.wd, .int .i64 x.sl, .int .i64 x.ca, .int .i64 x.ba] rfl ?_
  have hx' := hx
  obtain ⟨b1, b2, b3, b4, b5, b6, b7⟩ := hx'.b
  have hlen := hx.len_le
  have hw8 := hx.w8
  have hword : x.word + x.c * x.wd = x.len := by unfold Cn.word Cn.len; omega
  have hlw : x.link + x.c = x.word := by unfold Cn.link Cn.word; omega
  refine go ?_
  refine Sx.ca (vs := [x.v]) rfl (grMade hx) ?_
  rintro v L' ⟨nn, r, r2, c, c2, Q, rfl, rfl⟩
  refine Sx.ent grF_out ?_
  refine Sx.re [.int .i64 x.w, .int .i64 x.c, .int .i64 x.wd, .int .i64 x.sl, .int .i64 x.ca, .int .i64 x.ba] rfl ?_
  refine go ?_
  refine Cx.lp (α := {p : Nat × Mm // p.1 ≤ x.c ∧ LM x p.2})
    (fun p => [(1, .int .i64 cls), (2, .slice sa xs.length scp), (7, .bool true), (8, .pointer (some ⟨gb, 0, none⟩)), (9, .pointer (some ⟨nn.a, 0, none⟩)), (10, .int .i64 (p.1.1 : Nat))])
    (fun p => pt (some ⟨gb, 0, none⟩) (Blk 24 [.int .i64 x.w, .int .i64 x.c, .int .i64 x.wd, .int .i64 x.sl, .int .i64 x.ca, .int .i64 x.ba]) :: grF x nn (some ⟨r, 0, none⟩) (some ⟨r2, 0, none⟩) 3 c c2 Q (fun _ => SupS.nil x.ca) (fun _ => SupS.nil x.ca) p.1.2 (allM x) [Old w])
    (fun p => x.c - p.1.1) ⟨(0, allM x), Nat.zero_le _, ⟨allM_len x, allM_ok hx, fun _ _ => rfl⟩⟩ (sub.cons rfl (sub.cons rfl (sub.cons rfl (sub.cons rfl (sub.cons rfl (sub.cons rfl sub.nil)))))) (by dsimp only [grF]; exact entm) ?_
  rintro ⟨⟨i, m⟩, hi, hm⟩
  dsimp only [grF] at hi hm ⊢
  refine go ?_
  refine Cx.ifp rfl (fun h => ?_) (fun h => ?_)
  · have hic : i < x.c := by omega
    refine go ?_
    refine Cx.lp (α := {p : Nat × Mm // p.1 ≤ x.wd ∧ LM x p.2})
      (fun p => [(1, .int .i64 cls), (2, .slice sa xs.length scp), (7, .bool true), (8, .pointer (some ⟨gb, 0, none⟩)), (9, .pointer (some ⟨nn.a, 0, none⟩)), (10, .int .i64 (i : Nat)), (11, .int .i64 (p.1.1 : Nat))])
      (fun p => pt (some ⟨gb, 0, none⟩) (Blk 24 [.int .i64 x.w, .int .i64 x.c, .int .i64 x.wd, .int .i64 x.sl, .int .i64 x.ca, .int .i64 x.ba]) :: grF x nn (some ⟨r, 0, none⟩) (some ⟨r2, 0, none⟩) 3 c c2 Q (fun _ => SupS.nil x.ca) (fun _ => SupS.nil x.ca) p.1.2 (allM x) [Old w])
      (fun p => x.wd - p.1.1) ⟨(0, m), Nat.zero_le _, hm⟩ (sub.cons rfl (sub.cons rfl (sub.cons rfl (sub.cons rfl (sub.cons rfl (sub.cons rfl (sub.cons rfl sub.nil))))))) (by dsimp only [grF]; exact entm) ?_
    rintro ⟨⟨k, m⟩, hk, hm⟩
    dsimp only [grF] at hk hm ⊢
    refine go ?_
    refine Cx.ifp rfl (fun h => ?_) (fun h => ?_)
    · have hkc : k < x.wd := by omega
      have hmul : i * x.wd + x.wd ≤ x.c * x.wd := by
        have : (i + 1) * x.wd ≤ x.c * x.wd := Nat.mul_le_mul_right _ (by omega)
        rw [Nat.succ_mul] at this; exact this
      have hq : (100 : Int) * i + k + 1 = ((100 * i + k + 1 : Nat) : Int) := by push_cast; omega
      have hml := hm.l
      refine go ?_
      refine Cx.ordc rfl (by kernel_rfl) ?_
      refine ge ?_
      refine Ev.cakH (vs := [x.v, .int .i64 (i : Nat), .int .i64 (k : Nat)]) (by kernel_rfl) rfl rfl (layWordN hx i k hic hkc) ?_
      refine ge ?_
      rw [w64 (n := (100 : Int) * i) (by omega) (by omega), w64 (n := (100 : Int) * i + k) (by omega) (by omega), w64 (n := (100 : Int) * i + k + 1) (by omega) (by omega), hq, wrap64 (n := 100 * i + k + 1) (by omega)]
      refine Ev.caH (by kernel_rfl) rfl rfl (cellsLay (b := nn.mp) (m := m) (x.word + i * x.wd + k) (100 * i + k + 1) (by omega) (by omega)) (Pres.deps (by kernel_rfl)) ?_
      rintro v L' ⟨rfl, rfl⟩
      refine ge ?_
      refine go ?_
      rw [w64 (n := (k : Int) + 1) (by omega) (by omega)]
      refine Klp.nm ⟨(k + 1, m.lay (x.word + i * x.wd + k) (100 * i + k + 1)), by dsimp only; omega, hm.lay (by omega) (by omega) (by omega)⟩ (sub.cons rfl (sub.cons rfl (sub.cons rfl (sub.cons rfl (sub.cons rfl (sub.cons rfl (sub.cons rfl sub.nil))))))) (by dsimp only [grF]; exact entm) (by dsimp only; omega)
    · obtain rfl : k = x.wd := by omega
      refine go ?_
      rw [w64 (n := (i : Int) + 1) (by omega) (by omega)]
      refine Klp.nm ⟨(i + 1, m), by dsimp only; omega, hm⟩ (sub.cons rfl (sub.cons rfl (sub.cons rfl (sub.cons rfl (sub.cons rfl (sub.cons rfl sub.nil)))))) (by dsimp only [grF]; exact entm) (by dsimp only; omega)
  · obtain rfl : i = x.c := by omega
    refine go ?_
    refine Sx.ca rfl (number cls 4 (by omega) (by omega)) ?_
    rintro v L' ⟨rfl, rfl⟩
    have hq1 := Int.emod_nonneg cls (show (4 : Int) ≠ 0 by omega)
    have hq2 := Int.emod_lt_of_pos cls (show (0 : Int) < 4 by omega)
    obtain ⟨cl, hcle, hcl⟩ : ∃ cl : Nat, cls % 4 = cl ∧ cl ≤ 3 := ⟨(cls % 4).toNat, by omega, by omega⟩
    rw [hcle]
    obtain ⟨M0, _, _, _, _, _, _, _, hsp0, hgen0⟩ := region0 hx cl hcl
    obtain ⟨M, hM, hMl, hMo, hMp, hMr, hMs, hMe, hM0⟩ := region1 hx cl hcl hm.l hm.o hm.e
    have h10 : hdT (M.at_ 0) ≤ 10 := by
      rw [hM0, show (allM x).at_ 0 = 1 from allM_0 hx]; decide
    have hA0 := Ap.first (ca := x.ca) hx (by omega) hcl hMl hMo hMp hMr h10
    refine go ?_
    have gr := grRegion2 (x := x) (n := nn) (r := some ⟨r, 0, none⟩) (r2 := some ⟨r2, 0, none⟩) (k := 3) (c := c) (c2 := c2) (m := m) (m2 := allM x) (s := 0) (l := (iotaI x.sl).tail)
      (G := pt (some ⟨gb, 0, none⟩) (Blk 24 [.int .i64 x.w, .int .i64 x.c, .int .i64 x.wd, .int .i64 x.sl, .int .i64 x.ca, .int .i64 x.ba]) :: pt (some ⟨r, 0, none⟩) (Row 47 1 3 c (ptrs 3 fun i => (Q i).u)) ::
        pt (some ⟨nn.g, 0, none⟩) (GrO nn.mp x) :: pt (some ⟨nn.pb, 0, none⟩) (SkO nn.mp x.pool) :: (many 3 (fun i => whoL nn.mp nn.w x (Q i) (SupS.nil x.ca) (SupS.nil x.ca)) ++ [Old w])) cl hcl hx hm.l hm.o (allM_len x) (allM_ok hx) hMs hsp0 hMe.symm
    rw [hM, hMe, hgen0] at gr
    refine Sx.ent ?_ (Sx.ca rfl gr ?_)
    · exact entm
    rintro v L' ⟨rfl, rfl⟩
    refine go ?_
    refine Sx.al fun xb => ?_
    refine go ?_
    refine Cx.lp (α := {p : Nat × Mm × (Nat → Wk) × (Nat → Nat) × List Hd × (Option Addr × Nat) // p.1 ≤ xs.length ∧ Ap x cl p.2.1 p.2.2.1 p.2.2.2.2.1 (2 * p.1) ∧ p.2.2.2.2.1.length ≤ p.1 ∧ ∀ j, j < 3 → (p.2.2.1 j).a.done = true → (p.2.2.1 j).a.at_ ≠ 6})
      (fun p => [(2, .slice sa xs.length scp), (7, .bool true), (8, .pointer (some ⟨gb, 0, none⟩)), (9, .pointer (some ⟨nn.a, 0, none⟩)), (12, .int .i64 (cl : Nat)), (13, .int .i64 ((0 : Nat) : Int)), (14, .int .i64 ((1 : Nat) : Int)), (16, .pointer (some ⟨xb, 0, none⟩)), (17, .slice p.1.2.2.2.2.2.1 p.1.2.2.2.2.1.length p.1.2.2.2.2.2.2), (18, .int .i64 (p.1.1 : Nat))])
      (fun p => apF x nn r c Q gb xb p.1.2.1 p.1.2.2.1 p.1.2.2.2.1 p.1.2.2.2.2.1 p.1.2.2.2.2.2 (some ⟨r2, 0, none⟩) c2 [Old w])
      (fun p => xs.length - p.1.1) ⟨(0, M, (fun _ => ⟨SupS.nil x.ca, aIdle, 1⟩), (fun _ => 0), [], (none, 0)), Nat.zero_le _, hA0, Nat.le_refl _, fun _ _ _ h => by cases h⟩ (sub.cons rfl (sub.cons rfl (sub.cons rfl (sub.cons rfl (sub.cons rfl (sub.cons rfl (sub.cons rfl (sub.cons rfl (sub.cons rfl (sub.cons rfl sub.nil)))))))))) ?_ ?_
    · dsimp only [apF, rgF2]
      refine Ent.trans (Ent.rownil 62 5) ?_
      have hm1 : Ent (many 3 (fun i => whoL nn.mp nn.w x (Q i) (SupS.nil x.ca) (SupS.nil x.ca)) ++ [Old w]) (many 3 (fun i => wkF nn.mp nn.g x (Q i) ⟨SupS.nil x.ca, aIdle, 1⟩ 0) ++ [Old w]) := many_ent fun i _ G => Ent.cons (Ent.cons Ent.drop)
      repeat (first | exact hm1 | (refine Ent.take1 ?_) | (refine Ent.trans Ent.drop ?_))
    rintro ⟨⟨i, m, W, bs, has, ha, hc⟩, hi, hA, hhl, hN⟩
    dsimp only [apF] at hi hA hhl hN ⊢
    refine go ?_
    refine Cx.ifp rfl (fun h => ?_) (fun h => ?_)
    · have hik : i < xs.length := by omega
      have hg : (ints xs)[i]? = some (.int .i64 xs[i]) := by simp [ints]
      obtain ⟨b0, o, rfl, _⟩ := (hRd [Old w] (Ent.refl _)).at1_ hg
      have hat : ∀ L, Ent L [Old w] → Has L b0 (o + i * 1) [.int .i64 xs[i]] := fun L hL => by
        obtain ⟨_, _, e, h⟩ := (hRd L hL).at1_ hg
        simp only [Option.some.injEq, Addr.mk.injEq, and_true] at e
        obtain ⟨rfl, rfl⟩ := e
        simpa using h
      refine gg ?_
      refine Sx.ld rfl (hat _ (by exact entm)) rfl ?_
      refine go ?_
      refine Sx.ca rfl (number xs[i] 3 (by omega) (by omega)) ?_
      rintro v L' ⟨rfl, rfl⟩
      have hq3 := Int.emod_nonneg xs[i] (show (3 : Int) ≠ 0 by omega)
      have hq4 := Int.emod_lt_of_pos xs[i] (show (0 : Int) < 3 by omega)
      obtain ⟨who, hwho, hw3⟩ : ∃ who : Nat, xs[i] % 3 = who ∧ who < 3 := ⟨(xs[i] % 3).toNat, by omega, by omega⟩
      rw [hwho]
      refine Sx.ent (Ent.ith who hw3) ?_
      have hpt : (ptrs 3 fun i => (Q i).u)[0 + (who : Int).toNat * 1]? = some (.pointer (some ⟨(Q who).u, 0, none⟩)) := by
        rw [show 0 + (who : Int).toNat * 1 = who by omega]; exact ptrs_get hw3
      cases hd : (W who).a.done with
      | true =>
        have hxv : (xvs W bs)[0 + (who : Int).toNat * 1]? = some (.pointer none) := by rw [xvs_get hw3, hd]; rfl
        simp only [wkF, hd, if_true, List.cons_append, List.nil_append]
        refine gg ?_
        refine Sx.ldb rfl hxv ?_
        refine go ?_
        refine Cx.ordc rfl (by kernel_rfl) ?_
        refine ge ?_
        refine Ev.ldrH (b := r) (by kernel_rfl) rfl rfl hpt ?_
        refine ge ?_
        refine Ev.ldH (by kernel_rfl) rfl rfl (hat _ (by exact entm)) rfl ?_
        refine ge ?_
        obtain ⟨D, hD⟩ : ∃ D, IntKind.i64.wrap (Int.tdiv xs[i] 3) = D := ⟨_, rfl⟩
        refine Ev.cakH (by kernel_rfl) rfl rfl (number (IntKind.i64.wrap (Int.tdiv xs[i] 3)) (x.wd : Int) (by omega) (by omega)) ?_
        rw [hD]
        have hz1 := Int.emod_nonneg D (show (x.wd : Int) ≠ 0 by omega)
        have hz2 := Int.emod_lt_of_pos D (show (0 : Int) < (x.wd : Int) by omega)
        obtain ⟨sz, hsz⟩ : ∃ sz : Nat, 1 + D % (x.wd : Int) = sz := ⟨(1 + D % (x.wd : Int)).toNat, by omega⟩
        refine ge ?_
        rw [w64 (n := 1 + D % (x.wd : Int)) (by omega) (by omega), hsz]
        refine Ev.caH (by kernel_rfl) rfl rfl (grantAlloc (g := nn.g) (u := (Q who).u) (mp := nn.mp) (pb := (Q who).pb) (x := x) 0 1 sz (by omega) (by omega) (by omega)) (Pres.deps (by kernel_rfl)) ?_
        rintro v L' ⟨b, rfl, rfl⟩
        refine ge ?_
        refine go ?_
        refine gg ?_
        refine Sx.stb (b := xb) rfl rfl rfl rfl (xvs_blt hw3) (xvs_set (W := W) (bs := bs) (b := b) (w := ⟨(W who).s, AlS.init, sz⟩) hw3) ?_
        refine go ?_
        rw [w64 (n := (i : Int) + 1) (by omega) (by omega)]
        have hbg := hA.begin_ hx hw3 hd (hN who hw3 hd) (n := sz) (by omega) (by omega)
        refine Klp.nm ⟨(i + 1, m, updW W who ⟨(W who).s, AlS.init, sz⟩, updN bs who b, has, (ha, hc)), by dsimp only; omega, hbg.mono (by dsimp only; omega), by dsimp only; omega, fun j hj hjd => ?_⟩ (sub.cons rfl (sub.cons rfl (sub.cons rfl (sub.cons rfl (sub.cons rfl (sub.cons rfl (sub.cons rfl (sub.cons rfl (sub.cons rfl (sub.cons rfl sub.nil)))))))))) ?_ (by dsimp only; omega)
        · dsimp only [updW] at hjd ⊢
          split
          · rename_i hj2; rw [if_pos hj2] at hjd; cases hjd
          · rename_i hj2; rw [if_neg hj2] at hjd; exact hN j hj hjd
        · have hb := wk_back (mp := nn.mp) (g := nn.g) (x := x) (Q := Q) (W := W) (bs := bs) (i := who) (b := b) (w := ⟨(W who).s, AlS.init, sz⟩) (s := [pt (some ⟨(Q who).u, 0, none⟩) (SupO nn.mp (Q who).pb x (W who).s), pt (some ⟨(Q who).pb, 0, none⟩) (SkO nn.mp x.pool), pt (some ⟨b, 0, none⟩) (AlO nn.g (Q who).u (Q who).pb x 0 1 sz AlS.init)]) (G := [Old w]) hw3 (fun G => Ent.refl _)
          have hb2 : ∀ L, Ent L _ → Ent L _ := fun L h => Ent.trans h hb
          dsimp only [apF]
          iterate 8 (refine Ent.take1 ?_)
          refine hb2 _ ?_
          exact entm
      | false =>
        have hxv : (xvs W bs)[0 + (who : Int).toNat * 1]? = some (.pointer (some ⟨bs who, 0, none⟩)) := by rw [xvs_get hw3, hd]; rfl
        simp only [wkF, hd, Bool.false_eq_true, if_false, List.cons_append, List.nil_append]
        obtain ⟨g1, g2, g3, g4, g5, g6, g7, g8, g9⟩ := hA.good hx (by omega) hcl hw8 hw3 hd
        have hgo := hA.go hx (by omega) hcl hw8 hw3 hd
        have hd6 := alStep_done (p := x.al 0 1 (W who).n) (m := m) (s := (W who).s) (hA.a6 hw3) hd
        refine gg ?_
        refine Sx.ldb rfl hxv ?_
        refine go ?_
        refine gg ?_
        refine Sx.ldb rfl hxv ?_
        refine go ?_
        refine Sx.ca rfl (alStepC (b := bs who) (g := nn.g) (u := (Q who).u) (mp := nn.mp) (pb := (Q who).pb) (x := x) (slot := 0) (gen := 1) (n := (W who).n) (S := (W who).s) (m := m) (a := (W who).a) hx (by omega) (by omega) g1 g2 hw8 g5 g6 g7 g8 (fun _ => g9)) ?_
        rintro v L' ⟨rfl, rfl⟩
        obtain ⟨⟨m', S', a'⟩, hR3⟩ : ∃ R3, alStep (x.al 0 1 (W who).n) m (W who).s (W who).a = R3 := ⟨_, rfl⟩
        rw [hR3] at hgo hd6 ⊢
        dsimp only at hgo hd6 ⊢
        have ha6 := hgo.a6 hw3
        rw [updW_at] at ha6
        refine gg ?_
        refine Sx.ldb rfl hxv ?_
        refine go ?_
        refine Sx.ca rfl (alDoneQ (b := bs who) (g := nn.g) (u := (Q who).u) (pb := (Q who).pb) (x := x) (slot := 0) (gen := 1) (n := (W who).n) (s := a') (fun _ => ha6)) ?_
        rintro v L' ⟨rfl, rfl⟩
        cases hq : a'.done with
        | false =>
          refine go ?_
          rw [w64 (n := (i : Int) + 1) (by omega) (by omega)]
          refine Klp.nm ⟨(i + 1, m', updW W who ⟨S', a', (W who).n⟩, updN bs who (bs who), has, (ha, hc)), by dsimp only; omega, hgo.mono (by dsimp only; omega), by dsimp only; omega, fun j hj hjd => ?_⟩ (sub.cons rfl (sub.cons rfl (sub.cons rfl (sub.cons rfl (sub.cons rfl (sub.cons rfl (sub.cons rfl (sub.cons rfl (sub.cons rfl (sub.cons rfl sub.nil)))))))))) ?_ (by dsimp only; omega)
          · dsimp only [updW] at hjd ⊢
            split
            · rename_i hj2; rw [if_pos hj2] at hjd; rw [hq] at hjd; cases hjd
            · rename_i hj2; rw [if_neg hj2] at hjd; exact hN j hj hjd
          · have hb := wk_back (mp := nn.mp) (g := nn.g) (x := x) (Q := Q) (W := W) (bs := bs) (i := who) (b := bs who) (w := ⟨S', a', (W who).n⟩) (s := [pt (some ⟨(Q who).u, 0, none⟩) (SupO nn.mp (Q who).pb x S'), pt (some ⟨(Q who).pb, 0, none⟩) (SkO nn.mp x.pool), pt (some ⟨bs who, 0, none⟩) (AlO nn.g (Q who).u (Q who).pb x 0 1 (W who).n a')]) (G := [Old w]) hw3 (fun G => by simp only [wkF, hq]; exact Ent.refl _)
            have hb2 : ∀ L, Ent L _ → Ent L _ := fun L h => Ent.trans h hb
            dsimp only [apF]
            rw [← xvs_same (W := W) (bs := bs) (w := ⟨S', a', (W who).n⟩) hw3 (by rw [hd]; exact hq)]
            iterate 8 (refine Ent.take1 ?_)
            refine hb2 _ ?_
            exact entm
        | true =>
          have hat6 := hd6 hq
          have hfin := hgo.fin (i := who) hx hw3 (by rw [updW_at]; exact hq) (by rw [updW_at]; exact hat6)
          rw [updW_at, updW_updW] at hfin
          dsimp only at hfin
          refine go ?_
          refine gg ?_
          refine Sx.ldb rfl hxv ?_
          refine go ?_
          refine Sx.ca rfl (alObject (b := bs who) (g := nn.g) (u := (Q who).u) (pb := (Q who).pb) (x := x) (slot := 0) (gen := 1) (n := (W who).n) (s := a') hq) ?_
          rintro v L' ⟨rfl, rfl⟩
          refine Sx.al fun hb => ?_
          refine Sx.st (b := hb) rfl rfl rfl rfl rfl rfl ?_
          refine Sx.re [.int .i64 a'.v.obj.slot, .int .i64 a'.v.obj.gen, .int .i64 a'.v.obj.chunk, .int .i64 a'.v.obj.off, .int .i64 a'.v.obj.len] rfl ?_
          refine go ?_
          refine gg ?_
          refine Sx.ldb rfl hxv ?_
          refine go ?_
          refine Sx.ca rfl (alCode (b := bs who) (g := nn.g) (u := (Q who).u) (pb := (Q who).pb) (x := x) (slot := 0) (gen := 1) (n := (W who).n) (s := a') hq) ?_
          rintro v L' ⟨rfl, rfl⟩
          refine go ?_
          refine gg ?_
          refine Sx.stb (b := xb) rfl rfl rfl rfl (xvs_blt hw3) (xvs_set (W := W) (bs := bs) (b := bs who) (w := ⟨S', aIdle, (W who).n⟩) hw3) ?_
          have hN2 : ∀ j, j < 3 → (updW W who ⟨S', aIdle, (W who).n⟩ j).a.done = true → (updW W who ⟨S', aIdle, (W who).n⟩ j).a.at_ ≠ 6 := fun j hj hjd => by
            dsimp only [updW] at hjd ⊢
            split
            · exact fun hh => by cases hh
            · rename_i hj2; rw [if_neg hj2] at hjd; exact hN j hj hjd
          have hbk := wk_back (mp := nn.mp) (g := nn.g) (x := x) (Q := Q) (W := W) (bs := bs) (i := who) (b := bs who) (w := ⟨S', aIdle, (W who).n⟩) (s := [pt (some ⟨(Q who).u, 0, none⟩) (SupO nn.mp (Q who).pb x S'), pt (some ⟨(Q who).pb, 0, none⟩) (SkO nn.mp x.pool)]) (G := [Old w]) hw3 (fun G => Ent.refl _)
          have hb2 : ∀ L, Ent L _ → Ent L _ := fun L h => Ent.trans h hbk
          rcases hfin with ⟨hcd, hfin⟩ | ⟨hcd, hfin, hap, fc, ff, fl, hob, hfc, hfl, hfe, hfm, hfz⟩
          · rw [hcd]
            refine go ?_
            rw [w64 (n := (i : Int) + 1) (by omega) (by omega)]
            refine Klp.nm ⟨(i + 1, m', updW W who ⟨S', aIdle, (W who).n⟩, updN bs who (bs who), has, (ha, hc)), by dsimp only; omega, hfin.mono (by dsimp only; omega), by dsimp only; omega, hN2⟩ (sub.cons rfl (sub.cons rfl (sub.cons rfl (sub.cons rfl (sub.cons rfl (sub.cons rfl (sub.cons rfl (sub.cons rfl (sub.cons rfl (sub.cons rfl sub.nil)))))))))) ?_ (by dsimp only; omega)
            dsimp only [apF]
            iterate 8 (refine Ent.take1 ?_)
            refine hb2 _ ?_
            exact entm
          · rw [hcd, hob]
            refine go ?_
            rw [decide_eq_false (show ¬ (x.c : Int) ≤ fc by omega)]
            refine go ?_
            rw [decide_eq_false (show ¬ (fl : Int) < 1 by omega)]
            refine go ?_
            rw [w64 (n := (x.wd : Int) - fl) (by omega) (by omega), decide_eq_false (show ¬ (x.wd : Int) - fl < ff by omega)]
            refine go ?_
            rw [wrap64 (n := cl) (by omega)]
            refine Sx.pv rfl (by omega) ?_
            have hp : 1 ≤ 2 ^ cl ∧ 2 ^ cl ≤ 8 := by rcases (show cl = 0 ∨ cl = 1 ∨ cl = 2 ∨ cl = 3 by omega) with rfl | rfl | rfl | rfl <;> decide
            have e3 : min (cl : Int).toNat IntKind.i64.bits = cl := by rw [Int.toNat_natCast]; exact Nat.min_eq_left (by show cl ≤ 64; omega)
            obtain ⟨P, hP⟩ : ∃ P, P = 2 ^ cl := ⟨_, rfl⟩
            rw [← hP] at hp hfm
            rw [e3, show (1 : Int) * 2 ^ cl = ((2 ^ cl : Nat) : Int) by push_cast; omega, ← hP, w64 (n := (P : Int)) (by omega) (by omega)]
            refine go ?_
            refine Sx.pv rfl (by omega) ?_
            have e4 : Int.tmod (ff : Int) P = 0 := by
              show ((ff % P : Nat) : Int) = 0
              rw [hfm]; rfl
            rw [e4]
            refine go ?_
            refine Cx.ent (M := pt (some ⟨hb, 0, none⟩) (Blk 62 [.int .i64 0, .int .i64 1, .int .i64 fc, .int .i64 ff, .int .i64 fl]) :: apF x nn r c Q gb xb m' (updW W who ⟨S', aIdle, (W who).n⟩) (updN bs who (bs who)) has (ha, hc) (some ⟨r2, 0, none⟩) c2 [Old w]) (by
              dsimp only [apF]
              iterate 9 (refine Ent.take1 ?_)
              refine hb2 _ ?_
              exact entm) ?_
            rw [hob] at hfin hap
            have hob2 := hgo.objs
            have hml := hgo.len
            refine Cx.lp (α := {j : Nat // j ≤ fl})
              (fun j => [(2, .slice (some ⟨b0, o, none⟩) xs.length scp), (7, .bool true), (8, .pointer (some ⟨gb, 0, none⟩)), (9, .pointer (some ⟨nn.a, 0, none⟩)), (12, .int .i64 (cl : Nat)), (13, .int .i64 ((0 : Nat) : Int)), (14, .int .i64 ((1 : Nat) : Int)), (16, .pointer (some ⟨xb, 0, none⟩)), (17, .slice ha has.length hc), (18, .int .i64 (i : Nat)), (22, .pointer (some ⟨hb, 0, none⟩)), (24, .int .i64 (j.1 : Nat))])
              (fun j => pt (some ⟨hb, 0, none⟩) (Blk 62 [.int .i64 0, .int .i64 1, .int .i64 fc, .int .i64 ff, .int .i64 fl]) :: apF x nn r c Q gb xb m' (updW W who ⟨S', aIdle, (W who).n⟩) (updN bs who (bs who)) has (ha, hc) (some ⟨r2, 0, none⟩) c2 [Old w])
              (fun j => fl - j.1) ⟨0, Nat.zero_le _⟩ (sub.cons rfl (sub.cons rfl (sub.cons rfl (sub.cons rfl (sub.cons rfl (sub.cons rfl (sub.cons rfl (sub.cons rfl (sub.cons rfl (sub.cons rfl (sub.cons rfl (sub.cons rfl sub.nil)))))))))))) (Ent.refl _) ?_
            rintro ⟨j, hj⟩
            dsimp only [apF]
            refine go ?_
            refine Cx.ifp rfl (fun h => ?_) (fun h => ?_)
            · have hjl : j < fl := by omega
              have hmul : fc * x.wd + x.wd ≤ x.c * x.wd := by
                have : (fc + 1) * x.wd ≤ x.c * x.wd := Nat.mul_le_mul_right _ (by omega)
                rw [Nat.succ_mul] at this; exact this
              refine go ?_
              refine Cx.ordc rfl (by kernel_rfl) ?_
              refine ge ?_
              rw [w64 (n := (ff : Int) + j) (by omega) (by omega), show (ff : Int) + j = ((ff + j : Nat) : Int) by push_cast; rfl]
              refine Ev.cakH (vs := [x.v, .int .i64 (fc : Nat), .int .i64 ((ff + j : Nat) : Int)]) (by kernel_rfl) rfl rfl (layWordN hx fc (ff + j) hfc (by omega)) ?_
              refine ge ?_
              refine Ev.cakH (by kernel_rfl) rfl rfl (cellsPeek (b := nn.mp) (m := m') (x.word + fc * x.wd + (ff + j)) (by omega)) ?_
              rw [hfz (ff + j) (by omega)]
              refine ge ?_
              refine go ?_
              rw [w64 (n := (j : Int) + 1) (by omega) (by omega)]
              exact Klp.nm ⟨j + 1, by omega⟩ (sub.cons rfl (sub.cons rfl (sub.cons rfl (sub.cons rfl (sub.cons rfl (sub.cons rfl (sub.cons rfl (sub.cons rfl (sub.cons rfl (sub.cons rfl (sub.cons rfl (sub.cons rfl sub.nil)))))))))))) entm (by dsimp only; omega)
            · refine go ?_
              refine Cx.rowkey (a := ha) fun hxl hc1 hc2 hkr => ?_
              refine Cx.lp (α := {j : Nat // j ≤ has.length})
                (fun j => [(2, .slice (some ⟨b0, o, none⟩) xs.length scp), (7, .bool true), (8, .pointer (some ⟨gb, 0, none⟩)), (9, .pointer (some ⟨nn.a, 0, none⟩)), (12, .int .i64 (cl : Nat)), (13, .int .i64 ((0 : Nat) : Int)), (14, .int .i64 ((1 : Nat) : Int)), (16, .pointer (some ⟨xb, 0, none⟩)), (17, .slice ha has.length hc), (18, .int .i64 (i : Nat)), (22, .pointer (some ⟨hb, 0, none⟩)), (25, .int .i64 (j.1 : Nat))])
                (fun j => pt (some ⟨hb, 0, none⟩) (Blk 62 [.int .i64 0, .int .i64 1, .int .i64 fc, .int .i64 ff, .int .i64 fl]) :: apF x nn r c Q gb xb m' (updW W who ⟨S', aIdle, (W who).n⟩) (updN bs who (bs who)) has (ha, hc) (some ⟨r2, 0, none⟩) c2 [Old w])
                (fun j => has.length - j.1) ⟨0, Nat.zero_le _⟩ (sub.cons rfl (sub.cons rfl (sub.cons rfl (sub.cons rfl (sub.cons rfl (sub.cons rfl (sub.cons rfl (sub.cons rfl (sub.cons rfl (sub.cons rfl (sub.cons rfl (sub.cons rfl sub.nil)))))))))))) (by dsimp only [apF]; exact entm) ?_
              rintro ⟨j, hj⟩
              dsimp only [apF]
              refine go ?_
              refine Cx.ifp rfl (fun h => ?_) (fun h => ?_)
              · have hjl : j < has.length := by omega
                obtain ⟨hg, rfl⟩ : ∃ g, ha = some ⟨g, 0, none⟩ := by
                  rcases hkr with hkr | hkr
                  · omega
                  · exact hkr
                obtain ⟨q1, q2, q3⟩ := hob2 has[j] (List.getElem_mem hjl)
                have hapj := hap has[j] (List.getElem_mem hjl)
                have hl2 := hds_get has j hjl 2 (by omega)
                have hl3 := hds_get has j hjl 3 (by omega)
                have hl4 := hds_get has j hjl 4 (by omega)
                refine go ?_
                refine Cx.ordc rfl (by kernel_rfl) ?_
                refine ge ?_
                refine Ev.ldrH (b := hg) (by kernel_rfl) rfl rfl (show (hds has)[0 + (j : Int).toNat * 5 + 2]? = some (.int .i64 has[j].chunk) by rw [show 0 + (j : Int).toNat * 5 + 2 = j * 5 + 2 by omega]; exact hl2) ?_
                refine ge ?_
                have hl3' : (hds has)[0 + (j : Int).toNat * 5 + 3]? = some (.int .i64 has[j].off) := by rw [show 0 + (j : Int).toNat * 5 + 3 = j * 5 + 3 by omega]; exact hl3
                have hl4' : (hds has)[0 + (j : Int).toNat * 5 + 4]? = some (.int .i64 has[j].len) := by rw [show 0 + (j : Int).toNat * 5 + 4 = j * 5 + 4 by omega]; exact hl4
                refine Ev.ifb 238 rfl (fun hce => ?_) (fun hce => ?_)
                · refine ge ?_
                  refine Ev.ldrH (b := hg) (by kernel_rfl) rfl rfl hl3' ?_
                  refine ge ?_
                  rw [w64 (n := (ff : Int) + fl) (by omega) (by omega)]
                  refine Ev.ifb 251 rfl (fun hco => ?_) (fun hco => ?_)
                  · refine ge ?_
                    refine Ev.ldrH (b := hg) (by kernel_rfl) rfl rfl hl3' ?_
                    refine ge ?_
                    refine Ev.ldrH (b := hg) (by kernel_rfl) rfl rfl hl4' ?_
                    refine ge ?_
                    have hce2 : has[j].chunk = (fc : Int) := of_decide_eq_true hce
                    have hco2 : has[j].off < (ff : Int) + fl := of_decide_eq_true hco
                    have hno : ¬ (ff : Int) < has[j].off + has[j].len := by
                      rcases hapj hce2 with hh | hh
                      · have hh : has[j].off + has[j].len ≤ (ff : Int) := hh
                        omega
                      · have hh : (ff : Int) + fl ≤ has[j].off := hh
                        omega
                    rw [w64 (n := has[j].off + has[j].len) (by omega) (by omega), decide_eq_false hno]
                    refine go ?_
                    rw [w64 (n := (j : Int) + 1) (by omega) (by omega)]
                    exact Klp.nm ⟨j + 1, by omega⟩ (sub.cons rfl (sub.cons rfl (sub.cons rfl (sub.cons rfl (sub.cons rfl (sub.cons rfl (sub.cons rfl (sub.cons rfl (sub.cons rfl (sub.cons rfl (sub.cons rfl (sub.cons rfl sub.nil)))))))))))) entm (by dsimp only; omega)
                  · refine ge ?_
                    refine go ?_
                    rw [w64 (n := (j : Int) + 1) (by omega) (by omega)]
                    exact Klp.nm ⟨j + 1, by omega⟩ (sub.cons rfl (sub.cons rfl (sub.cons rfl (sub.cons rfl (sub.cons rfl (sub.cons rfl (sub.cons rfl (sub.cons rfl (sub.cons rfl (sub.cons rfl (sub.cons rfl (sub.cons rfl sub.nil)))))))))))) entm (by dsimp only; omega)
                · refine ge ?_
                  refine go ?_
                  rw [w64 (n := (j : Int) + 1) (by omega) (by omega)]
                  exact Klp.nm ⟨j + 1, by omega⟩ (sub.cons rfl (sub.cons rfl (sub.cons rfl (sub.cons rfl (sub.cons rfl (sub.cons rfl (sub.cons rfl (sub.cons rfl (sub.cons rfl (sub.cons rfl (sub.cons rfl (sub.cons rfl sub.nil)))))))))))) entm (by dsimp only; omega)
              · refine go ?_
                refine Sx.bs (sz := 5) (cs := [.int .i64 0, .int .i64 1, .int .i64 (fc : Nat), .int .i64 (ff : Nat), .int .i64 (fl : Nat)]) rfl rfl fun gq => ?_
                refine Sx.ap (ra := ha) rfl rfl (Rd.row (b := gq) (E := 62) (cap := 1) rfl) rfl (by rw [hmx]; omega) (by omega) fun ra' cap' hc' => ?_
                rw [show hds has ++ [Value.int .i64 0, .int .i64 1, .int .i64 (fc : Nat), .int .i64 (ff : Nat), .int .i64 (fl : Nat)] = hds (has ++ [⟨0, 1, fc, ff, fl⟩]) by simp [hds], show has.length + 1 = (has ++ [(⟨0, 1, fc, ff, fl⟩ : Hd)]).length by simp]
                refine go ?_
                rw [w64 (n := (i : Int) + 1) (by omega) (by omega)]
                refine Klp.nm ⟨(i + 1, m', updW W who ⟨S', aIdle, (W who).n⟩, updN bs who (bs who), has ++ [⟨0, 1, fc, ff, fl⟩], (ra', cap')), by dsimp only; omega, hfin.mono (by dsimp only; omega), by dsimp only; rw [List.length_append]; show has.length + 1 ≤ i + 1; omega, hN2⟩ (sub.cons rfl (sub.cons rfl (sub.cons rfl (sub.cons rfl (sub.cons rfl (sub.cons rfl (sub.cons rfl (sub.cons rfl (sub.cons rfl (sub.cons rfl sub.nil)))))))))) ?_ (by dsimp only; omega)
                dsimp only [apF]
                exact entm
    · refine go ?_
      exact Kr.one (.inr rfl) rfl (Ent.refl _) ⟨rfl, entm⟩
end
end Go.Proofs.YtflalhdofhobmaaGreat
