/-
  Parts of the proof, merged: what the statement leans on.
-/
import Derived.Test.YtnbkjcmmjgkdaaaGreatZGnC
/-
  Many parts of one kind; the memory, the workers' supplies, the document's beside, of the statements about gathering.
-/
set_option linter.unusedVariables false
set_option linter.unusedSimpArgs false
namespace Go.Proofs.YtnbkjcmmjgkdaaaGreat
open Go
attribute [local irreducible] Sx Cx Rx Fx Krg Ksq Kbl Klp Kr
theorem holds_perm {L M : St} (p : L.Perm M) : ∀ {h : Hp}, holds L h → holds M h := by
  induction p with
  | nil => exact fun H => H
  | cons x _ ih => exact fun H => holds_cons (fun _ => ih) H
  | swap x y l => exact fun H => holds_swap H
  | trans _ _ ih1 ih2 => exact fun H => ih2 (ih1 H)
theorem Ent.perm {L M : St} (p : L.Perm M) : Ent L M := .of fun _ => holds_perm p
def many (n : Nat) (f : Nat → St) : St := (List.range n).flatMap f
def updS (f : Nat → St) (i : Nat) (s : St) : Nat → St := fun j => if j = i then s else f j
theorem Ent.deep {M N G : St} : Ent (N ++ (M ++ G)) (M ++ (N ++ G)) := by
  rw [← List.append_assoc, ← List.append_assoc]; exact .perm (List.perm_append_comm.append_right _)
theorem many_zero (f : Nat → St) : many 0 f = [] := rfl
theorem many_succ (n : Nat) (f : Nat → St) : many (n + 1) f = many n f ++ f n := by simp [many, List.range_succ]
theorem many_congr {n : Nat} {f g : Nat → St} (h : ∀ i, i < n → f i = g i) : many n f = many n g := by
  induction n with
  | zero => rfl
  | succ n ih => rw [many_succ, many_succ, ih fun i hi => h i (by omega), h n (by omega)]
theorem updS_same (f : Nat → St) (i : Nat) (s : St) : updS f i s i = s := if_pos rfl
theorem updS_ne (f : Nat → St) {i j : Nat} (s : St) (h : j ≠ i) : updS f i s j = f j := if_neg h
theorem many_perm {n : Nat} {f : Nat → St} : ∀ {i : Nat}, i < n → (many n f).Perm (f i ++ many n (updS f i [])) := by
  induction n with
  | zero => intro i h; omega
  | succ n ih =>
    intro i h
    rw [many_succ, many_succ]
    by_cases e : i = n
    · subst e
      rw [updS_same, List.append_nil, many_congr (g := f) fun j hj => updS_ne f [] (by omega)]
      exact List.perm_append_comm
    · rw [updS_ne f [] (show n ≠ i by omega), ← List.append_assoc]
      exact (ih (by omega)).append_right _
/-- One of them ahead. -/
theorem Ent.one {n i : Nat} {f : Nat → St} {G : St} (h : i < n) : Ent (many n f ++ G) (f i ++ (many n (updS f i []) ++ G)) := by
  rw [← List.append_assoc]; exact .perm ((many_perm h).append_right _)
theorem Ent.app {A B X : St} (h : Ent A B) : Ent (X ++ A) (X ++ B) := by
  induction X with
  | nil => exact h
  | cons P X ih => exact Ent.cons ih
theorem Ent.dropA {A B : St} : Ent (A ++ B) B := by
  induction A with
  | nil => exact Ent.refl _
  | cons P X ih => exact Ent.trans Ent.drop ih
/-- Where the many stand in a list. -/
class Many (L : St) (n : outParam Nat) (f : outParam (Nat → St)) (N G : outParam St) : Prop where
  eq : L = N ++ (many n f ++ G)
instance (priority := high) Many.here (n : Nat) (f : Nat → St) (G : St) : Many (many n f ++ G) n f [] G := ⟨rfl⟩
instance Many.there (P : As) (L : St) (n : Nat) (f : Nat → St) (N G : St) [t : Many L n f N G] : Many (P :: L) n f (P :: N) G := ⟨by rw [t.eq]; rfl⟩
/-- One of them ahead of all; back. -/
theorem Ent.ith {L : St} {n : Nat} {f : Nat → St} {N G : St} [t : Many L n f N G] (i : Nat) (h : i < n) : Ent L (f i ++ (N ++ (many n (updS f i []) ++ G))) := by
  rw [t.eq]
  exact Ent.trans Ent.deep (Ent.trans (Ent.one h) (Ent.app Ent.deep))
theorem entm {L M : St} (h : Ent L M := by repeat (first | exact Ent.refl _ | (refine Ent.take1 ?_) | (refine Ent.trans Ent.drop ?_) | (refine Ent.trans Ent.dropA ?_))) : Ent L M := h
/-- Addresses, one for each. -/
def ptrs (n : Nat) (U : Nat → Nat) : List Value := (List.range n).map fun i => .pointer (some ⟨U i, 0, none⟩)
theorem ptrs_succ (n : Nat) (U : Nat → Nat) : ptrs (n + 1) U = ptrs n U ++ [.pointer (some ⟨U n, 0, none⟩)] := by simp [ptrs, List.range_succ]
theorem ptrs_get {n i : Nat} {U : Nat → Nat} (h : i < n) : (ptrs n U)[i]? = some (.pointer (some ⟨U i, 0, none⟩)) := by simp [ptrs, h]
theorem ptrs_congr {n : Nat} {U V : Nat → Nat} (h : ∀ i, i < n → U i = V i) : ptrs n U = ptrs n V := by
  unfold ptrs
  refine List.map_congr_left fun i hi => ?_
  rw [h i (List.mem_range.1 hi)]
/-- Where a worker's supplies stand: the program's, its pool; the document's, its cache, its limbo. -/
structure Who where
  u : Nat
  pb : Nat
  s : Nat
  st : Nat
  lm : Nat
section
variable {L F G : St}
def whoL (mp w : Nat) (x : Cn) (q : Who) (S : SupS) : St :=
  [pt (some ⟨q.u, 0, none⟩) (SupO mp q.pb x S), pt (some ⟨q.pb, 0, none⟩) (SkO mp x.pool),
   pt (some ⟨q.s, 0, none⟩) (Blk 100 [.pointer (some ⟨w, 0, none⟩), .pointer (some ⟨q.st, 0, none⟩), .pointer (some ⟨q.lm, 0, none⟩)]), pt (some ⟨q.lm, 0, none⟩) (RLimboO S.lm), pt (some ⟨q.st, 0, none⟩) (RefO S.most S.xs)]
/-- Where all stands. -/
structure Gn where
  a : Nat
  mp : Nat
  te : Nat
  g : Nat
  e : Nat
  pb : Nat
  w : Nat
  rm : Nat
  rp : Nat
  rs : Nat
  re : Nat
abbrev gaV (x : Cn) (n : Gn) (r r2 : Option Addr) (k c c2 : Nat) : List Value :=
  [.int .i64 x.w, .int .i64 x.c, .int .i64 x.wd, .int .i64 x.sl, .int .i64 x.ca, .int .i64 x.ba, .pointer (some ⟨n.mp, 0, none⟩), .pointer (some ⟨n.te, 0, none⟩), .pointer (some ⟨n.g, 0, none⟩), .pointer (some ⟨n.pb, 0, none⟩), .slice r k c, .pointer (some ⟨n.w, 0, none⟩), .slice r2 k c2]
abbrev gaF (x : Cn) (n : Gn) (r r2 : Option Addr) (k c c2 : Nat) (Q : Nat → Who) (S : Nat → SupS) (m m2 : Mm) (G : St) : St :=
  pt (some ⟨n.a, 0, none⟩) (Blk 80 (gaV x n r r2 k c c2)) :: pt r (Row 39 1 k c (ptrs k fun i => (Q i).u)) :: pt r2 (Row 89 1 k c2 (ptrs k fun i => (Q i).s)) ::
  pt (some ⟨n.mp, 0, none⟩) (MemO m) :: pt (some ⟨n.pb, 0, none⟩) (SkO n.mp x.pool) :: pt (some ⟨n.te, 0, none⟩) (EpO n.mp x) :: pt (some ⟨n.g, 0, none⟩) (GaO n.mp n.e) :: pt (some ⟨n.e, 0, none⟩) (EpO n.mp x) ::
  pt (some ⟨n.w, 0, none⟩) (RWO x n.rm n.rp n.rs n.re) :: pt (some ⟨n.rm, 0, none⟩) (RMemO m2) :: pt (some ⟨n.rp, 0, none⟩) (RSkO n.rm x.pool) :: pt (some ⟨n.rs, 0, none⟩) (RSkO n.rm x.spare) :: pt (some ⟨n.re, 0, none⟩) (REpO x n.rm) ::
  (many k (fun i => whoL n.mp n.w x (Q i) (S i)) ++ G)
def updQ (Q : Nat → Who) (i : Nat) (q : Who) : Nat → Who := fun j => if j = i then q else Q j
theorem gaMade {x : Cn} (hx : x.ok) : Fx Tryz.prog 29 [x.v] L (fun v L' => ∃ (n : Gn) (r r2 c c2 : Nat) (Q : Nat → Who), v = .pointer (some ⟨n.a, 0, none⟩) ∧
    L' = gaF x n (some ⟨r, 0, none⟩) (some ⟨r2, 0, none⟩) x.w c c2 Q (fun _ => SupS.nil x.ca) (poolM x) (fillM x.spare (poolM x)) L) := by
  obtain ⟨b1, b2, b3, b4, b5, b6, b7⟩ := hx.b
  have hlen := hx.len_le
  have hl1 : 1 ≤ x.len := by unfold Cn.len; omega
  have hpl := poolM_len x
  have hzl := zeroM_len x
  refine Fx.mk Tryz.func29 k29 (Nat.le_of_ble_eq_true rfl) ?_
  dsimp only [c29, envOf, Nat.reduceAdd]
  refine Cx.sq ?_
  refine Cx.rg ?_
  refine Sx.bx rfl rfl fun g0 => ?_
  refine go ?_
  refine Sx.ca rfl (layLen (x.w : Int) x.c x.wd x.sl x.ca x.ba hx) ?_
  rintro v L' ⟨rfl, rfl⟩
  rw [x.lenC]
  refine go ?_
  refine Sx.ca rfl (cellsNew x.len hl1 hlen) ?_
  rintro v L' ⟨mp, rfl, rfl⟩
  refine go ?_
  refine Sx.ca rfl (chainNew (mp := mp) (m := zeroM x) hx (by omega)) ?_
  rintro v L' ⟨ch, pb, rfl, rfl⟩
  refine go ?_
  refine Sx.ca rfl (gatherNew (mp := mp) (m := zeroM x) hx (by omega)) ?_
  rintro v L' ⟨g, e, rfl, rfl⟩
  refine go ?_
  refine Cx.ordc rfl (by kernel_rfl) ?_
  refine ge ?_
  refine Ev.cakH (by kernel_rfl) rfl rfl (layPinN hx 0 (by omega)) ?_
  refine ge ?_
  refine Ev.caH (by kernel_rfl) rfl rfl (epochNew (mp := mp) (m := zeroM x) (x := x) hx (by omega)) (Pres.deps (by kernel_rfl)) ?_
  rintro v L' ⟨te, rfl, rfl⟩
  refine ge ?_
  refine go ?_
  refine Sx.ca rfl (chainPool (g := ch) (mp := mp) (sb := pb) (x := x)) ?_
  rintro v L' ⟨rfl, rfl⟩
  refine go ?_
  refine Sx.ca rfl (chainFill (g := ch) (mp := mp) (sb := pb) (x := x) (m := zeroM x) (hx.pool (by omega) (by omega))) ?_
  rintro v L' rfl
  refine go ?_
  refine Cx.ordc rfl (by kernel_rfl) ?_
  refine ge ?_
  refine Ev.cakH (by kernel_rfl) rfl rfl (chainPool (g := ch) (mp := mp) (sb := pb) (x := x)) ?_
  refine ge ?_
  refine Ev.caH (by kernel_rfl) rfl rfl (refWNew hx) (.dep rfl (.dep rfl (.keep (fun v L' ⟨_, _, _, _, _, _, e⟩ => by subst e; exact Has.blk) .nil))) ?_
  rintro v L' ⟨w, rm, rp, rs, re, rfl, rfl⟩
  refine ge ?_
  refine Ev.bxH (by kernel_rfl) rfl rfl rfl (Pres.deps (by kernel_rfl)) fun a => ?_
  refine ge ?_
  refine go ?_
  refine Cx.lp (α := {p : Nat × (Nat → Who) × (Option Addr × Nat) × (Option Addr × Nat) // p.1 ≤ x.w})
    (fun p => [(1, .pointer (some ⟨g0, 0, none⟩)), (3, .pointer (some ⟨mp, 0, none⟩)), (11, .pointer (some ⟨a, 0, none⟩)), (12, .int .i64 (p.1.1 : Nat))])
    (fun p => pt (some ⟨g0, 0, none⟩) (Blk 24 x.l) :: gaF x ⟨a, mp, te, g, e, pb, w, rm, rp, rs, re⟩ p.1.2.2.1.1 p.1.2.2.2.1 p.1.1 p.1.2.2.1.2 p.1.2.2.2.2 p.1.2.1 (fun _ => SupS.nil x.ca) (poolM x) (fillM x.spare (poolM x)) L)
    (fun p => x.w - p.1.1) ⟨(0, fun _ => ⟨0, 0, 0, 0, 0⟩, (none, 0), (none, 0)), Nat.zero_le _⟩ (sub.cons rfl (sub.cons rfl (sub.cons rfl (sub.cons rfl sub.nil)))) ?_ ?_
  · dsimp only [gaF]
    rw [many_zero]
    refine Ent.trans (Ent.take (a := some ⟨g0, 0, none⟩)) (Ent.cons ?_)
    refine Ent.trans (Ent.take (a := some ⟨a, 0, none⟩)) (Ent.cons ?_)
    refine Ent.trans (Ent.rownil 89 1) (Ent.trans (Ent.rownil 39 1) (Ent.cons (Ent.cons ?_)))
    unfold poolM
    simp only [List.nil_append]
    exact ent
  rintro ⟨⟨j, Q, ⟨r, c⟩, ⟨r2, c2⟩⟩, hj⟩
  dsimp only [gaF] at hj ⊢
  refine go ?_
  refine Cx.ifp rfl (fun h => ?_) (fun h => ?_)
  · refine go ?_
    refine Sx.ca rfl (supNew (mp := mp) (m := poolM x) hx (by omega)) ?_
    rintro v L' ⟨u, pb2, rfl, rfl⟩
    refine go ?_
    refine Sx.bs (sz := 1) rfl rfl fun q => ?_
    refine Sx.ap (ra := r) rfl rfl (Rd.row (b := q) (E := 39) (cap := 1) rfl) rfl (by simp [maxLen]; omega) (by omega) fun r' c' hc => ?_
    refine go ?_
    refine Cx.orde rfl (by kernel_rfl) ?_
    refine ge ?_
    refine Ev.caH (by kernel_rfl) rfl rfl (refSupply (w := w) (rm := rm) (rp := rp) (rs := rs) (re := re) (x := x)) (.dep rfl (.keep (fun v L' ⟨_, _, _, _, e⟩ => by subst e; exact Has.cell rfl) .nil)) ?_
    rintro v L' ⟨s, st, lm, rfl, rfl⟩
    refine ge ?_
    refine Ev.bsH (sz := 1) (by kernel_rfl) rfl rfl rfl (.dep rfl (.keep (fun v L' ⟨_, _, e⟩ => by subst e; exact Has.cell rfl) .nil)) fun q2 => ?_
    refine ge ?_
    refine Ev.apH (ra := r2) (by kernel_rfl) rfl rfl rfl (Rd.row (b := q2) (E := 89) (cap := 1) rfl) rfl (by simp [maxLen]; omega) (by omega) (Pres.deps (by kernel_rfl)) fun r2' c2' hc2 hk2 => ?_
    refine ge ?_
    refine Ev.stbH (b := a) (by kernel_rfl) rfl rfl rfl rfl rfl (by rfl) rfl (Pres.deps (by kernel_rfl)) ?_
    refine ge ?_
    refine go ?_
    rw [w64 (n := (j : Int) + 1) (by omega) (by omega)]
    refine Klp.nm ⟨(j + 1, updQ Q j ⟨u, pb2, s, st, lm⟩, (r', c'), (r2', c2')), by dsimp only; omega⟩ (sub.cons rfl (sub.cons rfl (sub.cons rfl (sub.cons rfl sub.nil)))) ?_ (by dsimp only; omega)
    have eu : ptrs j (fun i => (updQ Q j ⟨u, pb2, s, st, lm⟩ i).u) = ptrs j fun i => (Q i).u := ptrs_congr fun i hi => by simp [updQ, show i ≠ j by omega]
    have es : ptrs j (fun i => (updQ Q j ⟨u, pb2, s, st, lm⟩ i).s) = ptrs j fun i => (Q i).s := ptrs_congr fun i hi => by simp [updQ, show i ≠ j by omega]
    have em : many j (fun i => whoL mp w x (updQ Q j ⟨u, pb2, s, st, lm⟩ i) (SupS.nil x.ca)) = many j fun i => whoL mp w x (Q i) (SupS.nil x.ca) := many_congr fun i hi => by simp [updQ, show i ≠ j by omega]
    dsimp only [gaF]
    rw [ptrs_succ, ptrs_succ, many_succ, eu, es, em]
    simp only [updQ, if_true, List.append_assoc]
    refine Ent.trans (Ent.take (a := some ⟨g0, 0, none⟩)) (Ent.cons ?_)
    iterate 13 (refine Ent.take1 ?_)
    refine Ent.trans ?_ (Ent.deep (N := whoL mp w x ⟨u, pb2, s, st, lm⟩ (SupS.nil x.ca)))
    simp only [whoL, List.cons_append, List.nil_append]
    exact ent
  · obtain rfl : j = x.w := by omega
    refine Cx.rowkey (a := r) fun _ _ _ hk1 => ?_
    refine Cx.rowkey (a := r2) fun _ _ _ hk2 => ?_
    obtain ⟨ra, rfl⟩ : ∃ g, r = some ⟨g, 0, none⟩ := by
      rcases hk1 with h | h
      · omega
      · exact h
    obtain ⟨rb, rfl⟩ : ∃ g, r2 = some ⟨g, 0, none⟩ := by
      rcases hk2 with h | h
      · omega
      · exact h
    refine go ?_
    exact Kr.one (.inr rfl) rfl Ent.drop ⟨⟨a, mp, te, g, e, pb, w, rm, rp, rs, re⟩, ra, rb, c, c2, Q, rfl, rfl⟩
end
end Go.Proofs.YtnbkjcmmjgkdaaaGreat

/-
  Supplies: a Take begins; the chapter's example.
-/
set_option linter.unusedVariables false
set_option linter.unusedSimpArgs false
namespace Go.Proofs.YtnbkjcmmjgkdaaaGreat
open Go
attribute [local irreducible] Sx Cx Rx Fx Krg Ksq Kbl Klp Kr
section
variable {L F G : St}
end
end Go.Proofs.YtnbkjcmmjgkdaaaGreat

/-
  One alone takes: Steps until the end.
-/
set_option linter.unusedVariables false
set_option linter.unusedSimpArgs false
namespace Go.Proofs.YtnbkjcmmjgkdaaaGreat
open Go
attribute [local irreducible] Sx Cx Rx Fx Krg Ksq Kbl Klp Kr
section
variable {L F G : St}
end
end Go.Proofs.YtnbkjcmmjgkdaaaGreat

/-
  One alone takes, gives: what it gets; what is left.
-/
set_option linter.unusedVariables false
set_option linter.unusedSimpArgs false
namespace Go.Proofs.YtnbkjcmmjgkdaaaGreat
open Go
attribute [local irreducible] Sx Cx Rx Fx Krg Ksq Kbl Klp Kr
/-- What a Take alone does, with nothing in the limbo. -/
def TakeR (ba : Int) (s : SupS) (l : List Int) (ch : Int) (is_ : Bool) (N : Nat) (s' : SupS) (l' : List Int) : Prop :=
  (s.xs ≠ [] ∧ ch = lastI s.xs ∧ is_ = true ∧ N = 0 ∧ s' = s.kept ∧ l' = l) ∨
  (s.xs = [] ∧ l ≠ [] ∧ ∃ c : Nat, (c : Int) = min ba l.length ∧ ch = l.headD 0 ∧ is_ = true ∧ N = c + 2 ∧ s' = s.give (l.take c).tail ∧ l' = l.drop c) ∨
  (s.xs = [] ∧ l = [] ∧ ch = 0 ∧ is_ = false ∧ N = 1 ∧ s' = s ∧ l' = [])
theorem TakeR.size {ba : Int} {s s' : SupS} {l l' : List Int} {ch : Int} {is_ : Bool} {N : Nat} (h8 : ba ≤ 8) (h : TakeR ba s l ch is_ N s' l') : s'.xs.length ≤ s.xs.length + 8 ∧ s'.lm = s.lm ∧ s'.most = s.most := by
  rcases h with ⟨_, _, _, _, rfl, _⟩ | ⟨h0, _, c, hc, _, _, _, rfl, _⟩ | ⟨_, _, _, _, _, rfl, _⟩
  · exact ⟨by simp [SupS.kept]; omega, rfl, rfl⟩
  · refine ⟨?_, rfl, rfl⟩
    simp only [SupS.give, List.length_append, List.length_tail, List.length_take]
    omega
  · exact ⟨by omega, rfl, rfl⟩
theorem pushStep_len {k : Sk} {m : Mm} {p : PushS} : (pushStep k m p).2.ws.length = m.ws.length := by
  unfold pushStep
  (repeat' split) <;> simp [Mm.put, Mm.tick, Mm.len_cas]
/-- A Give alone. -/
theorem gives_plain {k : Sk} {m : Mm} {x l : List Int} {len : Nat} (hk : k.ok len) (hml : m.ws.length = len) (hp : Pool k m l) (hnd : x.Nodup) (hr : ∀ i ∈ x, 0 ≤ i ∧ i < k.n) (hdj : ∀ i ∈ x, i ∉ l) :
    ∃ (N : Nat) (m' : Mm) (p' : PushS), N = (if x = [] then 0 else x.length + 2) ∧ pushIt k N (giveInit k x, m) = (p', m') ∧ p'.done = true ∧ m'.n = m.n + N ∧ m'.ws.length = len ∧ Pool k m' (x ++ l) ∧
      (∀ a, a ≠ k.head → (∀ i ∈ x, a ≠ k.links + i.toNat) → m'.at_ a = m.at_ a) ∧ (∀ j, j < N → (pushIt k j (giveInit k x, m)).1.done = false) := by
  rw [giveInit_yes ⟨hnd, hr⟩]
  by_cases hx : x = []
  · subst hx
    exact ⟨0, m, PushS.init [], rfl, rfl, rfl, rfl, hml, hp, fun _ _ _ => rfl, fun j hj => by omega⟩
  · obtain ⟨m', e, h2, h3, h4, h5, h6⟩ := push_alone hk hml hp hx hnd hr hdj
    exact ⟨x.length + 2, m', _, by rw [if_neg hx], e, rfl, h2, h3, h4, h5, h6⟩
section
variable {L F G : St}
end
end Go.Proofs.YtnbkjcmmjgkdaaaGreat

/-
  A Collect alone.
-/
set_option linter.unusedVariables false
set_option linter.unusedSimpArgs false
namespace Go.Proofs.YtnbkjcmmjgkdaaaGreat
theorem advStep_len {n : Nat} {m : Mm} {a : AdvS} : (advStep n m a).2.ws.length = m.ws.length := by
  unfold advStep
  (repeat' split) <;> simp [Mm.tick, Mm.len_cas]
theorem colStep_len {k : Sk} {n : Nat} {m : Mm} {s : SupS} {c : ColS} : (colStep k n m s c).1.ws.length = m.ws.length := by
  unfold colStep
  (repeat' split) <;> simp [Mm.tick, advStep_len, pushStep_len]
theorem colIt_len {k : Sk} {n : Nat} {r : Mm × SupS × ColS} : ∀ j, (colIt k n j r).1.ws.length = r.1.ws.length
  | 0 => rfl
  | j + 1 => by show (colStep _ _ _ _ _).1.ws.length = _; rw [colStep_len]; exact colIt_len j
theorem colStep_at {k : Sk} {n : Nat} {m : Mm} {s : SupS} {c : ColS} (h : c.at_ ≤ 2) : (colStep k n m s c).2.2.at_ ≤ 2 := by
  unfold colStep
  (repeat' split) <;> dsimp only <;> (try split) <;> omega
theorem colIt_at {k : Sk} {n : Nat} {m : Mm} {s : SupS} : ∀ j, (colIt k n j (m, s, ColS.init)).2.2.at_ ≤ 2
  | 0 => by simp [colIt, ColS.init]
  | j + 1 => colStep_at (colIt_at j)
theorem SupS.ready_size (s : SupS) (now : Int) : (s.ready now).xs.length + (s.ready now).lm.size = s.xs.length + s.lm.size := by
  have := size_ready now s.lm
  show (s.xs ++ (readyAll now s.lm).1).length + (readyAll now s.lm).2.size = _
  rw [List.length_append]; omega
theorem colStep_size {k : Sk} {n : Nat} {m : Mm} {s : SupS} {c : ColS} : (colStep k n m s c).2.1.xs.length + (colStep k n m s c).2.1.lm.size ≤ s.xs.length + s.lm.size := by
  have h := s.ready_size (cutE (m.at_ 2))
  unfold colStep
  split
  · exact Nat.le_refl _
  · split
    · exact Nat.le_refl _
    · show 0 + (s.ready (cutE (m.at_ 2))).lm.size ≤ _; omega
    · exact Nat.le_refl _
theorem colIt_size {k : Sk} {n : Nat} {m : Mm} {s : SupS} {c : ColS} : ∀ j, (colIt k n j (m, s, c)).2.1.xs.length + (colIt k n j (m, s, c)).2.1.lm.size ≤ s.xs.length + s.lm.size
  | 0 => Nat.le_refl _
  | j + 1 => Nat.le_trans colStep_size (colIt_size j)
theorem col_adv {k : Sk} {n : Nat} {m : Mm} {s : SupS} {K : Nat} (hnd : ∀ j, j < K → (advIt n j (AdvS.init, m)).1.done = false) : ∀ j, j ≤ K →
    colIt k n j (m, s, ColS.init) = ((advIt n j (AdvS.init, m)).2, s, { ColS.init with a := (advIt n j (AdvS.init, m)).1, at_ := if (advIt n j (AdvS.init, m)).1.done then 1 else 0 })
  | 0, _ => rfl
  | j + 1, h => by
    show colStep k n (colIt k n j (m, s, ColS.init)).1 (colIt k n j (m, s, ColS.init)).2.1 (colIt k n j (m, s, ColS.init)).2.2 = _
    rw [col_adv hnd j (by omega), hnd j (by omega)]
    rfl
/-- A Collect alone: the Advance's accesses, a look, a Push. -/
theorem col_alone {k : Sk} {n : Nat} {m m1 m' : Mm} {s s1 : SupS} {a : AdvS} {p' : PushS} {K N2 : Nat} (hnd : ∀ j, j < K → (advIt n j (AdvS.init, m)).1.done = false) (he : advIt n K (AdvS.init, m) = (a, m1)) (hd : a.done = true)
    (hs : s1 = s.ready (cutE (m1.at_ 2))) (hp : pushIt k N2 (giveInit k s1.xs, m1.tick) = (p', m')) (hpd : p'.done = true) (hpn : ∀ j, j < N2 → (pushIt k j (giveInit k s1.xs, m1.tick)).1.done = false) :
    colIt k n (K + 1 + N2) (m, s, ColS.init) = (m', { s1 with xs := [] }, ⟨2, a, p', true⟩) ∧ ∀ j, j < K + 1 + N2 → (colIt k n j (m, s, ColS.init)).2.2.done = false := by
  subst hs
  have h0 := col_adv (k := k) (s := s) hnd K (Nat.le_refl _)
  rw [he] at h0
  simp only [hd, if_true] at h0
  have h1 : ∀ j, j ≤ N2 → colIt k n (K + 1 + j) (m, s, ColS.init) = ((pushIt k j (giveInit k (s.ready (cutE (m1.at_ 2))).xs, m1.tick)).2, { s.ready (cutE (m1.at_ 2)) with xs := [] }, ⟨2, a, (pushIt k j (giveInit k (s.ready (cutE (m1.at_ 2))).xs, m1.tick)).1, (pushIt k j (giveInit k (s.ready (cutE (m1.at_ 2))).xs, m1.tick)).1.done⟩) := by
    intro j
    induction j with
    | zero =>
      intro _
      show colStep k n (colIt k n K (m, s, ColS.init)).1 (colIt k n K (m, s, ColS.init)).2.1 (colIt k n K (m, s, ColS.init)).2.2 = _
      rw [h0]
      rfl
    | succ j ih =>
      intro hj
      show colStep k n (colIt k n (K + 1 + j) (m, s, ColS.init)).1 (colIt k n (K + 1 + j) (m, s, ColS.init)).2.1 (colIt k n (K + 1 + j) (m, s, ColS.init)).2.2 = _
      rw [ih (by omega), hpn j (by omega), pushIt_succ]
      rfl
  refine ⟨?_, fun j hj => ?_⟩
  · rw [h1 N2 (Nat.le_refl _), hp, hpd]
  · by_cases hjK : j ≤ K
    · rw [col_adv hnd j hjK]
      rfl
    · obtain ⟨i, rfl⟩ : ∃ i, j = K + 1 + i := ⟨j - (K + 1), by omega⟩
      rw [h1 i (by omega), hpn i (by omega)]
theorem Pool.congr {k : Sk} {m m' : Mm} {l : List Int} (h : Pool k m l) (h0 : m'.at_ k.head = m.at_ k.head) (hl : ∀ i, i < k.n → m'.at_ (k.links + i) = m.at_ (k.links + i)) : Pool k m' l := by
  refine ⟨?_, h.nd⟩
  rw [h0]
  refine h.c.congr fun x hx => hl _ ?_
  have := h.c.mem x hx
  omega
/-- A Collect alone, nobody behind. -/
theorem col_free {x : Cn} {m : Mm} {s : SupS} {l xs : List Int} (hx : x.ok) (hml : m.ws.length = x.len) (hm : m.ok) (hp : Pool x.pool m l) (hb : ∀ j, j < x.w → ¬ behind (m.at_ 2) (m.at_ (3 + j))) (hxs : xs = (s.ready (cutE ((m.at_ 2 + 1) % 18446744073709551616))).xs)
    (hnd : xs.Nodup) (hr : ∀ i ∈ xs, 0 ≤ i ∧ i < x.c) (hdj : ∀ i ∈ xs, i ∉ l) :
    ∃ (N : Nat) (m' : Mm) (c' : ColS), N = x.w + 3 + (if xs = [] then 0 else xs.length + 2) ∧ colIt x.pool x.w N (m, s, ColS.init) = (m', { s.ready (cutE ((m.at_ 2 + 1) % 18446744073709551616)) with xs := [] }, c') ∧ c'.done = true ∧ c'.g.done = true ∧ c'.a.won = true ∧ c'.at_ ≤ 2 ∧
      (∀ j, j < N → (colIt x.pool x.w j (m, s, ColS.init)).2.2.done = false) ∧ m'.ws.length = x.len ∧ Pool x.pool m' (xs ++ l) ∧ m'.at_ 2 = (m.at_ 2 + 1) % 18446744073709551616 ∧ m'.n = m.n + N ∧ (∀ a, a ≠ 0 → a ≠ 2 → (∀ i ∈ xs, a ≠ x.link + i.toNat) → m'.at_ a = m.at_ a) := by
  obtain ⟨b1, b2, b3, b4, b5, b6, b7⟩ := hx.b
  have hlen := hx.len_le
  have hk := hx.pool (Nat.le_refl x.len) hlen
  have hl3 : 3 ≤ x.len := by unfold Cn.len; omega
  have hlk : 3 < x.link := by unfold Cn.link; omega
  obtain ⟨ha, hand⟩ := adv_alone (n := x.w) (m := m) (by omega) hb
  have hput : ∀ a v, ((m.add (x.w + 1)).put 2 v).at_ a = if 2 = a then v else m.at_ a := fun a v => by
    rw [Mm.at_put _ (by show 2 < m.ws.length; omega)]; rfl
  have hm1l : ((m.add (x.w + 1)).put 2 ((m.at_ 2 + 1) % 18446744073709551616)).tick.ws.length = x.len := by
    show (Mm.put _ 2 _).ws.length = _; rw [Mm.len_put]; exact hml
  have hp1 : Pool x.pool ((m.add (x.w + 1)).put 2 ((m.at_ 2 + 1) % 18446744073709551616)).tick l := by
    refine hp.congr ?_ fun i _ => ?_
    · show ((m.add (x.w + 1)).put 2 ((m.at_ 2 + 1) % 18446744073709551616)).at_ 0 = m.at_ 0
      rw [hput, if_neg (by omega)]
    · show ((m.add (x.w + 1)).put 2 ((m.at_ 2 + 1) % 18446744073709551616)).at_ (x.link + i) = m.at_ (x.link + i)
      rw [hput, if_neg (by omega)]
  obtain ⟨N2, m', p', hN2, e2, hd2, hn2, hl2, hp2, hat2, hnd2⟩ := gives_plain (k := x.pool) (x := xs) (l := l) hk hm1l hp1 hnd hr hdj
  have h2 : ((m.add (x.w + 1)).put 2 ((m.at_ 2 + 1) % 18446744073709551616)).at_ 2 = (m.at_ 2 + 1) % 18446744073709551616 := by rw [hput, if_pos rfl]
  obtain ⟨hc, hcn⟩ := col_alone (k := x.pool) (s := s) hand ha rfl (by rw [h2]) (by rw [← hxs]; exact e2) hd2 (by rw [← hxs]; exact hnd2)
  have hne : ∀ i ∈ xs, (2 : Nat) ≠ x.link + i.toNat := fun i _ => by omega
  refine ⟨x.w + 2 + 1 + N2, m', _, by rw [hN2], hc, rfl, hd2, rfl, Nat.le_refl _, hcn, hl2, hp2, ?_, ?_, fun a h0 h2' hi => ?_⟩
  · rw [hat2 2 (by show 2 ≠ 0; omega) hne]
    exact h2
  · rw [hn2]
    show m.n + (x.w + 1) + 1 + 1 + N2 = _
    omega
  · rw [hat2 a h0 hi]
    show ((m.add (x.w + 1)).put 2 ((m.at_ 2 + 1) % 18446744073709551616)).at_ a = _
    rw [hput, if_neg (fun h => h2' h.symm)]
end Go.Proofs.YtnbkjcmmjgkdaaaGreat

/-
  The supplies' example.
-/
set_option linter.unusedVariables false
set_option linter.unusedSimpArgs false
namespace Go.Proofs.YtnbkjcmmjgkdaaaGreat
open Go
attribute [local irreducible] Sx Cx Rx Fx Krg Ksq Kbl Klp Kr
section
variable {L F G : St}
end
end Go.Proofs.YtnbkjcmmjgkdaaaGreat

/-
  BoundKinds' walk: no kind's bound is above Alone's, nor Alone's above Most's; with more of anything no bound is less.
-/
set_option linter.unusedVariables false
set_option linter.unusedSimpArgs false
namespace Go.Proofs.YtnbkjcmmjgkdaaaGreat
open Go
attribute [local irreducible] Sx Cx Rx Fx Krg Ksq Kbl Klp Kr
theorem ints_getD {xs : List Int} {i : Nat} {x : Int} (h : xs[i]? = some x) : (ints xs)[i]? = some (.int .i64 x) := by simp [ints, h]
section
variable {L F : St}
theorem Rd.atD {a : Option Addr} {n i : Nat} {vs : List Value} {v : Value} (h : Rd L 1 a n vs) (hv : vs[i]? = some v) : ∃ b o, a = some ⟨b, o, none⟩ ∧ Has L b (o + i) [v] := by
  obtain ⟨h1, h0 | ⟨b, o, rfl, h2⟩⟩ := h
  · have := (List.getElem?_eq_some_iff.1 hv).1; omega
  · exact ⟨b, o, rfl, h2.at_ hv⟩
/-- The next number of a row of numbers. -/
theorem seqN {q : Nat} {xs : List Int} {a : Option Addr} {n c i : Nat} {m : Int} {F : St} [t : Take L (some ⟨q, 0, none⟩) (Blk 117 [.slice a n c, .int .i64 i]) F]
    (hr : Rd L 1 a n (ints xs)) (hi : i ≤ 1000000000) (hm : 0 < m) (hm2 : m ≤ 4611686018427387904) :
    Fx Tryz.prog 55 [.pointer (some ⟨q, 0, none⟩), .int .i64 m] L (fun v L' => v = .int .i64 (xs.getD i 0 % m) ∧ L' = pt (some ⟨q, 0, none⟩) (Blk 117 [.slice a n c, .int .i64 ((i + 1 : Nat) : Int)]) :: F) := by
  have hn : n = xs.length := by have := hr.1; simp [ints] at this; omega
  refine Fx.mk Tryz.func55 k55 (Nat.le_of_ble_eq_true rfl) ?_
  dsimp only [c55, envOf, Nat.reduceAdd]
  refine go ?_
  refine Cx.calm (by kernel_rfl) ?_
  repeat' (first | (refine Cm.pvs rfl ?_) | (refine Cm.step rfl ?_) | (refine Cm.done ?_) | (refine Cm.ldb rfl rfl (by rfl) ?_) | (refine Cm.ldbs rfl rfl rfl ?_))
  refine Cx.jn (β := Unit) (fun _ => [(0, .pointer (some ⟨q, 0, none⟩)), (1, .int .i64 m), (5, .int .i64 (xs.getD i 0))]) (fun _ => L) ?_ ?_
  · refine Cx.ifp rfl (fun h => ?_) (fun h => ?_)
    · have hlt : i < xs.length := by omega
      have hg : (ints xs)[i]? = some (.int .i64 (xs.getD i 0)) := ints_getD (by simp [hlt])
      obtain ⟨b, o, rfl, hh⟩ := hr.atD hg
      refine Cx.calmK Kjn.mono (by kernel_rfl) ?_
      repeat' (first | (refine Cm.pvs rfl ?_) | (refine Cm.step rfl ?_) | (refine Cm.done ?_) | (refine Cm.ldb rfl rfl (by rfl) ?_) | (refine Cm.ldbs rfl rfl rfl ?_))
      refine Cm.pv rfl rfl ⟨by omega, by omega⟩ ?_
      refine Cm.ld rfl rfl (by simpa using hh) rfl ?_
      repeat' (first | (refine Cm.pvs rfl ?_) | (refine Cm.step rfl ?_) | (refine Cm.done ?_) | (refine Cm.ldb rfl rfl (by rfl) ?_) | (refine Cm.ldbs rfl rfl rfl ?_))
      exact Cm.nil (Kjn.nm () (sub.cons rfl (sub.cons rfl (sub.cons rfl sub.nil))) (Ent.refl _))
    · refine go ?_
      refine Kjn.nm () (sub.cons rfl (sub.cons rfl (sub.cons ?_ sub.nil))) (Ent.refl _)
      rw [show xs.getD i 0 = 0 by rw [List.getD_eq_getElem?_getD, List.getElem?_eq_none (by omega)]; rfl]
      rfl
  · rintro ⟨⟩
    refine go ?_
    rw [w64 (by omega) (by omega)]
    refine Sx.ca rfl (number _ m hm hm2) ?_
    rintro v L' ⟨rfl, rfl⟩
    refine go ?_
    exact Kr.one (.inr rfl) rfl (Ent.refl _) ⟨rfl, by simp⟩
/-- What a small configuration is. -/
def SmallC (w c wd sl ca ba : Int) : Prop := (1 ≤ w ∧ w ≤ 4) ∧ (1 ≤ c ∧ c ≤ 8) ∧ (wd = 8 ∨ wd = 16) ∧ (1 ≤ sl ∧ sl ≤ 4) ∧ (0 ≤ ca ∧ ca ≤ 3) ∧ (1 ≤ ba ∧ ba ≤ 3)
theorem config_ (n : Int) : Fx Tryz.prog 10 [.int .i64 n] L (fun v L' => (∃ w c wd sl ca ba, v = cfg w c wd sl ca ba ∧ SmallC w c wd sl ca ba) ∧ L = L') := by
  refine Fx.mk Tryz.func10 k10 (Nat.le_of_ble_eq_true rfl) ?_
  dsimp only [c10, envOf, Nat.reduceAdd]
  refine go ?_
  refine Sx.al fun g => ?_
  refine go ?_
  refine Sx.ca rfl (number n 4 (by omega) (by omega)) ?_
  rintro v L' ⟨rfl, rfl⟩
  refine go ?_
  refine Sx.pv rfl (by decide) ?_
  refine Sx.ca rfl (number _ 8 (by omega) (by omega)) ?_
  rintro v L' ⟨rfl, rfl⟩
  refine go ?_
  refine Sx.pv rfl (by decide) ?_
  refine Sx.ca rfl (number _ 2 (by omega) (by omega)) ?_
  rintro v L' ⟨rfl, rfl⟩
  refine go ?_
  refine Sx.pv rfl (by decide) ?_
  refine Sx.ca rfl (number _ 4 (by omega) (by omega)) ?_
  rintro v L' ⟨rfl, rfl⟩
  refine go ?_
  refine Sx.pv rfl (by decide) ?_
  refine Sx.ca rfl (number _ 4 (by omega) (by omega)) ?_
  rintro v L' ⟨rfl, rfl⟩
  refine go ?_
  refine Sx.pv rfl (by decide) ?_
  refine Sx.ca rfl (number _ 3 (by omega) (by omega)) ?_
  rintro v L' ⟨rfl, rfl⟩
  refine go ?_
  generalize n % 4 = x0
  generalize IntKind.i64.wrap (n.tdiv 4) % 8 = x1
  generalize IntKind.i64.wrap (n.tdiv 32) % 2 = x2
  generalize IntKind.i64.wrap (n.tdiv 64) % 4 = x3
  generalize IntKind.i64.wrap (n.tdiv 256) % 4 = x4
  generalize IntKind.i64.wrap (n.tdiv 1024) % 3 = x5
  refine Sx.bs (sz := 1) rfl rfl fun r => ?_
  refine go ?_
  refine Sx.bx rfl rfl fun q => ?_
  refine go ?_
  refine Sx.ca rfl (seqN (q := q) (xs := [x0, x1, x2, x3, x4, x5]) (i := 0) (Rd.row (b := r) (E := 3) (cap := 6) rfl) (by omega) (by omega) (by omega)) ?_
  rintro v L' ⟨rfl, rfl⟩
  refine go ?_
  refine Sx.ca rfl (seqN (q := q) (xs := [x0, x1, x2, x3, x4, x5]) (i := 1) (Rd.row (b := r) (E := 3) (cap := 6) rfl) (by omega) (by omega) (by omega)) ?_
  rintro v L' ⟨rfl, rfl⟩
  refine go ?_
  refine Sx.ca rfl (seqN (q := q) (xs := [x0, x1, x2, x3, x4, x5]) (i := 2) (Rd.row (b := r) (E := 3) (cap := 6) rfl) (by omega) (by omega) (by omega)) ?_
  rintro v L' ⟨rfl, rfl⟩
  refine go ?_
  refine Sx.ca rfl (seqN (q := q) (xs := [x0, x1, x2, x3, x4, x5]) (i := 3) (Rd.row (b := r) (E := 3) (cap := 6) rfl) (by omega) (by omega) (by omega)) ?_
  rintro v L' ⟨rfl, rfl⟩
  refine go ?_
  refine Sx.ca rfl (seqN (q := q) (xs := [x0, x1, x2, x3, x4, x5]) (i := 4) (Rd.row (b := r) (E := 3) (cap := 6) rfl) (by omega) (by omega) (by omega)) ?_
  rintro v L' ⟨rfl, rfl⟩
  refine go ?_
  refine Sx.ca rfl (seqN (q := q) (xs := [x0, x1, x2, x3, x4, x5]) (i := 5) (Rd.row (b := r) (E := 3) (cap := 6) rfl) (by omega) (by omega) (by omega)) ?_
  rintro v L' ⟨rfl, rfl⟩
  refine go ?_
  refine Sx.st (b := g) rfl rfl rfl rfl rfl rfl ?_
  dsimp only [lay]
  refine go ?_
  refine Kr_cell (b := g) (.inr rfl) rfl rfl (L' := L) ?_ ⟨⟨_, _, _, _, _, _, rfl, ?_⟩, rfl⟩
  · exact ent
  · have h0 := Int.emod_nonneg x0 (show (4 : Int) ≠ 0 by omega)
    have h0' := Int.emod_lt_of_pos x0 (show (0 : Int) < 4 by omega)
    have h1 := Int.emod_nonneg x1 (show (8 : Int) ≠ 0 by omega)
    have h1' := Int.emod_lt_of_pos x1 (show (0 : Int) < 8 by omega)
    have h2 := Int.emod_nonneg x2 (show (2 : Int) ≠ 0 by omega)
    have h2' := Int.emod_lt_of_pos x2 (show (0 : Int) < 2 by omega)
    have h3 := Int.emod_nonneg x3 (show (4 : Int) ≠ 0 by omega)
    have h3' := Int.emod_lt_of_pos x3 (show (0 : Int) < 4 by omega)
    have h4 := Int.emod_nonneg x4 (show (4 : Int) ≠ 0 by omega)
    have h4' := Int.emod_lt_of_pos x4 (show (0 : Int) < 4 by omega)
    have h5 := Int.emod_nonneg x5 (show (3 : Int) ≠ 0 by omega)
    have h5' := Int.emod_lt_of_pos x5 (show (0 : Int) < 3 by omega)
    simp only [List.getD_cons_zero, List.getD_cons_succ]
    rw [w64 (n := 1 + x0 % 4) (by omega) (by omega), w64 (n := 1 + x1 % 8) (by omega) (by omega), w64 (n := 8 * (x2 % 2)) (by omega) (by omega), w64 (n := 8 + 8 * (x2 % 2)) (by omega) (by omega), w64 (n := 1 + x3 % 4) (by omega) (by omega), w64 (n := 1 + x5 % 3) (by omega) (by omega)]
    unfold SmallC
    omega
end
end Go.Proofs.YtnbkjcmmjgkdaaaGreat

/-
  SupplyAll's walk.
-/
set_option linter.unusedVariables false
set_option linter.unusedSimpArgs false
namespace Go.Proofs.YtnbkjcmmjgkdaaaGreat
open Go
attribute [local irreducible] Sx Cx Rx Fx Krg Ksq Kbl Klp Kr
theorem small_cfg {w c wd sl ca ba : Int} (h : SmallC w c wd sl ca ba) : ∃ x : Cn, cfg w c wd sl ca ba = x.v ∧ x.ok ∧ x.ca ≤ 3 ∧ x.c ≤ 8 ∧ x.ba ≤ 3 ∧ x.w ≤ 4 := by
  unfold SmallC at h
  refine ⟨⟨w.toNat, c.toNat, wd.toNat, sl.toNat, ca.toNat, ba.toNat⟩, ?_, ?_, ?_⟩
  · simp only [Cn.v]
    rw [Int.toNat_of_nonneg (by omega), Int.toNat_of_nonneg (by omega), Int.toNat_of_nonneg (by omega), Int.toNat_of_nonneg (by omega), Int.toNat_of_nonneg (by omega), Int.toNat_of_nonneg (by omega)]
  · unfold Cn.ok MayC
    simp only
    rw [Int.toNat_of_nonneg (by omega), Int.toNat_of_nonneg (by omega), Int.toNat_of_nonneg (by omega), Int.toNat_of_nonneg (by omega), Int.toNat_of_nonneg (by omega), Int.toNat_of_nonneg (by omega)]
    rw [Int.tmod_eq_emod_of_nonneg (by omega)]
    omega
  · simp only; omega
/-- What is taken goes. -/
theorem TakeR.perm {ba : Int} {s s' : SupS} {l l' : List Int} {ch : Int} {is_ : Bool} {N : Nat} (h1 : 1 ≤ ba) (h : TakeR ba s l ch is_ N s' l') (hn : s.xs ++ l ≠ []) : is_ = true ∧ (s.xs ++ l).Perm (ch :: (s'.xs ++ l')) := by
  rcases h with ⟨hx, rfl, rfl, _, rfl, rfl⟩ | ⟨hx, hl, c, hc, rfl, rfl, _, rfl, rfl⟩ | ⟨hx, hl, _⟩
  · refine ⟨rfl, ?_⟩
    have e : s.xs = s.xs.dropLast ++ [lastI s.xs] := by
      unfold lastI
      rw [List.getLastD_eq_getLast?, List.getLast?_eq_some_getLast hx]
      exact (List.dropLast_concat_getLast hx).symm
    have : (s.xs.dropLast ++ [lastI s.xs] ++ l').Perm (lastI s.xs :: (s.xs.dropLast ++ l')) := by
      rw [List.append_assoc]
      exact List.perm_middle
    rw [← e] at this
    exact this
  · refine ⟨rfl, ?_⟩
    obtain ⟨y, l2, rfl⟩ := List.exists_cons_of_ne_nil hl
    obtain ⟨c, rfl⟩ : ∃ d, c = d + 1 := ⟨c - 1, by simp at hc; omega⟩
    have : (s.give (List.take (c + 1) (y :: l2)).tail).xs ++ List.drop (c + 1) (y :: l2) = l2 := by
      simp [SupS.give, hx]
    rw [this, hx]
    exact List.Perm.refl _
  · rw [hx, hl] at hn; exact absurd rfl hn
/-- What is known while one alone takes all. -/
def AllP (x : Cn) (i : Nat) (s : SupS) (m : Mm) (l : List Int) (sn : List Bool) : Prop :=
  s.most = (SupS.nil x.ca).most ∧ s.lm = Lm.nil ∧ m.ws.length = x.len ∧ Pool x.pool m l ∧ (s.xs ++ l).Nodup ∧ (∀ y ∈ s.xs ++ l, 0 ≤ y ∧ y < (x.c : Int)) ∧ i + (s.xs ++ l).length = x.c ∧ sn.length = x.c ∧ (∀ y ∈ s.xs ++ l, sn[y.toNat]? = some false)
theorem AllP.step {x : Cn} {i : Nat} {s s' : SupS} {m m' : Mm} {l l' : List Int} {sn : List Bool} {ch : Int} {is_ : Bool} {N : Nat} (h1 : 1 ≤ (x.ba : Int)) (h8 : (x.ba : Int) ≤ 8) (h : AllP x i s m l sn) (hi : i < x.c) (ht : TakeR x.ba s l ch is_ N s' l')
    (hl : m'.ws.length = x.len) (hp : Pool x.pool m' l') : is_ = true ∧ (0 ≤ ch ∧ ch < (x.c : Int)) ∧ sn[ch.toNat]? = some false ∧ AllP x (i + 1) s' m' l' (sn.set ch.toNat true) := by
  obtain ⟨a1, a2, a3, a4, a5, a6, a7, a8, a9⟩ := h
  obtain ⟨hi1, hpm⟩ := ht.perm h1 (by intro e; rw [e] at a7; simp at a7; omega)
  obtain ⟨_, z2, z3⟩ := ht.size h8
  have hmem : ch ∈ s.xs ++ l := hpm.mem_iff.2 (by simp)
  have hnd := hpm.nodup_iff.1 a5
  rw [List.nodup_cons] at hnd
  have hsub : ∀ y ∈ s'.xs ++ l', y ∈ s.xs ++ l := fun y hy => hpm.mem_iff.2 (List.mem_cons_of_mem _ hy)
  have hlen := hpm.length_eq
  rw [List.length_cons] at hlen
  refine ⟨hi1, a6 _ hmem, a9 _ hmem, z3.trans a1, z2.trans a2, hl, hp, hnd.2, fun y hy => a6 y (hsub y hy), by omega, by rw [List.length_set]; exact a8, fun y hy => ?_⟩
  have h2 := a6 y (hsub y hy)
  have h3 := a6 _ hmem
  rw [List.getElem?_set_ne (fun e => hnd.1 (by rw [show ch = y by omega]; exact hy))]
  exact a9 y (hsub y hy)
theorem iotaI_len (n : Nat) : (iotaI n).length = n := by simp [iotaI]
section
variable {L F G : St}
end
end Go.Proofs.YtnbkjcmmjgkdaaaGreat

/-
  gather's statements: collects, first.
-/
set_option linter.unusedVariables false
set_option linter.unusedSimpArgs false
namespace Go.Proofs.YtnbkjcmmjgkdaaaGreat
open Go
attribute [local irreducible] Sx Cx Rx Fx Krg Ksq Kbl Klp Kr
section
variable {L F G : St}
set_option maxHeartbeats 2000000 in
set_option maxRecDepth 20000 in
theorem gaCollects {x : Cn} {n : Gn} {r : Nat} {r2 : Option Addr} {k c c2 pb : Nat} {Q : Nat → Who} {s : SupS} {m : Mm} {i : Nat} (N : Nat) (hi : i < k) (hk : k ≤ 64) (hN : N < 400) (hx : x.ok) (hl : x.len ≤ m.ws.length) (hb : s.xs.length + s.lm.size ≤ 1000000)
    (hnd : ∀ j, j < N → (colIt x.pool x.w j (m, s, ColS.init)).2.2.done = false) (hd : (colIt x.pool x.w N (m, s, ColS.init)).2.2.done = true) (hg : (colIt x.pool x.w N (m, s, ColS.init)).2.2.g.done = true) :
    Fx Tryz.prog 31 [.pointer (some ⟨n.a, 0, none⟩), .int .i64 i]
      (pt (some ⟨n.a, 0, none⟩) (Blk 80 (gaV x n (some ⟨r, 0, none⟩) r2 k c c2)) :: pt (some ⟨r, 0, none⟩) (Row 39 1 k c (ptrs k fun i => (Q i).u)) :: pt (some ⟨n.g, 0, none⟩) (GaO n.mp n.e) :: pt (some ⟨n.e, 0, none⟩) (EpO n.mp x) ::
        pt (some ⟨n.mp, 0, none⟩) (MemO m) :: pt (some ⟨(Q i).u, 0, none⟩) (SupO n.mp pb x s) :: pt (some ⟨pb, 0, none⟩) (SkO n.mp x.pool) :: G)
      (fun v L' => v = .tuple #[.bool (colIt x.pool x.w N (m, s, ColS.init)).2.2.a.won, .int .i64 N] ∧ L' =
        pt (some ⟨n.a, 0, none⟩) (Blk 80 (gaV x n (some ⟨r, 0, none⟩) r2 k c c2)) :: pt (some ⟨r, 0, none⟩) (Row 39 1 k c (ptrs k fun i => (Q i).u)) :: pt (some ⟨n.g, 0, none⟩) (GaO n.mp n.e) :: pt (some ⟨n.e, 0, none⟩) (EpO n.mp x) ::
        pt (some ⟨n.mp, 0, none⟩) (MemO (colIt x.pool x.w N (m, s, ColS.init)).1) :: pt (some ⟨(Q i).u, 0, none⟩) (SupO n.mp pb x (colIt x.pool x.w N (m, s, ColS.init)).2.1) :: pt (some ⟨pb, 0, none⟩) (SkO n.mp x.pool) :: G) := by
  refine Fx.mk Tryz.func31 k31 (Nat.le_of_ble_eq_true rfl) ?_
  dsimp only [c31, envOf, Nat.reduceAdd]
  refine go ?_
  refine Cx.ordc rfl (by kernel_rfl) ?_
  refine ge ?_
  refine Ev.ldrH (b := r) (v := .pointer (some ⟨(Q i).u, 0, none⟩)) (by kernel_rfl) rfl rfl (by rw [show 0 + (i : Int).toNat * 1 = i by omega]; exact ptrs_get (U := fun i => (Q i).u) hi) ?_
  refine ge ?_
  refine Ev.caH (by kernel_rfl) rfl rfl (gatherCollect (g := n.g) (u := (Q i).u) (e := n.e) (mp := n.mp) (pb := pb) (x := x)) (Pres.deps (by kernel_rfl)) ?_
  rintro v L' ⟨b, rfl, rfl⟩
  refine ge ?_
  refine go ?_
  refine Cx.lp (α := {j : Nat // j ≤ N}) (fun j => [(6, .pointer (some ⟨b, 0, none⟩)), (7, .int .i64 j.1), (8, .int .i64 j.1)])
    (fun j => pt (some ⟨b, 0, none⟩) (ColO n.g (Q i).u n.e pb x (colIt x.pool x.w j.1 (m, s, ColS.init)).2.2) :: pt (some ⟨(Q i).u, 0, none⟩) (SupO n.mp pb x (colIt x.pool x.w j.1 (m, s, ColS.init)).2.1) :: pt (some ⟨n.mp, 0, none⟩) (MemO (colIt x.pool x.w j.1 (m, s, ColS.init)).1) ::
      pt (some ⟨n.a, 0, none⟩) (Blk 80 (gaV x n (some ⟨r, 0, none⟩) r2 k c c2)) :: pt (some ⟨r, 0, none⟩) (Row 39 1 k c (ptrs k fun i => (Q i).u)) :: pt (some ⟨n.g, 0, none⟩) (GaO n.mp n.e) :: pt (some ⟨n.e, 0, none⟩) (EpO n.mp x) :: pt (some ⟨pb, 0, none⟩) (SkO n.mp x.pool) :: G)
    (fun j => N - j.1) ⟨0, by omega⟩ (sub.cons rfl (sub.cons rfl (sub.cons rfl sub.nil))) ?_ ?_
  · dsimp only [colIt]
    exact ent
  rintro ⟨j, hj⟩
  dsimp only
  refine go ?_
  rw [decide_eq_true (show (j : Int) < 400 by omega)]
  refine go ?_
  have hsz := colIt_size (k := x.pool) (n := x.w) (m := m) (s := s) (c := ColS.init) j
  refine Sx.ca rfl (colStepC (b := b) (g := n.g) (u := (Q i).u) (e := n.e) (mp := n.mp) (pb := pb) (x := x) (m := (colIt x.pool x.w j (m, s, ColS.init)).1) (s := (colIt x.pool x.w j (m, s, ColS.init)).2.1) (c := (colIt x.pool x.w j (m, s, ColS.init)).2.2) hx (by rw [colIt_len]; exact hl) (colIt_at j) (by omega)) ?_
  rintro v L' ⟨rfl, rfl⟩
  by_cases hjn : j = N
  · subst hjn
    have e : colStep x.pool x.w (colIt x.pool x.w j (m, s, ColS.init)).1 (colIt x.pool x.w j (m, s, ColS.init)).2.1 (colIt x.pool x.w j (m, s, ColS.init)).2.2 = colIt x.pool x.w j (m, s, ColS.init) := by
      unfold colStep; rw [if_pos hd]
    rw [hd, e]
    refine go ?_
    refine Sx.ca rfl (colDone (b := b) (g := n.g) (u := (Q i).u) (e := n.e) (pb := pb) (x := x) (c := (colIt x.pool x.w j (m, s, ColS.init)).2.2) (colIt_at j)) ?_
    rintro v L' ⟨rfl, rfl⟩
    rw [hd]
    refine go ?_
    refine Sx.ca rfl (colHandDone (b := b) (g := n.g) (u := (Q i).u) (e := n.e) (pb := pb) (x := x) (c := (colIt x.pool x.w j (m, s, ColS.init)).2.2) hd hg) ?_
    rintro v L' ⟨rfl, rfl⟩
    refine go ?_
    refine Sx.ca rfl (colWon (b := b) (g := n.g) (u := (Q i).u) (e := n.e) (pb := pb) (x := x) (c := (colIt x.pool x.w j (m, s, ColS.init)).2.2) hd) ?_
    rintro v L' ⟨rfl, rfl⟩
    refine go ?_
    refine Kr.two (.inr rfl) rfl rfl (Ent.trans Ent.drop ?_) ⟨rfl, rfl⟩
    exact ent
  · rw [hnd j (by omega)]
    refine go ?_
    rw [w64 (n := (j : Int) + 1) (by omega) (by omega)]
    refine Klp.nm ⟨j + 1, by omega⟩ (sub.cons rfl (sub.cons rfl (sub.cons rfl sub.nil))) ?_ (by dsimp only; omega)
    dsimp only [colIt]
    exact ent
theorem poolM_at {x : Cn} (hx : x.ok) (a : Nat) (h0 : a ≠ 0) (hl : a < x.link) : (poolM x).at_ a = 0 := by
  have hlen := hx.len_le
  have hk := hx.pool (Nat.le_refl x.len) hlen
  unfold poolM
  rw [← rUp_fill (len := x.len) hk (zeroM_len x), rUp_at hk (zeroM_len x) x.pool.n (Nat.le_refl _), if_neg (by show ¬ 0 = a; omega), if_neg (by show ¬ (x.link ≤ a ∧ a < x.link + x.pool.n); omega)]
  unfold zeroM Mm.at_
  rw [List.getD_eq_getElem?_getD, List.getElem?_replicate]
  split <;> rfl
theorem gaFirst : Fx Tryz.prog 9 [] L (fun v L' => v = .bool true ∧ L = L') := by
  refine Fx.mk Tryz.func9 k9 (Nat.le_of_ble_eq_true rfl) ?_
  dsimp only [c9, envOf, Nat.reduceAdd]
  have hx : (⟨2, 2, 8, 1, 0, 1⟩ : Cn).ok := by unfold Cn.ok MayC; decide
  obtain ⟨x, hxe⟩ : ∃ x, x = (⟨2, 2, 8, 1, 0, 1⟩ : Cn) := ⟨_, rfl⟩
  have hw : x.w = 2 := by rw [hxe]
  have hc : x.c = 2 := by rw [hxe]
  have hca : x.ca = 0 := by rw [hxe]
  have hok : (poolM x).ok := fillM_ok (fun w hw => by simp only [zeroM] at hw; rw [List.eq_of_mem_replicate hw]; omega) (by show x.c ≤ 4096; omega)
  rw [← hxe] at hx
  have hlen := hx.len_le
  have hlk : 5 ≤ x.link := by unfold Cn.link; omega
  have hl3 : 3 ≤ x.len := by unfold Cn.len; omega
  have hp0 : Pool x.pool (poolM x) (iotaI x.c) := (fill_pool (hx.pool (Nat.le_refl _) hlen) (by rw [zeroM_len])).1
  have hr0 : SupS.ready (SupS.nil x.ca) (cutE (((poolM x).at_ 2 + 1) % 18446744073709551616)) = SupS.nil x.ca := by
    rw [poolM_at hx 2 (by omega) (by omega), hca]; rfl
  obtain ⟨N, m', c', hN, e, hd, hg, hwon, hcat, hnd, hl', hp', h2', _, _⟩ := col_free (x := x) (m := poolM x) (s := SupS.nil x.ca) (l := iotaI x.c) (xs := []) hx (poolM_len x) hok hp0
    (fun j hj hbh => by have := hbh.1; rw [poolM_at hx (3 + j) (by omega) (by omega)] at this; omega) (by rw [hr0]; rfl) List.nodup_nil (by simp) (by simp)
  have hN5 : N = 5 := by rw [hN, hw]; rfl
  subst hN5
  have gm := gaMade (L := L) hx
  refine go ?_
  refine Sx.ca (vs := [x.v]) (by rw [hxe]; rfl) gm ?_
  rintro v L' ⟨n, r, r2, c, c2, Q, rfl, rfl⟩
  refine go ?_
  have ec : Ent (gaF x n (some ⟨r, 0, none⟩) (some ⟨r2, 0, none⟩) x.w c c2 Q (fun _ => SupS.nil x.ca) (poolM x) (fillM x.spare (poolM x)) L)
      (pt (some ⟨n.a, 0, none⟩) (Blk 80 (gaV x n (some ⟨r, 0, none⟩) (some ⟨r2, 0, none⟩) x.w c c2)) :: pt (some ⟨r, 0, none⟩) (Row 39 1 x.w c (ptrs x.w fun i => (Q i).u)) :: pt (some ⟨n.g, 0, none⟩) (GaO n.mp n.e) :: pt (some ⟨n.e, 0, none⟩) (EpO n.mp x) ::
        pt (some ⟨n.mp, 0, none⟩) (MemO (poolM x)) :: pt (some ⟨(Q 0).u, 0, none⟩) (SupO n.mp (Q 0).pb x (SupS.nil x.ca)) :: pt (some ⟨(Q 0).pb, 0, none⟩) (SkO n.mp x.pool) :: pt (some ⟨n.pb, 0, none⟩) (SkO n.mp x.pool) :: pt (some ⟨n.te, 0, none⟩) (EpO n.mp x) :: L) := by
    dsimp only [gaF]
    refine Ent.trans (Ent.ith 0 (by omega)) ?_
    simp only [whoL, List.cons_append, List.nil_append]
    exact entm
  refine Sx.ent ec ?_
  have hcol := gaCollects (x := x) (n := n) (r := r) (r2 := some ⟨r2, 0, none⟩) (k := x.w) (c := c) (c2 := c2) (pb := (Q 0).pb) (Q := Q) (s := SupS.nil x.ca) (m := poolM x) (i := 0) (G := pt (some ⟨n.pb, 0, none⟩) (SkO n.mp x.pool) :: pt (some ⟨n.te, 0, none⟩) (EpO n.mp x) :: L) 5 (by omega) (by omega) (by omega) hx (by rw [poolM_len]; exact Nat.le_refl _) (by rw [hca]; decide) hnd (by rw [e]; exact hd) (by rw [e]; exact hg)
  rw [e] at hcol
  refine Sx.ca rfl hcol ?_
  rintro v L' ⟨rfl, rfl⟩
  dsimp only
  rw [hwon]
  refine go ?_
  refine Sx.ca rfl (epochNow (e := n.te) (mp := n.mp) (x := x) (m := m') (by omega)) ?_
  rintro v L' ⟨rfl, rfl⟩
  rw [h2', poolM_at hx 2 (by omega) (by omega), show cutE ((0 + 1) % 18446744073709551616) = 1 from rfl]
  refine go ?_
  refine Sx.ca rfl (stackList (sb := n.pb) (mp := n.mp) (k := x.pool) (m := m') (hx.pool (by omega) (by omega))) ?_
  rintro v L' ⟨ro, co, rfl, rfl⟩
  rw [list_pool hp', List.nil_append, iotaI_len, hc]
  refine go ?_
  refine Kr.one (.inr rfl) rfl ?_ ⟨rfl, rfl⟩
  exact entm
end
end Go.Proofs.YtnbkjcmmjgkdaaaGreat

/-
  GatherNone's walk.
-/
set_option linter.unusedVariables false
set_option linter.unusedSimpArgs false
namespace Go.Proofs.YtnbkjcmmjgkdaaaGreat
open Go
attribute [local irreducible] Sx Cx Rx Fx Krg Ksq Kbl Klp Kr
section
variable {L F G : St}
set_option maxHeartbeats 2000000 in
theorem gatherNone (n less : Int) : Fx Tryz.prog 3 [.int .i64 n, .int .i64 less] L (fun v L' => v = .bool true ∧ Ent L' L) := by
  have hl1 := Int.emod_nonneg less (show (1000 : Int) ≠ 0 by omega)
  have hl2 := Int.emod_lt_of_pos less (show (0 : Int) < 1000 by omega)
  refine Fx.mk Tryz.func3 k3 (Nat.le_of_ble_eq_true rfl) ?_
  dsimp only [c3, envOf, Nat.reduceAdd]
  refine go ?_
  refine Sx.ca rfl gaFirst ?_
  rintro v L' ⟨rfl, rfl⟩
  refine go ?_
  refine Sx.ca rfl (config_ n) ?_
  rintro v L' ⟨⟨w, c, wd, sl, ca, ba, rfl, hsm⟩, rfl⟩
  obtain ⟨x, hxv, hx, hca, hc8, hba, hw4⟩ := small_cfg hsm
  rw [hxv]
  clear hxv hsm
  clear w c wd sl ca ba
  obtain ⟨b1, b2, b3, b4, b5, b6, b7⟩ := hx.b
  have hlen := hx.len_le
  have hl3 : 15 ≤ x.len := by
    have := Nat.mul_le_mul b7.2.1 b7.2.2.1
    unfold Cn.len; omega
  refine Sx.al fun g => ?_
  refine Sx.st (b := g) rfl rfl rfl rfl rfl rfl ?_
  dsimp only [lay]
  refine go ?_
  refine Sx.ca rfl (layLen (x.w : Int) x.c x.wd x.sl x.ca x.ba hx) ?_
  rintro v L' ⟨rfl, rfl⟩
  rw [x.lenC]
  refine go ?_
  rw [w64 (n := (x.len : Int) - 1) (by omega) (by omega)]
  refine Sx.ca rfl (number less ((x.len : Int) - 1) (by omega) (by omega)) ?_
  rintro v L' ⟨rfl, rfl⟩
  have hq1 := Int.emod_nonneg less (show (x.len : Int) - 1 ≠ 0 by omega)
  have hq2 := Int.emod_lt_of_pos less (show (0 : Int) < (x.len : Int) - 1 by omega)
  refine go ?_
  rw [w64 (n := 1 + less % ((x.len : Int) - 1)) (by omega) (by omega)]
  obtain ⟨sz, hsz⟩ : ∃ sz : Nat, 1 + less % ((x.len : Int) - 1) = sz := ⟨(1 + less % ((x.len : Int) - 1)).toNat, by omega⟩
  rw [hsz]
  refine Sx.ca rfl (cellsNew sz (by omega) (by omega)) ?_
  rintro v L' ⟨ms, rfl, rfl⟩
  refine go ?_
  refine Sx.ca rfl (layLen (x.w : Int) x.c x.wd x.sl x.ca x.ba hx) ?_
  rintro v L' ⟨rfl, rfl⟩
  rw [x.lenC]
  refine go ?_
  refine Sx.ca rfl (cellsNew x.len (by omega) hlen) ?_
  rintro v L' ⟨mw, rfl, rfl⟩
  refine go ?_
  refine Sx.ca rfl (gatherNewSmall (mp := ms) (m := ⟨List.replicate sz 0, 0⟩) hx (by simp; omega)) ?_
  rintro v L' ⟨rfl, rfl⟩
  refine go ?_
  refine Sx.al fun gb => ?_
  refine Sx.st (b := gb) rfl rfl rfl rfl rfl rfl ?_
  dsimp only [lay]
  refine go ?_
  refine Sx.ca rfl (number less 1000 (by omega) (by omega)) ?_
  rintro v L' ⟨rfl, rfl⟩
  refine go ?_
  rw [w64 (n := 0 - less % 1000) (by omega) (by omega)]
  refine Sx.ca rfl (gatherNewBad (mp := mw) (x.w : Int) x.c x.wd (0 - less % 1000) x.ca x.ba (fun h => by have := h.2.2.2.2.1; omega)) ?_
  rintro v L' ⟨rfl, rfl⟩
  refine go ?_
  refine Sx.ca rfl (gatherNew (mp := mw) (m := ⟨List.replicate x.len 0, 0⟩) hx (by simp)) ?_
  rintro v L' ⟨gg, ge, rfl, rfl⟩
  refine go ?_
  refine Sx.ca rfl (cellsCount (b := mw) (m := ⟨List.replicate x.len 0, 0⟩) (by simp)) ?_
  rintro v L' ⟨rfl, rfl⟩
  refine go ?_
  refine Kr.one (.inr rfl) rfl (Ent.refl _) ⟨rfl, ?_⟩
  exact ent
end
end Go.Proofs.YtnbkjcmmjgkdaaaGreat
