/-
  Stacks: a Push, one access at a time.
-/
import Derived.Test.YtnbkjcmmjgkdaaaGreatMaH
set_option linter.unusedVariables false
set_option linter.unusedSimpArgs false
namespace Go.Proofs.YtnbkjcmmjgkdaaaGreat
open Go
attribute [local irreducible] Sx Cx Rx Fx Krg Ksq Kbl Klp Kr

theorem itI_some {l : List Int} {i : Nat} (h : i < l.length) : (ints l)[i]? = some (.int .i64 (itI l i)) := by simp [ints, itI, h]
section
variable {L F G : St}
theorem Rd.pre {a : Option Addr} {n m : Nat} {vs : List Value} (h : Rd L 1 a n vs) (hm : m ≤ n) : Rd L 1 a m (vs.take m) := by
  obtain ⟨h1, h2⟩ := h
  refine ⟨by rw [List.length_take]; omega, ?_⟩
  rcases h2 with h0 | ⟨b, o, rfl, hh⟩
  · left; omega
  · right
    have := hh.sub (i := 0) (n := m)
    exact ⟨b, o, rfl, by simpa using this⟩
theorem Rd.get1 {a : Option Addr} {n i : Nat} {vs : List Value} {v : Value} (h : Rd L 1 a n vs) (hv : vs[i]? = some v) : ∃ b o, a = some ⟨b, o, none⟩ ∧ Has L b (o + i) [v] := by
  have hlt := (List.getElem?_eq_some_iff.1 hv).1
  obtain ⟨h1, h0 | ⟨b, o, rfl, h2⟩⟩ := h
  · omega
  · exact ⟨b, o, rfl, (h2.sub (i := i) (n := 1)).one (take_one hv)⟩
theorem sliceIndex {a : Option Addr} {n c : Nat} {xs : List Int} (x : Int) (hr : Rd L 1 a n (ints xs)) (hn : n ≤ 1000000000) :
    Fx Tryz.prog 192 [.slice a n c, .int .i64 x] L (fun v L' => (∃ i : Int, v = .int .i64 i ∧ (0 ≤ i ↔ x ∈ xs)) ∧ L = L') := by
  have hl : xs.length = n := by have := hr.1; simpa [ints] using this
  refine Fx.mk Tryz.func192 k192 (Nat.le_of_ble_eq_true rfl) ?_
  dsimp only [c192, envOf, Nat.reduceAdd]
  repeat' (first|refine Zo0 rfl ?_|refine Zo1 ?_|refine Zo2 ?_|refine Zo3 ?_|refine Zo4 ?_|refine Zo5 ?_|refine Zo6 ?_|refine Zo7 ?_|refine Zo8 rfl ?_|refine Zo9 rfl ?_|refine Zoa ?_|refine Zob ?_|refine Zoc ?_|refine Zod ?_|refine Zoe ?_|refine Zof ?_|refine Zog ?_|refine Zoh ?_|refine Zoi rfl ?_|refine Zoj rfl ?_|refine Zok rfl ?_|refine Zol rfl ?_|refine Zom rfl (by rfl) ?_|refine Zon rfl rfl ?_|refine Zoo rfl rfl rfl rfl (by rfl) (by rfl) ?_|refine Zop rfl trivial ?_|refine Zoq rfl rfl rfl ?_)
  refine Cx.lp (α := {i : Nat // i ≤ n ∧ x ∉ xs.take i}) (fun i => [(0, .slice a n c), (1, .int .i64 x), (7, .int .i64 n), (8, .int .i64 i.1)]) (fun _ => L) (fun i => n - i.1) ⟨0, by omega, by simp⟩ (sub.cons rfl (sub.cons rfl (sub.cons rfl (sub.cons rfl sub.nil)))) (Ent.refl _) ?_
  rintro ⟨i, hi, hni⟩
  dsimp only
  repeat' (first|refine Zo0 rfl ?_|refine Zo1 ?_|refine Zo2 ?_|refine Zo3 ?_|refine Zo4 ?_|refine Zo5 ?_|refine Zo6 ?_|refine Zo7 ?_|refine Zo8 rfl ?_|refine Zo9 rfl ?_|refine Zoa ?_|refine Zob ?_|refine Zoc ?_|refine Zod ?_|refine Zoe ?_|refine Zof ?_|refine Zog ?_|refine Zoh ?_|refine Zoi rfl ?_|refine Zoj rfl ?_|refine Zok rfl ?_|refine Zol rfl ?_|refine Zom rfl (by rfl) ?_|refine Zon rfl rfl ?_|refine Zoo rfl rfl rfl rfl (by rfl) (by rfl) ?_|refine Zop rfl trivial ?_|refine Zoq rfl rfl rfl ?_)
  refine Cx.ifp rfl (fun h => ?_) (fun h => ?_)
  · have hv := itI_some (l := xs) (i := i) (by omega)
    obtain ⟨b, o, rfl, hh⟩ := hr.get1 hv
    repeat' (first|refine Zo0 rfl ?_|refine Zo1 ?_|refine Zo2 ?_|refine Zo3 ?_|refine Zo4 ?_|refine Zo5 ?_|refine Zo6 ?_|refine Zo7 ?_|refine Zo8 rfl ?_|refine Zo9 rfl ?_|refine Zoa ?_|refine Zob ?_|refine Zoc ?_|refine Zod ?_|refine Zoe ?_|refine Zof ?_|refine Zog ?_|refine Zoh ?_|refine Zoi rfl ?_|refine Zoj rfl ?_|refine Zok rfl ?_|refine Zol rfl ?_|refine Zom rfl (by rfl) ?_|refine Zon rfl rfl ?_|refine Zoo rfl rfl rfl rfl (by rfl) (by rfl) ?_|refine Zop rfl trivial ?_|refine Zoq rfl rfl rfl ?_)
    refine Sx.pv rfl ⟨by omega, by omega⟩ ?_
    refine Sx.ld rfl (by simpa using hh) rfl ?_
    repeat' (first|refine Zo0 rfl ?_|refine Zo1 ?_|refine Zo2 ?_|refine Zo3 ?_|refine Zo4 ?_|refine Zo5 ?_|refine Zo6 ?_|refine Zo7 ?_|refine Zo8 rfl ?_|refine Zo9 rfl ?_|refine Zoa ?_|refine Zob ?_|refine Zoc ?_|refine Zod ?_|refine Zoe ?_|refine Zof ?_|refine Zog ?_|refine Zoh ?_|refine Zoi rfl ?_|refine Zoj rfl ?_|refine Zok rfl ?_|refine Zol rfl ?_|refine Zom rfl (by rfl) ?_|refine Zon rfl rfl ?_|refine Zoo rfl rfl rfl rfl (by rfl) (by rfl) ?_|refine Zop rfl trivial ?_|refine Zoq rfl rfl rfl ?_)
    refine Cx.ifp rfl (fun e => ?_) (fun e => ?_)
    · repeat' (first|refine Zo0 rfl ?_|refine Zo1 ?_|refine Zo2 ?_|refine Zo3 ?_|refine Zo4 ?_|refine Zo5 ?_|refine Zo6 ?_|refine Zo7 ?_|refine Zo8 rfl ?_|refine Zo9 rfl ?_|refine Zoa ?_|refine Zob ?_|refine Zoc ?_|refine Zod ?_|refine Zoe ?_|refine Zof ?_|refine Zog ?_|refine Zoh ?_|refine Zoi rfl ?_|refine Zoj rfl ?_|refine Zok rfl ?_|refine Zol rfl ?_|refine Zom rfl (by rfl) ?_|refine Zon rfl rfl ?_|refine Zoo rfl rfl rfl rfl (by rfl) (by rfl) ?_|refine Zop rfl trivial ?_|refine Zoq rfl rfl rfl ?_)
      refine Kr.one (.inr rfl) rfl (Ent.refl _) ⟨⟨i, rfl, fun _ => ?_, fun _ => by omega⟩, rfl⟩
      rw [e]
      exact itI_mem (by omega)
    · repeat' (first|refine Zo0 rfl ?_|refine Zo1 ?_|refine Zo2 ?_|refine Zo3 ?_|refine Zo4 ?_|refine Zo5 ?_|refine Zo6 ?_|refine Zo7 ?_|refine Zo8 rfl ?_|refine Zo9 rfl ?_|refine Zoa ?_|refine Zob ?_|refine Zoc ?_|refine Zod ?_|refine Zoe ?_|refine Zof ?_|refine Zog ?_|refine Zoh ?_|refine Zoi rfl ?_|refine Zoj rfl ?_|refine Zok rfl ?_|refine Zol rfl ?_|refine Zom rfl (by rfl) ?_|refine Zon rfl rfl ?_|refine Zoo rfl rfl rfl rfl (by rfl) (by rfl) ?_|refine Zop rfl trivial ?_|refine Zoq rfl rfl rfl ?_)
      rw [w64 (by omega) (by omega)]
      refine Klp.nm ⟨i + 1, by omega, ?_⟩ (sub.cons rfl (sub.cons rfl (sub.cons rfl (sub.cons rfl sub.nil)))) (Ent.refl _) (by dsimp only; omega)
      rw [List.take_succ_eq_append_getElem (by omega), List.mem_append]
      rintro (h1 | h1)
      · exact hni h1
      · rw [List.mem_singleton] at h1
        exact e (h1.trans (by simp [itI, show i < xs.length by omega]))
  · obtain rfl : i = n := by omega
    rw [← hl, List.take_length] at hni
    repeat' (first|refine Zo0 rfl ?_|refine Zo1 ?_|refine Zo2 ?_|refine Zo3 ?_|refine Zo4 ?_|refine Zo5 ?_|refine Zo6 ?_|refine Zo7 ?_|refine Zo8 rfl ?_|refine Zo9 rfl ?_|refine Zoa ?_|refine Zob ?_|refine Zoc ?_|refine Zod ?_|refine Zoe ?_|refine Zof ?_|refine Zog ?_|refine Zoh ?_|refine Zoi rfl ?_|refine Zoj rfl ?_|refine Zok rfl ?_|refine Zol rfl ?_|refine Zom rfl (by rfl) ?_|refine Zon rfl rfl ?_|refine Zoo rfl rfl rfl rfl (by rfl) (by rfl) ?_|refine Zop rfl trivial ?_|refine Zoq rfl rfl rfl ?_)
    exact Kr.one (.inr rfl) rfl (Ent.refl _) ⟨⟨-1, rfl, by simp [hni]⟩, rfl⟩
theorem sliceContains {a : Option Addr} {n c : Nat} {xs : List Int} (x : Int) (hr : Rd L 1 a n (ints xs)) (hn : n ≤ 1000000000) :
    Fx Tryz.prog 170 [.slice a n c, .int .i64 x] L (fun v L' => v = .bool (decide (x ∈ xs)) ∧ L = L') := by
  refine Fx.mk Tryz.func170 k170 (Nat.le_of_ble_eq_true rfl) ?_
  dsimp only [c170, envOf, Nat.reduceAdd]
  repeat' (first|refine Zo0 rfl ?_|refine Zo1 ?_|refine Zo2 ?_|refine Zo3 ?_|refine Zo4 ?_|refine Zo5 ?_|refine Zo6 ?_|refine Zo7 ?_|refine Zo8 rfl ?_|refine Zo9 rfl ?_|refine Zoa ?_|refine Zob ?_|refine Zoc ?_|refine Zod ?_|refine Zoe ?_|refine Zof ?_|refine Zog ?_|refine Zoh ?_|refine Zoi rfl ?_|refine Zoj rfl ?_|refine Zok rfl ?_|refine Zol rfl ?_|refine Zom rfl (by rfl) ?_|refine Zon rfl rfl ?_|refine Zoo rfl rfl rfl rfl (by rfl) (by rfl) ?_|refine Zop rfl trivial ?_|refine Zoq rfl rfl rfl ?_)
  refine Sx.ca rfl (sliceIndex (a := a) (n := n) (c := c) (xs := xs) x hr hn) ?_
  rintro v L' ⟨⟨i, rfl, hi⟩, rfl⟩
  repeat' (first|refine Zo0 rfl ?_|refine Zo1 ?_|refine Zo2 ?_|refine Zo3 ?_|refine Zo4 ?_|refine Zo5 ?_|refine Zo6 ?_|refine Zo7 ?_|refine Zo8 rfl ?_|refine Zo9 rfl ?_|refine Zoa ?_|refine Zob ?_|refine Zoc ?_|refine Zod ?_|refine Zoe ?_|refine Zof ?_|refine Zog ?_|refine Zoh ?_|refine Zoi rfl ?_|refine Zoj rfl ?_|refine Zok rfl ?_|refine Zol rfl ?_|refine Zom rfl (by rfl) ?_|refine Zon rfl rfl ?_|refine Zoo rfl rfl rfl rfl (by rfl) (by rfl) ?_|refine Zop rfl trivial ?_|refine Zoq rfl rfl rfl ?_)
  exact Kr.one (.inr rfl) rfl (Ent.refl _) ⟨congrArg Value.bool (decide_eq_decide.2 hi), rfl⟩
/-- A Push. -/
def pushI (p : PushS) : Nat := min p.at_ (p.l.length - 1)
def pushFn (p : PushS) : FuncId := if p.at_ + 1 < p.l.length then 172 else if p.at_ + 1 = p.l.length then 171 else if p.at_ = p.l.length then 193 else 201
def pushNx (a : Option Addr) (p : PushS) : Value := bif p.done then .nilFunc else .func (.func (pushFn p)) #[.pointer a] #[]
def pushL (T : TypeId) (sb : Nat) (k : Sk) (p : PushS) (a : Option Addr) (y : (Option Addr × Nat) × Int) : St :=
  [lift (p.ok k), pt a (Blk T [pushNx a p, .nilFunc, .nilFunc, .nilFunc, .int .i64 y.2, .pointer (some ⟨sb, 0, none⟩), .slice y.1.1 p.l.length y.1.2, .int .i64 (pushI p : Nat), wd p.was]), pt y.1.1 (Row 3 1 p.l.length y.1.2 (ints p.l))]
def PushT (T : TypeId) (sb : Nat) (k : Sk) (p : PushS) (a : Option Addr) : As := exs (pushL T sb k p a)
abbrev PushO := PushT 239
theorem PushO.close {T : TypeId} {sb : Nat} {k : Sk} {a r : Option Addr} {c n : Nat} {cnt : Int} {v0 v1 v2 : Value} {w : List Value} {F G : St} (p : PushS) (hp : p.ok k)
    [t : Take L a (Blk T [v0, .nilFunc, .nilFunc, .nilFunc, .int .i64 cnt, .pointer (some ⟨sb, 0, none⟩), .slice r n c, v1, v2]) F] [u : Take F r (Row 3 1 n c w) G]
    (h0 : v0 = pushNx a p) (h1 : v1 = .int .i64 (pushI p : Nat)) (h2 : v2 = wd p.was) (hn : n = p.l.length) (hw : w = ints p.l) : Ent L (pt a (PushT T sb k p) :: G) := by
  subst h0; subst h1; subst h2; subst hn; subst hw
  refine Ent.trans (Ent.take1 (t := t) (Ent.of u.out)) ?_
  refine Ent.trans (Ent.lift hp (Ent.refl _)) ?_
  exact Ent.close (f := pushL T sb k p a) rfl ((r, c), cnt)
set_option maxHeartbeats 2000000 in
theorem stackPush {sb mp : Nat} {k : Sk} {a : Option Addr} {n c : Nat} {l : List Int} (hr : Rd L 1 a n (ints l)) (hc : n ≤ c) (hn : n ≤ 1000000000) [s : Take L (some ⟨sb, 0, none⟩) (SkO mp k) F] :
    Fx Tryz.prog 135 [.pointer (some ⟨sb, 0, none⟩), .slice a n c] L (fun v L' =>
      (¬ (l.Nodup ∧ ∀ x ∈ l, 0 ≤ x ∧ x < k.n) ∧ v = .tuple #[.pointer none, .int .i64 1] ∧ L = L') ∨
      ((l.Nodup ∧ ∀ x ∈ l, 0 ≤ x ∧ x < k.n) ∧ ∃ g, v = .tuple #[.pointer (some ⟨g, 0, none⟩), .int .i64 0] ∧ L' = pt (some ⟨g, 0, none⟩) (PushO sb k (PushS.init l)) :: L)) := by
  have hl : l.length = n := by have := hr.1; simpa [ints] using this
  refine Fx.mk Tryz.func135 k135 (Nat.le_of_ble_eq_true rfl) ?_
  dsimp only [c135, envOf, Nat.reduceAdd]
  repeat' (first|refine Zo0 rfl ?_|refine Zo1 ?_|refine Zo2 ?_|refine Zo3 ?_|refine Zo4 ?_|refine Zo5 ?_|refine Zo6 ?_|refine Zo7 ?_|refine Zo8 rfl ?_|refine Zo9 rfl ?_|refine Zoa ?_|refine Zob ?_|refine Zoc ?_|refine Zod ?_|refine Zoe ?_|refine Zof ?_|refine Zog ?_|refine Zoh ?_|refine Zoi rfl ?_|refine Zoj rfl ?_|refine Zok rfl ?_|refine Zol rfl ?_|refine Zom rfl (by rfl) ?_|refine Zon rfl rfl ?_|refine Zoo rfl rfl rfl rfl (by rfl) (by rfl) ?_|refine Zop rfl trivial ?_|refine Zoq rfl rfl rfl ?_)
  refine Cx.lp (α := {i : Nat // i ≤ n ∧ (l.take i).Nodup ∧ ∀ x ∈ l.take i, 0 ≤ x ∧ x < k.n}) (fun i => [(0, .pointer (some ⟨sb, 0, none⟩)), (1, .slice a n c), (9, .slice a n c), (10, .int .i64 n), (11, .int .i64 i.1)]) (fun _ => L) (fun i => n - i.1)
    ⟨0, by omega, by simp, by simp⟩ (sub.cons rfl (sub.cons rfl (sub.cons rfl (sub.cons rfl (sub.cons rfl sub.nil))))) (Ent.refl _) ?_
  rintro ⟨i, hi, hnd, hrg⟩
  dsimp only
  repeat' (first|refine Zo0 rfl ?_|refine Zo1 ?_|refine Zo2 ?_|refine Zo3 ?_|refine Zo4 ?_|refine Zo5 ?_|refine Zo6 ?_|refine Zo7 ?_|refine Zo8 rfl ?_|refine Zo9 rfl ?_|refine Zoa ?_|refine Zob ?_|refine Zoc ?_|refine Zod ?_|refine Zoe ?_|refine Zof ?_|refine Zog ?_|refine Zoh ?_|refine Zoi rfl ?_|refine Zoj rfl ?_|refine Zok rfl ?_|refine Zol rfl ?_|refine Zom rfl (by rfl) ?_|refine Zon rfl rfl ?_|refine Zoo rfl rfl rfl rfl (by rfl) (by rfl) ?_|refine Zop rfl trivial ?_|refine Zoq rfl rfl rfl ?_)
  refine Cx.ifp rfl (fun h => ?_) (fun h => ?_)
  · have hv := itI_some (l := l) (i := i) (by omega)
    obtain ⟨b, o, rfl, hh⟩ := hr.get1 hv
    have hmem := itI_mem (l := l) (i := i) (by omega)
    have hbad : ∀ (hb : ¬ ((0 ≤ itI l i ∧ itI l i < k.n) ∧ itI l i ∉ l.take i)), ¬ (l.Nodup ∧ ∀ x ∈ l, 0 ≤ x ∧ x < k.n) := by
      rintro hb ⟨g1, g2⟩
      refine hb ⟨g2 _ hmem, fun hin => ?_⟩
      obtain ⟨j, hj, e⟩ := List.getElem_of_mem hin
      have hj' : j < i := by rw [List.length_take] at hj; omega
      rw [List.getElem_take] at e
      have e2 : itI l i = l[i]'(by omega) := by simp [itI, show i < l.length by omega]
      have := (List.getElem_inj g1).1 (e.trans e2)
      omega
    repeat' (first|refine Zo0 rfl ?_|refine Zo1 ?_|refine Zo2 ?_|refine Zo3 ?_|refine Zo4 ?_|refine Zo5 ?_|refine Zo6 ?_|refine Zo7 ?_|refine Zo8 rfl ?_|refine Zo9 rfl ?_|refine Zoa ?_|refine Zob ?_|refine Zoc ?_|refine Zod ?_|refine Zoe ?_|refine Zof ?_|refine Zog ?_|refine Zoh ?_|refine Zoi rfl ?_|refine Zoj rfl ?_|refine Zok rfl ?_|refine Zol rfl ?_|refine Zom rfl (by rfl) ?_|refine Zon rfl rfl ?_|refine Zoo rfl rfl rfl rfl (by rfl) (by rfl) ?_|refine Zop rfl trivial ?_|refine Zoq rfl rfl rfl ?_)
    refine Sx.pv rfl ⟨by omega, by omega⟩ ?_
    refine Sx.ld rfl (by simpa using hh) rfl ?_
    repeat' (first|refine Zo0 rfl ?_|refine Zo1 ?_|refine Zo2 ?_|refine Zo3 ?_|refine Zo4 ?_|refine Zo5 ?_|refine Zo6 ?_|refine Zo7 ?_|refine Zo8 rfl ?_|refine Zo9 rfl ?_|refine Zoa ?_|refine Zob ?_|refine Zoc ?_|refine Zod ?_|refine Zoe ?_|refine Zof ?_|refine Zog ?_|refine Zoh ?_|refine Zoi rfl ?_|refine Zoj rfl ?_|refine Zok rfl ?_|refine Zol rfl ?_|refine Zom rfl (by rfl) ?_|refine Zon rfl rfl ?_|refine Zoo rfl rfl rfl rfl (by rfl) (by rfl) ?_|refine Zop rfl trivial ?_|refine Zoq rfl rfl rfl ?_)
    refine Sx.ifp rfl (fun h1 => ?_) (fun h1 => ?_)
    · repeat' (first|refine Zo0 rfl ?_|refine Zo1 ?_|refine Zo2 ?_|refine Zo3 ?_|refine Zo4 ?_|refine Zo5 ?_|refine Zo6 ?_|refine Zo7 ?_|refine Zo8 rfl ?_|refine Zo9 rfl ?_|refine Zoa ?_|refine Zob ?_|refine Zoc ?_|refine Zod ?_|refine Zoe ?_|refine Zof ?_|refine Zog ?_|refine Zoh ?_|refine Zoi rfl ?_|refine Zoj rfl ?_|refine Zok rfl ?_|refine Zol rfl ?_|refine Zom rfl (by rfl) ?_|refine Zon rfl rfl ?_|refine Zoo rfl rfl rfl rfl (by rfl) (by rfl) ?_|refine Zop rfl trivial ?_|refine Zoq rfl rfl rfl ?_)
      exact Kr.two (.inr rfl) rfl rfl (Ent.refl _) (.inl ⟨hbad fun hg => by omega, rfl, rfl⟩)
    · repeat' (first|refine Zo0 rfl ?_|refine Zo1 ?_|refine Zo2 ?_|refine Zo3 ?_|refine Zo4 ?_|refine Zo5 ?_|refine Zo6 ?_|refine Zo7 ?_|refine Zo8 rfl ?_|refine Zo9 rfl ?_|refine Zoa ?_|refine Zob ?_|refine Zoc ?_|refine Zod ?_|refine Zoe ?_|refine Zof ?_|refine Zog ?_|refine Zoh ?_|refine Zoi rfl ?_|refine Zoj rfl ?_|refine Zok rfl ?_|refine Zol rfl ?_|refine Zom rfl (by rfl) ?_|refine Zon rfl rfl ?_|refine Zoo rfl rfl rfl rfl (by rfl) (by rfl) ?_|refine Zop rfl trivial ?_|refine Zoq rfl rfl rfl ?_)
      refine Sx.ifp rfl (fun h2 => ?_) (fun h2 => ?_)
      · repeat' (first|refine Zo0 rfl ?_|refine Zo1 ?_|refine Zo2 ?_|refine Zo3 ?_|refine Zo4 ?_|refine Zo5 ?_|refine Zo6 ?_|refine Zo7 ?_|refine Zo8 rfl ?_|refine Zo9 rfl ?_|refine Zoa ?_|refine Zob ?_|refine Zoc ?_|refine Zod ?_|refine Zoe ?_|refine Zof ?_|refine Zog ?_|refine Zoh ?_|refine Zoi rfl ?_|refine Zoj rfl ?_|refine Zok rfl ?_|refine Zol rfl ?_|refine Zom rfl (by rfl) ?_|refine Zon rfl rfl ?_|refine Zoo rfl rfl rfl rfl (by rfl) (by rfl) ?_|refine Zop rfl trivial ?_|refine Zoq rfl rfl rfl ?_)
        exact Kr.two (.inr rfl) rfl rfl (Ent.refl _) (.inl ⟨hbad fun hg => by omega, rfl, rfl⟩)
      · repeat' (first|refine Zo0 rfl ?_|refine Zo1 ?_|refine Zo2 ?_|refine Zo3 ?_|refine Zo4 ?_|refine Zo5 ?_|refine Zo6 ?_|refine Zo7 ?_|refine Zo8 rfl ?_|refine Zo9 rfl ?_|refine Zoa ?_|refine Zob ?_|refine Zoc ?_|refine Zod ?_|refine Zoe ?_|refine Zof ?_|refine Zog ?_|refine Zoh ?_|refine Zoi rfl ?_|refine Zoj rfl ?_|refine Zok rfl ?_|refine Zol rfl ?_|refine Zom rfl (by rfl) ?_|refine Zon rfl rfl ?_|refine Zoo rfl rfl rfl rfl (by rfl) (by rfl) ?_|refine Zop rfl trivial ?_|refine Zoq rfl rfl rfl ?_)
        refine Sx.pv rfl ⟨by omega, by omega⟩ ?_
        repeat' (first|refine Zo0 rfl ?_|refine Zo1 ?_|refine Zo2 ?_|refine Zo3 ?_|refine Zo4 ?_|refine Zo5 ?_|refine Zo6 ?_|refine Zo7 ?_|refine Zo8 rfl ?_|refine Zo9 rfl ?_|refine Zoa ?_|refine Zob ?_|refine Zoc ?_|refine Zod ?_|refine Zoe ?_|refine Zof ?_|refine Zog ?_|refine Zoh ?_|refine Zoi rfl ?_|refine Zoj rfl ?_|refine Zok rfl ?_|refine Zol rfl ?_|refine Zom rfl (by rfl) ?_|refine Zon rfl rfl ?_|refine Zoo rfl rfl rfl rfl (by rfl) (by rfl) ?_|refine Zop rfl trivial ?_|refine Zoq rfl rfl rfl ?_)
        have hpre : Rd L 1 (some ⟨b, o, none⟩) (i : Int).toNat (ints (l.take i)) := by
          have := hr.pre (m := i) (by omega)
          rw [show (i : Int).toNat = i by omega]
          rwa [show (ints l).take i = ints (l.take i) by simp [ints]] at this
        refine Sx.ca rfl (sliceContains (xs := l.take i) (itI l i) hpre (by omega)) ?_
        rintro v L' ⟨rfl, rfl⟩
        repeat' (first|refine Zo0 rfl ?_|refine Zo1 ?_|refine Zo2 ?_|refine Zo3 ?_|refine Zo4 ?_|refine Zo5 ?_|refine Zo6 ?_|refine Zo7 ?_|refine Zo8 rfl ?_|refine Zo9 rfl ?_|refine Zoa ?_|refine Zob ?_|refine Zoc ?_|refine Zod ?_|refine Zoe ?_|refine Zof ?_|refine Zog ?_|refine Zoh ?_|refine Zoi rfl ?_|refine Zoj rfl ?_|refine Zok rfl ?_|refine Zol rfl ?_|refine Zom rfl (by rfl) ?_|refine Zon rfl rfl ?_|refine Zoo rfl rfl rfl rfl (by rfl) (by rfl) ?_|refine Zop rfl trivial ?_|refine Zoq rfl rfl rfl ?_)
        refine Cx.ifp rfl (fun h3 => ?_) (fun h3 => ?_)
        · repeat' (first|refine Zo0 rfl ?_|refine Zo1 ?_|refine Zo2 ?_|refine Zo3 ?_|refine Zo4 ?_|refine Zo5 ?_|refine Zo6 ?_|refine Zo7 ?_|refine Zo8 rfl ?_|refine Zo9 rfl ?_|refine Zoa ?_|refine Zob ?_|refine Zoc ?_|refine Zod ?_|refine Zoe ?_|refine Zof ?_|refine Zog ?_|refine Zoh ?_|refine Zoi rfl ?_|refine Zoj rfl ?_|refine Zok rfl ?_|refine Zol rfl ?_|refine Zom rfl (by rfl) ?_|refine Zon rfl rfl ?_|refine Zoo rfl rfl rfl rfl (by rfl) (by rfl) ?_|refine Zop rfl trivial ?_|refine Zoq rfl rfl rfl ?_)
          exact Kr.two (.inr rfl) rfl rfl (Ent.refl _) (.inl ⟨hbad fun hg => hg.2 h3, rfl, rfl⟩)
        · repeat' (first|refine Zo0 rfl ?_|refine Zo1 ?_|refine Zo2 ?_|refine Zo3 ?_|refine Zo4 ?_|refine Zo5 ?_|refine Zo6 ?_|refine Zo7 ?_|refine Zo8 rfl ?_|refine Zo9 rfl ?_|refine Zoa ?_|refine Zob ?_|refine Zoc ?_|refine Zod ?_|refine Zoe ?_|refine Zof ?_|refine Zog ?_|refine Zoh ?_|refine Zoi rfl ?_|refine Zoj rfl ?_|refine Zok rfl ?_|refine Zol rfl ?_|refine Zom rfl (by rfl) ?_|refine Zon rfl rfl ?_|refine Zoo rfl rfl rfl rfl (by rfl) (by rfl) ?_|refine Zop rfl trivial ?_|refine Zoq rfl rfl rfl ?_)
          rw [w64 (by omega) (by omega)]
          have ht : l.take (i + 1) = l.take i ++ [itI l i] := by
            rw [List.take_succ_eq_append_getElem (by omega)]; simp [itI, show i < l.length by omega]
          refine Klp.nm ⟨i + 1, by omega, ?_, ?_⟩ (sub.cons rfl (sub.cons rfl (sub.cons rfl (sub.cons rfl (sub.cons rfl sub.nil))))) (Ent.refl _) (by dsimp only; omega)
          · rw [ht, List.nodup_append]
            refine ⟨hnd, by simp, ?_⟩
            intro x hx y hy e
            rw [List.mem_singleton] at hy
            exact h3 (by rw [← hy, ← e]; exact hx)
          · rw [ht]
            intro x hx
            rcases List.mem_append.1 hx with hx | hx
            · exact hrg x hx
            · rw [List.mem_singleton] at hx
              subst hx
              omega
  · obtain rfl : i = n := by omega
    rw [← hl, List.take_length] at hnd hrg
    repeat' (first|refine Zo0 rfl ?_|refine Zo1 ?_|refine Zo2 ?_|refine Zo3 ?_|refine Zo4 ?_|refine Zo5 ?_|refine Zo6 ?_|refine Zo7 ?_|refine Zo8 rfl ?_|refine Zo9 rfl ?_|refine Zoa ?_|refine Zob ?_|refine Zoc ?_|refine Zod ?_|refine Zoe ?_|refine Zof ?_|refine Zog ?_|refine Zoh ?_|refine Zoi rfl ?_|refine Zoj rfl ?_|refine Zok rfl ?_|refine Zol rfl ?_|refine Zom rfl (by rfl) ?_|refine Zon rfl rfl ?_|refine Zoo rfl rfl rfl rfl (by rfl) (by rfl) ?_|refine Zop rfl trivial ?_|refine Zoq rfl rfl rfl ?_)
    refine Sx.ca rfl (clone hr (ones_ints _) hn) ?_
    rintro v L' ⟨ra, ca, rfl, rfl⟩
    repeat' (first|refine Zo0 rfl ?_|refine Zo1 ?_|refine Zo2 ?_|refine Zo3 ?_|refine Zo4 ?_|refine Zo5 ?_|refine Zo6 ?_|refine Zo7 ?_|refine Zo8 rfl ?_|refine Zo9 rfl ?_|refine Zoa ?_|refine Zob ?_|refine Zoc ?_|refine Zod ?_|refine Zoe ?_|refine Zof ?_|refine Zog ?_|refine Zoh ?_|refine Zoi rfl ?_|refine Zoj rfl ?_|refine Zok rfl ?_|refine Zol rfl ?_|refine Zom rfl (by rfl) ?_|refine Zon rfl rfl ?_|refine Zoo rfl rfl rfl rfl (by rfl) (by rfl) ?_|refine Zop rfl trivial ?_|refine Zoq rfl rfl rfl ?_)
    refine Sx.bx rfl rfl fun g => ?_
    repeat' (first|refine Zo0 rfl ?_|refine Zo1 ?_|refine Zo2 ?_|refine Zo3 ?_|refine Zo4 ?_|refine Zo5 ?_|refine Zo6 ?_|refine Zo7 ?_|refine Zo8 rfl ?_|refine Zo9 rfl ?_|refine Zoa ?_|refine Zob ?_|refine Zoc ?_|refine Zod ?_|refine Zoe ?_|refine Zof ?_|refine Zog ?_|refine Zoh ?_|refine Zoi rfl ?_|refine Zoj rfl ?_|refine Zok rfl ?_|refine Zol rfl ?_|refine Zom rfl (by rfl) ?_|refine Zon rfl rfl ?_|refine Zoo rfl rfl rfl rfl (by rfl) (by rfl) ?_|refine Zop rfl trivial ?_|refine Zoq rfl rfl rfl ?_)
    have hok : (PushS.init l).ok k := PushS.ok_init hrg
    refine Cx.ifp rfl (fun h0 => ?_) (fun h0 => ?_)
    · repeat' (first|refine Zo0 rfl ?_|refine Zo1 ?_|refine Zo2 ?_|refine Zo3 ?_|refine Zo4 ?_|refine Zo5 ?_|refine Zo6 ?_|refine Zo7 ?_|refine Zo8 rfl ?_|refine Zo9 rfl ?_|refine Zoa ?_|refine Zob ?_|refine Zoc ?_|refine Zod ?_|refine Zoe ?_|refine Zof ?_|refine Zog ?_|refine Zoh ?_|refine Zoi rfl ?_|refine Zoj rfl ?_|refine Zok rfl ?_|refine Zol rfl ?_|refine Zom rfl (by rfl) ?_|refine Zon rfl rfl ?_|refine Zoo rfl rfl rfl rfl (by rfl) (by rfl) ?_|refine Zop rfl trivial ?_|refine Zoq rfl rfl rfl ?_)
      refine Kr.two (.inr rfl) rfl rfl ?_ (.inr ⟨⟨hnd, hrg⟩, g, rfl, rfl⟩)
      have hl0 : l = [] := List.length_eq_zero_iff.1 (by omega)
      refine Ent.trans (PushO.close (a := some ⟨g, 0, none⟩) (r := ra) (sb := sb) (k := k) (PushS.init l) hok ?_ ?_ rfl hl.symm rfl) ?_
      · simp [pushNx, PushS.init, hl0]
      · simp [pushI, PushS.init, hl0]
      · repeat (first | exact Ent.refl _ | (refine Ent.take1 ?_) | (refine Ent.trans Ent.drop ?_))
    · repeat' (first|refine Zo0 rfl ?_|refine Zo1 ?_|refine Zo2 ?_|refine Zo3 ?_|refine Zo4 ?_|refine Zo5 ?_|refine Zo6 ?_|refine Zo7 ?_|refine Zo8 rfl ?_|refine Zo9 rfl ?_|refine Zoa ?_|refine Zob ?_|refine Zoc ?_|refine Zod ?_|refine Zoe ?_|refine Zof ?_|refine Zog ?_|refine Zoh ?_|refine Zoi rfl ?_|refine Zoj rfl ?_|refine Zok rfl ?_|refine Zol rfl ?_|refine Zom rfl (by rfl) ?_|refine Zon rfl rfl ?_|refine Zoo rfl rfl rfl rfl (by rfl) (by rfl) ?_|refine Zop rfl trivial ?_|refine Zoq rfl rfl rfl ?_)
      refine Cx.ifp rfl (fun h1 => ?_) (fun h1 => ?_)
      · repeat' (first|refine Zo0 rfl ?_|refine Zo1 ?_|refine Zo2 ?_|refine Zo3 ?_|refine Zo4 ?_|refine Zo5 ?_|refine Zo6 ?_|refine Zo7 ?_|refine Zo8 rfl ?_|refine Zo9 rfl ?_|refine Zoa ?_|refine Zob ?_|refine Zoc ?_|refine Zod ?_|refine Zoe ?_|refine Zof ?_|refine Zog ?_|refine Zoh ?_|refine Zoi rfl ?_|refine Zoj rfl ?_|refine Zok rfl ?_|refine Zol rfl ?_|refine Zom rfl (by rfl) ?_|refine Zon rfl rfl ?_|refine Zoo rfl rfl rfl rfl (by rfl) (by rfl) ?_|refine Zop rfl trivial ?_|refine Zoq rfl rfl rfl ?_)
        refine Sx.ca rfl (machGo (b := g)) ?_
        rintro v L' ⟨rfl, rfl⟩
        repeat' (first|refine Zo0 rfl ?_|refine Zo1 ?_|refine Zo2 ?_|refine Zo3 ?_|refine Zo4 ?_|refine Zo5 ?_|refine Zo6 ?_|refine Zo7 ?_|refine Zo8 rfl ?_|refine Zo9 rfl ?_|refine Zoa ?_|refine Zob ?_|refine Zoc ?_|refine Zod ?_|refine Zoe ?_|refine Zof ?_|refine Zog ?_|refine Zoh ?_|refine Zoi rfl ?_|refine Zoj rfl ?_|refine Zok rfl ?_|refine Zol rfl ?_|refine Zom rfl (by rfl) ?_|refine Zon rfl rfl ?_|refine Zoo rfl rfl rfl rfl (by rfl) (by rfl) ?_|refine Zop rfl trivial ?_|refine Zoq rfl rfl rfl ?_)
        refine Kr.two (.inr rfl) rfl rfl ?_ (.inr ⟨⟨hnd, hrg⟩, g, rfl, rfl⟩)
        have hl0 : l ≠ [] := fun e => by subst e; simp at hl; omega
        refine Ent.trans (PushO.close (a := some ⟨g, 0, none⟩) (r := ra) (sb := sb) (k := k) (PushS.init l) hok ?_ ?_ rfl hl.symm rfl) ?_
        · simp [pushNx, pushFn, PushS.init, hl0, hl, show i = 1 by omega]
        · simp [pushI, PushS.init]
        · repeat (first | exact Ent.refl _ | (refine Ent.take1 ?_) | (refine Ent.trans Ent.drop ?_))
      · repeat' (first|refine Zo0 rfl ?_|refine Zo1 ?_|refine Zo2 ?_|refine Zo3 ?_|refine Zo4 ?_|refine Zo5 ?_|refine Zo6 ?_|refine Zo7 ?_|refine Zo8 rfl ?_|refine Zo9 rfl ?_|refine Zoa ?_|refine Zob ?_|refine Zoc ?_|refine Zod ?_|refine Zoe ?_|refine Zof ?_|refine Zog ?_|refine Zoh ?_|refine Zoi rfl ?_|refine Zoj rfl ?_|refine Zok rfl ?_|refine Zol rfl ?_|refine Zom rfl (by rfl) ?_|refine Zon rfl rfl ?_|refine Zoo rfl rfl rfl rfl (by rfl) (by rfl) ?_|refine Zop rfl trivial ?_|refine Zoq rfl rfl rfl ?_)
        refine Sx.ca rfl (machGo (b := g)) ?_
        rintro v L' ⟨rfl, rfl⟩
        repeat' (first|refine Zo0 rfl ?_|refine Zo1 ?_|refine Zo2 ?_|refine Zo3 ?_|refine Zo4 ?_|refine Zo5 ?_|refine Zo6 ?_|refine Zo7 ?_|refine Zo8 rfl ?_|refine Zo9 rfl ?_|refine Zoa ?_|refine Zob ?_|refine Zoc ?_|refine Zod ?_|refine Zoe ?_|refine Zof ?_|refine Zog ?_|refine Zoh ?_|refine Zoi rfl ?_|refine Zoj rfl ?_|refine Zok rfl ?_|refine Zol rfl ?_|refine Zom rfl (by rfl) ?_|refine Zon rfl rfl ?_|refine Zoo rfl rfl rfl rfl (by rfl) (by rfl) ?_|refine Zop rfl trivial ?_|refine Zoq rfl rfl rfl ?_)
        refine Kr.two (.inr rfl) rfl rfl ?_ (.inr ⟨⟨hnd, hrg⟩, g, rfl, rfl⟩)
        have hl0 : l ≠ [] := fun e => by subst e; simp at hl; omega
        refine Ent.trans (PushO.close (a := some ⟨g, 0, none⟩) (r := ra) (sb := sb) (k := k) (PushS.init l) hok ?_ ?_ rfl hl.symm rfl) ?_
        · simp [pushNx, pushFn, PushS.init, hl0, hl, show 1 < i by omega]
        · simp [pushI, PushS.init]
        · repeat (first | exact Ent.refl _ | (refine Ent.take1 ?_) | (refine Ent.trans Ent.drop ?_))
end
end Go.Proofs.YtnbkjcmmjgkdaaaGreat
