/-
  One alone takes: Steps until the end.
-/
import Derived.Test.YtnbkjcmmjgkdaaaGreatMaM
import Derived.Test.YtnbkjcmmjgkdaaaGreatPuC
set_option linter.unusedVariables false
set_option linter.unusedSimpArgs false
namespace Go.Proofs.YtnbkjcmmjgkdaaaGreat
open Go
attribute [local irreducible] Sx Cx Rx Fx Krg Ksq Kbl Klp Kr

/-- So many Steps. -/
def tkIt (k : Sk) (ba : Int) : Nat → Mm × SupS × TakeS → Mm × SupS × TakeS
  | 0, r => r
  | n + 1, r => takeStep k ba (tkIt k ba n r).1 (tkIt k ba n r).2.1 (tkIt k ba n r).2.2
theorem takeStep_len {k : Sk} {ba : Int} {m : Mm} {s : SupS} {t : TakeS} : (takeStep k ba m s t).1.ws.length = m.ws.length := by
  unfold takeStep
  split
  · rfl
  · split
    · dsimp only
      split <;> rfl
    · dsimp only
      have : (popStep k m t.q).2.ws.length = m.ws.length := by
        unfold popStep
        split
        · rfl
        · split
          · split <;> rfl
          · split <;> rfl
          · exact Mm.len_cas
      split <;> exact this
theorem tkIt_len {k : Sk} {ba : Int} {r : Mm × SupS × TakeS} : ∀ n, (tkIt k ba n r).1.ws.length = r.1.ws.length
  | 0 => rfl
  | n + 1 => by simp only [tkIt]; rw [takeStep_len]; exact tkIt_len n
theorem tkIt_ok {k : Sk} {ba : Int} {r : Mm × SupS × TakeS} (h : r.2.2.ok) : ∀ n, (tkIt k ba n r).2.2.ok
  | 0 => h
  | n + 1 => takeStep_ok (tkIt_ok h n)
/-- While the Pop goes on. -/
theorem tk_pop {k : Sk} {ba : Int} {m : Mm} {s : SupS} {t : TakeS} (hd : t.done = false) (ha : t.at_ = 1) : ∀ j : Nat, (∀ i, i ≤ j → 0 < i → (popIt k i (t.q, m)).1.done = false) →
    tkIt k ba j (m, s, t) = ((popIt k j (t.q, m)).2, s, { t with q := (popIt k j (t.q, m)).1 })
  | 0, _ => rfl
  | j + 1, h => by
    have ih := tk_pop (k := k) (ba := ba) (m := m) (s := s) hd ha j fun i hi => h i (by omega)
    have e := h (j + 1) (by omega) (by omega)
    rw [popIt_succ] at e
    simp only [tkIt]
    rw [ih, popIt_succ]
    unfold takeStep
    simp only [hd, ha, Bool.false_eq_true, if_false]
    rw [e]
    simp
/-- Out of the pool. -/
theorem take_alone {k : Sk} {m : Mm} {l : List Int} {len : Nat} (hk : k.ok len) (hml : m.ws.length = len) (hp : Pool k m l) {ba : Int} (h1 : 1 ≤ ba) (h8 : ba ≤ 8) (hl : l ≠ []) (c : Nat) (hc : (c : Int) = min ba l.length)
    {s : SupS} {t : TakeS} (hd : t.done = false) (ha : t.at_ = 1) (hq : t.q = PopS.init ba) :
    ∃ m' q, tkIt k ba (c + 2) (m, s, t) = (m', s.give (l.take c).tail, { t with q := q, chunk := l.headD 0, is_ := true, done := true }) ∧ m'.n = m.n + (c + 2) ∧ m'.ws.length = len ∧ Pool k m' (l.drop c) ∧ (∀ a, a ≠ k.head → m'.at_ a = m.at_ a) ∧
      (∀ j, j < c + 2 → (tkIt k ba j (m, s, t)).2.2.done = false ∧ (tkIt k ba j (m, s, t)).2.1 = s) := by
  obtain ⟨m', e, h2, h3, h4, h5, h6⟩ := pop_alone hk hml hp ba h1 h8 hl c hc
  rw [← hq] at e h6
  have hb : ∀ j, j < c + 2 → tkIt k ba j (m, s, t) = ((popIt k j (t.q, m)).2, s, { t with q := (popIt k j (t.q, m)).1 }) := fun j hj => tk_pop hd ha j fun i hi _ => h6 i (by omega)
  have hc1 : 1 ≤ c := by
    have := List.length_pos_iff.2 hl
    omega
  obtain ⟨x, l', rfl⟩ := List.exists_cons_of_ne_nil hl
  refine ⟨m', ⟨ba, 0, ((x :: l').drop c).headD (-1), m.at_ k.head, (x :: l').take c, true⟩, ?_, h2, h3, h4, h5, fun j hj => ?_⟩
  rotate_left
  · rw [hb j hj]; exact ⟨hd, rfl⟩
  · show takeStep k ba (tkIt k ba (c + 1) (m, s, t)).1 (tkIt k ba (c + 1) (m, s, t)).2.1 (tkIt k ba (c + 1) (m, s, t)).2.2 = _
    rw [hb (c + 1) (by omega)]
    unfold takeStep
    simp only [hd, ha, Bool.false_eq_true, if_false]
    rw [← popIt_succ, e]
    simp only [if_true]
    unfold popped
    obtain ⟨c', rfl⟩ : ∃ c', c = c' + 1 := ⟨c - 1, by omega⟩
    simp only [List.take_succ_cons, List.tail_cons, List.headD_cons]
section
variable {L F G : St}
set_option maxHeartbeats 4000000 in
theorem supTakes {u mp pb : Nat} {x : Cn} {s : SupS} {m : Mm} {F1 F2 F3 : St} (N : Nat) (hN : N < 60) (hx : x.ok) (hl : x.len ≤ m.ws.length)
    (hnd : ∀ j, j < N → (tkIt x.pool x.ba j (m, takeInit x.ba s)).2.2.done = false) (hd : (tkIt x.pool x.ba N (m, takeInit x.ba s)).2.2.done = true)
    (hb0 : s.xs.length + s.lm.size ≤ 1000000)
    (hb : ∀ j, j ≤ N → (tkIt x.pool x.ba j (m, takeInit x.ba s)).2.1.xs.length + (tkIt x.pool x.ba j (m, takeInit x.ba s)).2.1.lm.size ≤ 1000000)
    [t1 : Take L (some ⟨u, 0, none⟩) (SupO mp pb x s) F1] [t2 : Take F1 (some ⟨mp, 0, none⟩) (MemO m) F2] [t3 : Take F2 (some ⟨pb, 0, none⟩) (SkO mp x.pool) F3] :
    Fx Tryz.prog 18 [.pointer (some ⟨u, 0, none⟩)] L (fun v L' => v = .tuple #[.int .i64 (tkIt x.pool x.ba N (m, takeInit x.ba s)).2.2.chunk, .bool (tkIt x.pool x.ba N (m, takeInit x.ba s)).2.2.is_, .int .i64 N] ∧
      L' = pt (some ⟨u, 0, none⟩) (SupO mp pb x (tkIt x.pool x.ba N (m, takeInit x.ba s)).2.1) :: pt (some ⟨mp, 0, none⟩) (MemO (tkIt x.pool x.ba N (m, takeInit x.ba s)).1) :: F2) := by
  have hok : ∀ n, (tkIt x.pool x.ba n (m, takeInit x.ba s)).2.2.ok := fun n => tkIt_ok takeInit_ok n
  refine Fx.mk Tryz.func18 k18 (Nat.le_of_ble_eq_true rfl) ?_
  dsimp only [c18, envOf, Nat.reduceAdd]
  refine Cx.ent (Ent.trans (Ent.of t1.out) (Ent.cons (Ent.of t2.out))) ?_
  repeat' (first|refine Zo0 rfl ?_|refine Zo1 ?_|refine Zo2 ?_|refine Zo3 ?_|refine Zo4 ?_|refine Zo5 ?_|refine Zo6 ?_|refine Zo7 ?_|refine Zo8 rfl ?_|refine Zo9 rfl ?_|refine Zoa ?_|refine Zob ?_|refine Zoc ?_|refine Zod ?_|refine Zoe ?_|refine Zof ?_|refine Zog ?_|refine Zoh ?_|refine Zoi rfl ?_|refine Zoj rfl ?_|refine Zok rfl ?_|refine Zol rfl ?_|refine Zom rfl (by rfl) ?_|refine Zon rfl rfl ?_|refine Zoo rfl rfl rfl rfl (by rfl) (by rfl) ?_|refine Zop rfl trivial ?_|refine Zoq rfl rfl rfl ?_)
  refine Sx.ca rfl (supTake (u := u) (mp := mp) (pb := pb) (x := x) (s := s) hx hb0) ?_
  rintro v L' ⟨b, rfl, rfl⟩
  repeat' (first|refine Zo0 rfl ?_|refine Zo1 ?_|refine Zo2 ?_|refine Zo3 ?_|refine Zo4 ?_|refine Zo5 ?_|refine Zo6 ?_|refine Zo7 ?_|refine Zo8 rfl ?_|refine Zo9 rfl ?_|refine Zoa ?_|refine Zob ?_|refine Zoc ?_|refine Zod ?_|refine Zoe ?_|refine Zof ?_|refine Zog ?_|refine Zoh ?_|refine Zoi rfl ?_|refine Zoj rfl ?_|refine Zok rfl ?_|refine Zol rfl ?_|refine Zom rfl (by rfl) ?_|refine Zon rfl rfl ?_|refine Zoo rfl rfl rfl rfl (by rfl) (by rfl) ?_|refine Zop rfl trivial ?_|refine Zoq rfl rfl rfl ?_)
  refine Cx.lp (α := {j : Nat // j ≤ N}) (fun j => [(5, .pointer (some ⟨b, 0, none⟩)), (6, .int .i64 j.1), (7, .int .i64 j.1)])
    (fun j => pt (some ⟨b, 0, none⟩) (TakeO u pb x.pool (tkIt x.pool x.ba j.1 (m, takeInit x.ba s)).2.2) :: pt (some ⟨u, 0, none⟩) (SupO mp pb x (tkIt x.pool x.ba j.1 (m, takeInit x.ba s)).2.1) :: pt (some ⟨mp, 0, none⟩) (MemO (tkIt x.pool x.ba j.1 (m, takeInit x.ba s)).1) :: F2)
    (fun j => N - j.1) ⟨0, by omega⟩ (sub.cons rfl (sub.cons rfl (sub.cons rfl sub.nil))) ?_ ?_
  · dsimp only [tkIt]
    repeat (first | exact Ent.refl _ | (refine Ent.take1 ?_) | (refine Ent.trans Ent.drop ?_))
  rintro ⟨j, hj⟩
  dsimp only
  repeat' (first|refine Zo0 rfl ?_|refine Zo1 ?_|refine Zo2 ?_|refine Zo3 ?_|refine Zo4 ?_|refine Zo5 ?_|refine Zo6 ?_|refine Zo7 ?_|refine Zo8 rfl ?_|refine Zo9 rfl ?_|refine Zoa ?_|refine Zob ?_|refine Zoc ?_|refine Zod ?_|refine Zoe ?_|refine Zof ?_|refine Zog ?_|refine Zoh ?_|refine Zoi rfl ?_|refine Zoj rfl ?_|refine Zok rfl ?_|refine Zol rfl ?_|refine Zom rfl (by rfl) ?_|refine Zon rfl rfl ?_|refine Zoo rfl rfl rfl rfl (by rfl) (by rfl) ?_|refine Zop rfl trivial ?_|refine Zoq rfl rfl rfl ?_)
  rw [decide_eq_true (show (j : Int) < 60 by omega)]
  repeat' (first|refine Zo0 rfl ?_|refine Zo1 ?_|refine Zo2 ?_|refine Zo3 ?_|refine Zo4 ?_|refine Zo5 ?_|refine Zo6 ?_|refine Zo7 ?_|refine Zo8 rfl ?_|refine Zo9 rfl ?_|refine Zoa ?_|refine Zob ?_|refine Zoc ?_|refine Zod ?_|refine Zoe ?_|refine Zof ?_|refine Zog ?_|refine Zoh ?_|refine Zoi rfl ?_|refine Zoj rfl ?_|refine Zok rfl ?_|refine Zol rfl ?_|refine Zom rfl (by rfl) ?_|refine Zon rfl rfl ?_|refine Zoo rfl rfl rfl rfl (by rfl) (by rfl) ?_|refine Zop rfl trivial ?_|refine Zoq rfl rfl rfl ?_)
  refine Sx.ca rfl (takeStepC (b := b) (u := u) (mp := mp) (pb := pb) (x := x) (s := (tkIt x.pool x.ba j (m, takeInit x.ba s)).2.1) (m := (tkIt x.pool x.ba j (m, takeInit x.ba s)).1) (t := (tkIt x.pool x.ba j (m, takeInit x.ba s)).2.2) hx (by rw [tkIt_len]; exact hl) (hok j) (hb j hj)) ?_
  rintro v L' ⟨rfl, rfl⟩
  by_cases hjn : j = N
  · subst hjn
    have e : takeStep x.pool x.ba (tkIt x.pool x.ba j (m, takeInit x.ba s)).1 (tkIt x.pool x.ba j (m, takeInit x.ba s)).2.1 (tkIt x.pool x.ba j (m, takeInit x.ba s)).2.2 = tkIt x.pool x.ba j (m, takeInit x.ba s) := by
      unfold takeStep; rw [if_pos hd]
    rw [hd, e]
    repeat' (first|refine Zo0 rfl ?_|refine Zo1 ?_|refine Zo2 ?_|refine Zo3 ?_|refine Zo4 ?_|refine Zo5 ?_|refine Zo6 ?_|refine Zo7 ?_|refine Zo8 rfl ?_|refine Zo9 rfl ?_|refine Zoa ?_|refine Zob ?_|refine Zoc ?_|refine Zod ?_|refine Zoe ?_|refine Zof ?_|refine Zog ?_|refine Zoh ?_|refine Zoi rfl ?_|refine Zoj rfl ?_|refine Zok rfl ?_|refine Zol rfl ?_|refine Zom rfl (by rfl) ?_|refine Zon rfl rfl ?_|refine Zoo rfl rfl rfl rfl (by rfl) (by rfl) ?_|refine Zop rfl trivial ?_|refine Zoq rfl rfl rfl ?_)
    refine Sx.ca rfl (takeChunk (b := b) (u := u) (pb := pb) (k := x.pool) (t := (tkIt x.pool x.ba j (m, takeInit x.ba s)).2.2) (hok j)) ?_
    rintro v L' ⟨rfl, rfl⟩
    repeat' (first|refine Zo0 rfl ?_|refine Zo1 ?_|refine Zo2 ?_|refine Zo3 ?_|refine Zo4 ?_|refine Zo5 ?_|refine Zo6 ?_|refine Zo7 ?_|refine Zo8 rfl ?_|refine Zo9 rfl ?_|refine Zoa ?_|refine Zob ?_|refine Zoc ?_|refine Zod ?_|refine Zoe ?_|refine Zof ?_|refine Zog ?_|refine Zoh ?_|refine Zoi rfl ?_|refine Zoj rfl ?_|refine Zok rfl ?_|refine Zol rfl ?_|refine Zom rfl (by rfl) ?_|refine Zon rfl rfl ?_|refine Zoo rfl rfl rfl rfl (by rfl) (by rfl) ?_|refine Zop rfl trivial ?_|refine Zoq rfl rfl rfl ?_)
    exact Kr.three (.inr rfl) rfl rfl rfl Ent.drop ⟨rfl, rfl⟩
  · rw [hnd j (by omega)]
    repeat' (first|refine Zo0 rfl ?_|refine Zo1 ?_|refine Zo2 ?_|refine Zo3 ?_|refine Zo4 ?_|refine Zo5 ?_|refine Zo6 ?_|refine Zo7 ?_|refine Zo8 rfl ?_|refine Zo9 rfl ?_|refine Zoa ?_|refine Zob ?_|refine Zoc ?_|refine Zod ?_|refine Zoe ?_|refine Zof ?_|refine Zog ?_|refine Zoh ?_|refine Zoi rfl ?_|refine Zoj rfl ?_|refine Zok rfl ?_|refine Zol rfl ?_|refine Zom rfl (by rfl) ?_|refine Zon rfl rfl ?_|refine Zoo rfl rfl rfl rfl (by rfl) (by rfl) ?_|refine Zop rfl trivial ?_|refine Zoq rfl rfl rfl ?_)
    rw [w64 (n := (j : Int) + 1) (by omega) (by omega)]
    refine Klp.nm ⟨j + 1, by omega⟩ (sub.cons rfl (sub.cons rfl (sub.cons rfl sub.nil))) ?_ (by dsimp only; omega)
    dsimp only [tkIt]
    repeat (first | exact Ent.refl _ | (refine Ent.take1 ?_) | (refine Ent.trans Ent.drop ?_))
end
end Go.Proofs.YtnbkjcmmjgkdaaaGreat
