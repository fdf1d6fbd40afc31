/-
  One alone takes, gives: what it gets; what is left.
-/
import Derived.Test.YtnbkjcmmjgkdaaaGreatMaT
import Derived.Test.YtnbkjcmmjgkdaaaGreatMaX
import Derived.Test.YtnbkjcmmjgkdaaaGreatMaP
set_option linter.unusedVariables false
set_option linter.unusedSimpArgs false
namespace Go.Proofs.YtnbkjcmmjgkdaaaGreat
open Go
attribute [local irreducible] Sx Cx Rx Fx Krg Ksq Kbl Klp Kr

/-- What a Take alone does, with nothing in the limbo. -/
def TakeR (ba : Int) (s : SupS) (l : List Int) (ch : Int) (is_ : Bool) (N : Nat) (s' : SupS) (l' : List Int) : Prop :=
  (s.xs ≠ [] ∧ ch = lastI s.xs ∧ is_ = true ∧ N = 0 ∧ s' = s.kept ∧ l' = l) ∨
  (s.xs = [] ∧ l ≠ [] ∧ ∃ c : Nat, (c : Int) = min ba l.length ∧ ch = l.headD 0 ∧ is_ = true ∧ N = c + 2 ∧ s' = s.give (l.take c).tail ∧ l' = l.drop c) ∨
  (s.xs = [] ∧ l = [] ∧ ch = 0 ∧ is_ = false ∧ N = 1 ∧ s' = s ∧ l' = [])
theorem TakeR.size {ba : Int} {s s' : SupS} {l l' : List Int} {ch : Int} {is_ : Bool} {N : Nat} (h8 : ba ≤ 8) (h : TakeR ba s l ch is_ N s' l') : s'.xs.length ≤ s.xs.length + 8 ∧ s'.lm = s.lm ∧ s'.most = s.most := by
  rcases h with ⟨_, _, _, _, rfl, _⟩ | ⟨h0, _, c, hc, _, _, _, rfl, _⟩ | ⟨_, _, _, _, _, rfl, _⟩
  · exact ⟨by simp [SupS.kept]; omega, rfl, rfl⟩
  · refine ⟨?_, rfl, rfl⟩
    simp only [SupS.give, List.length_append, List.length_tail, List.length_take]
    omega
  · exact ⟨by omega, rfl, rfl⟩
theorem takes_plain {k : Sk} {m : Mm} {s : SupS} {l : List Int} {len : Nat} {ba : Int} (hk : k.ok len) (hml : m.ws.length = len) (hp : Pool k m l) (h1 : 1 ≤ ba) (h8 : ba ≤ 8) (hz : s.lm.size = 0) :
    ∃ (N : Nat) (m' : Mm) (s' : SupS) (t' : TakeS) (l' : List Int), (N : Int) ≤ ba + 2 ∧ tkIt k ba N (m, takeInit ba s) = (m', s', t') ∧ t'.done = true ∧ m'.ws.length = len ∧ Pool k m' l' ∧ TakeR ba s l t'.chunk t'.is_ N s' l' ∧ m'.n = m.n + N ∧
      (∀ j, j < N → (tkIt k ba j (m, takeInit ba s)).2.2.done = false ∧ (tkIt k ba j (m, takeInit ba s)).2.1 = s) ∧ (∀ a, a ≠ k.head → m'.at_ a = m.at_ a) := by
  by_cases hxs : s.xs = []
  · have e0 : takeInit ba s = (s, { TakeS.none_ with at_ := 1, q := PopS.init ba }) := by
      unfold takeInit keepT
      rw [if_pos hxs]
      simp only
      rw [if_neg (by omega)]
    rw [e0]
    by_cases hl : l = []
    · subst hl
      have hpn := pop_none hp ba
      refine ⟨1, m.tick, s, ⟨1, 0, false, -1, ⟨min (max ba 1) 8, 0, 0, m.at_ k.head, [], true⟩, true⟩, [], by omega, ?_, rfl, hml, ⟨hp.c, hp.nd⟩, .inr (.inr ⟨hxs, rfl, rfl, rfl, rfl, rfl, rfl⟩), rfl, fun j hj => ?_, fun _ _ => rfl⟩
      · simp only [tkIt]
        unfold takeStep
        simp only [TakeS.none_, Bool.false_eq_true, if_false]
        rw [hpn]
        simp [popped]
      · obtain rfl : j = 0 := by omega
        exact ⟨rfl, rfl⟩
    · obtain ⟨c, hc⟩ : ∃ c : Nat, (c : Int) = min ba l.length := ⟨(min ba l.length).toNat, by omega⟩
      obtain ⟨m', q, e, h2, h3, h4, h5, h6⟩ := take_alone hk hml hp h1 h8 hl c hc (s := s) (t := { TakeS.none_ with at_ := 1, q := PopS.init ba }) rfl rfl rfl
      exact ⟨c + 2, m', _, _, l.drop c, by omega, e, rfl, h3, h4, .inr (.inl ⟨hxs, hl, c, hc, rfl, rfl, rfl, rfl, rfl⟩), h2, h6, h5⟩
  · have e0 : takeInit ba s = (s.kept, { TakeS.none_ with chunk := lastI s.xs, is_ := true, done := true }) := by
      unfold takeInit keepT; rw [if_neg hxs]
    rw [e0]
    exact ⟨0, m, _, _, l, by omega, rfl, rfl, hml, hp, .inl ⟨hxs, rfl, rfl, rfl, rfl, rfl⟩, rfl, fun j hj => by omega, fun _ _ => rfl⟩
theorem pushStep_len {k : Sk} {m : Mm} {p : PushS} : (pushStep k m p).2.ws.length = m.ws.length := by
  unfold pushStep
  (repeat' split) <;> simp [Mm.put, Mm.tick, Mm.len_cas]
theorem pushIt_len {k : Sk} {s : PushS × Mm} : ∀ n, (pushIt k n s).2.ws.length = s.2.ws.length
  | 0 => rfl
  | n + 1 => by rw [pushIt_succ, pushStep_len]; exact pushIt_len n
/-- A Give alone. -/
theorem gives_plain {k : Sk} {m : Mm} {x l : List Int} {len : Nat} (hk : k.ok len) (hml : m.ws.length = len) (hp : Pool k m l) (hnd : x.Nodup) (hr : ∀ i ∈ x, 0 ≤ i ∧ i < k.n) (hdj : ∀ i ∈ x, i ∉ l) :
    ∃ (N : Nat) (m' : Mm) (p' : PushS), N = (if x = [] then 0 else x.length + 2) ∧ pushIt k N (giveInit k x, m) = (p', m') ∧ p'.done = true ∧ m'.n = m.n + N ∧ m'.ws.length = len ∧ Pool k m' (x ++ l) ∧
      (∀ a, a ≠ k.head → (∀ i ∈ x, a ≠ k.links + i.toNat) → m'.at_ a = m.at_ a) ∧ (∀ j, j < N → (pushIt k j (giveInit k x, m)).1.done = false) := by
  rw [giveInit_yes ⟨hnd, hr⟩]
  by_cases hx : x = []
  · subst hx
    exact ⟨0, m, PushS.init [], rfl, rfl, rfl, rfl, hml, hp, fun _ _ _ => rfl, fun j hj => by omega⟩
  · obtain ⟨m', e, h2, h3, h4, h5, h6⟩ := push_alone hk hml hp hx hnd hr hdj
    exact ⟨x.length + 2, m', _, by rw [if_neg hx], e, rfl, h2, h3, h4, h5, h6⟩
section
variable {L F G : St}
theorem supTakesA {u mp pb : Nat} {x : Cn} {s : SupS} {m : Mm} {l : List Int} {F1 F2 F3 : St} (hx : x.ok) (hl : m.ws.length = x.len) (hp : Pool x.pool m l) (hz : s.lm.size = 0) (hb : s.xs.length ≤ 100000)
    [t1 : Take L (some ⟨u, 0, none⟩) (SupO mp pb x s) F1] [t2 : Take F1 (some ⟨mp, 0, none⟩) (MemO m) F2] [t3 : Take F2 (some ⟨pb, 0, none⟩) (SkO mp x.pool) F3] :
    Fx Tryz.prog 18 [.pointer (some ⟨u, 0, none⟩)] L (fun v L' => ∃ (N : Nat) (ch : Int) (is_ : Bool) (s' : SupS) (m' : Mm) (l' : List Int), v = .tuple #[.int .i64 ch, .bool is_, .int .i64 (N : Nat)] ∧ (N : Int) ≤ x.ba + 2 ∧ TakeR x.ba s l ch is_ N s' l' ∧ m'.ws.length = x.len ∧ Pool x.pool m' l' ∧
      L' = pt (some ⟨u, 0, none⟩) (SupO mp pb x s') :: pt (some ⟨mp, 0, none⟩) (MemO m') :: F2) := by
  obtain ⟨b1, b2, b3, b4, b5, b6, b7⟩ := hx.b
  have hlen := hx.len_le
  obtain ⟨N, m', s', t', l', n1, e, hd, h3, h4, h5, _, h6, _⟩ := takes_plain (ba := x.ba) (hx.pool (Nat.le_refl _) hlen) hl hp (by omega) (by omega) hz
  obtain ⟨z1, z2, z3⟩ := h5.size (by omega)
  have c := supTakes (u := u) (mp := mp) (pb := pb) (x := x) (s := s) (m := m) N (by omega) hx (by omega) (fun j hj => (h6 j hj).1) (by rw [e]; exact hd) (by omega) (fun j hj => by
    by_cases hjn : j = N
    · rw [hjn, e]; dsimp only; rw [z2]; omega
    · rw [(h6 j (by omega)).2]; omega) (t1 := t1) (t2 := t2) (t3 := t3)
  rw [e] at c
  refine c.mono ?_
  rintro v L' ⟨rfl, rfl⟩
  exact ⟨N, _, _, s', m', l', rfl, n1, h5, h3, h4, rfl⟩
set_option maxHeartbeats 2000000 in
set_option maxRecDepth 20000 in
theorem givesA {b mp pb : Nat} {k : Sk} {m : Mm} {p p' : PushS} {m' : Mm} (N : Nat) (hN : N < 400) (hk : k.ok m.ws.length) (hnd : ∀ j, j < N → (pushIt k j (p, m)).1.done = false) (he : pushIt k N (p, m) = (p', m')) (hd : p'.done = true) {F1 F2 F3 : St}
    [t1 : Take L (some ⟨b, 0, none⟩) (GiveO pb k p) F1] [t2 : Take F1 (some ⟨mp, 0, none⟩) (MemO m) F2] [t3 : Take F2 (some ⟨pb, 0, none⟩) (SkO mp k) F3] :
    Fx Tryz.prog 21 [.pointer (some ⟨b, 0, none⟩)] L (fun v L' => v = .int .i64 N ∧ L' = pt (some ⟨mp, 0, none⟩) (MemO m') :: F2) := by
  refine Fx.mk Tryz.func21 k21 (Nat.le_of_ble_eq_true rfl) ?_
  dsimp only [c21, envOf, Nat.reduceAdd]
  refine Cx.ent (Ent.trans (Ent.of t1.out) (Ent.cons (Ent.of t2.out))) ?_
  repeat' (first|refine Zo0 rfl ?_|refine Zo1 ?_|refine Zo2 ?_|refine Zo3 ?_|refine Zo4 ?_|refine Zo5 ?_|refine Zo6 ?_|refine Zo7 ?_|refine Zo8 rfl ?_|refine Zo9 rfl ?_|refine Zoa ?_|refine Zob ?_|refine Zoc ?_|refine Zod ?_|refine Zoe ?_|refine Zof ?_|refine Zog ?_|refine Zoh ?_|refine Zoi rfl ?_|refine Zoj rfl ?_|refine Zok rfl ?_|refine Zol rfl ?_|refine Zom rfl (by rfl) ?_|refine Zon rfl rfl ?_|refine Zoo rfl rfl rfl rfl (by rfl) (by rfl) ?_|refine Zop rfl trivial ?_|refine Zoq rfl rfl rfl ?_)
  refine Cx.lp (α := {j : Nat // j ≤ N}) (fun j => [(0, .pointer (some ⟨b, 0, none⟩)), (3, .int .i64 j.1), (4, .int .i64 j.1)])
    (fun j => pt (some ⟨b, 0, none⟩) (GiveO pb k (pushIt k j.1 (p, m)).1) :: pt (some ⟨mp, 0, none⟩) (MemO (pushIt k j.1 (p, m)).2) :: F2)
    (fun j => N - j.1) ⟨0, by omega⟩ (sub.cons rfl (sub.cons rfl (sub.cons rfl sub.nil))) ?_ ?_
  · dsimp only [pushIt]
    repeat (first | exact Ent.refl _ | (refine Ent.take1 ?_) | (refine Ent.trans Ent.drop ?_))
  rintro ⟨j, hj⟩
  dsimp only
  repeat' (first|refine Zo0 rfl ?_|refine Zo1 ?_|refine Zo2 ?_|refine Zo3 ?_|refine Zo4 ?_|refine Zo5 ?_|refine Zo6 ?_|refine Zo7 ?_|refine Zo8 rfl ?_|refine Zo9 rfl ?_|refine Zoa ?_|refine Zob ?_|refine Zoc ?_|refine Zod ?_|refine Zoe ?_|refine Zof ?_|refine Zog ?_|refine Zoh ?_|refine Zoi rfl ?_|refine Zoj rfl ?_|refine Zok rfl ?_|refine Zol rfl ?_|refine Zom rfl (by rfl) ?_|refine Zon rfl rfl ?_|refine Zoo rfl rfl rfl rfl (by rfl) (by rfl) ?_|refine Zop rfl trivial ?_|refine Zoq rfl rfl rfl ?_)
  rw [decide_eq_true (show (j : Int) < 400 by omega)]
  repeat' (first|refine Zo0 rfl ?_|refine Zo1 ?_|refine Zo2 ?_|refine Zo3 ?_|refine Zo4 ?_|refine Zo5 ?_|refine Zo6 ?_|refine Zo7 ?_|refine Zo8 rfl ?_|refine Zo9 rfl ?_|refine Zoa ?_|refine Zob ?_|refine Zoc ?_|refine Zod ?_|refine Zoe ?_|refine Zof ?_|refine Zog ?_|refine Zoh ?_|refine Zoi rfl ?_|refine Zoj rfl ?_|refine Zok rfl ?_|refine Zol rfl ?_|refine Zom rfl (by rfl) ?_|refine Zon rfl rfl ?_|refine Zoo rfl rfl rfl rfl (by rfl) (by rfl) ?_|refine Zop rfl trivial ?_|refine Zoq rfl rfl rfl ?_)
  refine Sx.ca rfl (giveStep (b := b) (mp := mp) (pb := pb) (k := k) (m := (pushIt k j (p, m)).2) (p := (pushIt k j (p, m)).1) (by rw [pushIt_len]; exact hk)) ?_
  rintro v L' ⟨rfl, rfl⟩
  by_cases hjn : j = N
  · subst hjn
    have e : pushStep k (pushIt k j (p, m)).2 (pushIt k j (p, m)).1 = pushIt k j (p, m) := by
      unfold pushStep; rw [he]; dsimp only; rw [if_pos hd]
    rw [e, he, hd]
    repeat' (first|refine Zo0 rfl ?_|refine Zo1 ?_|refine Zo2 ?_|refine Zo3 ?_|refine Zo4 ?_|refine Zo5 ?_|refine Zo6 ?_|refine Zo7 ?_|refine Zo8 rfl ?_|refine Zo9 rfl ?_|refine Zoa ?_|refine Zob ?_|refine Zoc ?_|refine Zod ?_|refine Zoe ?_|refine Zof ?_|refine Zog ?_|refine Zoh ?_|refine Zoi rfl ?_|refine Zoj rfl ?_|refine Zok rfl ?_|refine Zol rfl ?_|refine Zom rfl (by rfl) ?_|refine Zon rfl rfl ?_|refine Zoo rfl rfl rfl rfl (by rfl) (by rfl) ?_|refine Zop rfl trivial ?_|refine Zoq rfl rfl rfl ?_)
    exact Kr.one (.inr rfl) rfl Ent.drop ⟨rfl, rfl⟩
  · rw [hnd j (by omega), ← pushIt_succ]
    repeat' (first|refine Zo0 rfl ?_|refine Zo1 ?_|refine Zo2 ?_|refine Zo3 ?_|refine Zo4 ?_|refine Zo5 ?_|refine Zo6 ?_|refine Zo7 ?_|refine Zo8 rfl ?_|refine Zo9 rfl ?_|refine Zoa ?_|refine Zob ?_|refine Zoc ?_|refine Zod ?_|refine Zoe ?_|refine Zof ?_|refine Zog ?_|refine Zoh ?_|refine Zoi rfl ?_|refine Zoj rfl ?_|refine Zok rfl ?_|refine Zol rfl ?_|refine Zom rfl (by rfl) ?_|refine Zon rfl rfl ?_|refine Zoo rfl rfl rfl rfl (by rfl) (by rfl) ?_|refine Zop rfl trivial ?_|refine Zoq rfl rfl rfl ?_)
    rw [w64 (n := (j : Int) + 1) (by omega) (by omega)]
    refine Klp.nm ⟨j + 1, by omega⟩ (sub.cons rfl (sub.cons rfl (sub.cons rfl sub.nil))) ?_ (by dsimp only; omega)
    repeat (first | exact Ent.refl _ | (refine Ent.take1 ?_) | (refine Ent.trans Ent.drop ?_))
end
end Go.Proofs.YtnbkjcmmjgkdaaaGreat
