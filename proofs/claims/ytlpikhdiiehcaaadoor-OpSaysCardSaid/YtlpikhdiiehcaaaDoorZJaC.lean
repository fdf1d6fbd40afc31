/-
  Parts of the proof, merged: what the statement leans on.
-/
import Derived.Test.YtlpikhdiiehcaaaDoorZJaB
/-
  The program's operation of a text (op.Get).
-/
set_option linter.unusedVariables false
set_option linter.unusedSimpArgs false
namespace Go.Proofs.YtlpikhdiiehcaaaDoor
open Go Go.RowKit
attribute [local irreducible] Sx Cx Rx Fx Krg Ksq Kbl Klp Kr
/-- The last kind up to so many with that name. -/
def kindTo (x : List UInt8) : Nat → Nat
  | 0 => 0
  | k + 1 => if (formN (k + 1)).name = x then k + 1 else kindTo x k
def kindW (s : List UInt8) : Nat := kindTo ((words s).headD []) 12
def frmW (s : List UInt8) : Frm := formN (kindW s)
def nx1 (s : List UInt8) := nextW (!decide ((frmW s).of_ = 0)) (words s).tail
def nx2 (s : List UInt8) := nextW (frmW s).n (nx1 s).2
def nx3 (s : List UInt8) := nextW (frmW s).v (nx2 s).2
def nx4 (s : List UInt8) := nextW (frmW s).w (nx3 s).2
/-- What the program reads out of a text. -/
def parseO (s : List UInt8) : Opn := ⟨kindW s, atoiV (cutDot (nx1 s).1).1, atoiV (cutDot (nx1 s).1).2.1, atoiV (nx2 s).1, uintV (nx3 s).1, uintV (nx4 s).1⟩
def getO (s : List UInt8) : Opn × Int := if mayO (parseO s) = true ∧ printO (parseO s) = s then (parseO s, 0) else (Opn.zero, 10)
theorem words_mem {s x : List UInt8} (h : x ∈ words s) : x.length ≤ s.length := by
  induction s generalizing x with
  | nil => simp [words] at h; subst h; simp
  | cons c r ih =>
    unfold words at h
    split at h
    · rcases List.mem_cons.1 h with rfl | h
      · simp
      · have := ih h; simp; omega
    · split at h
      · simp at h; subst h; simp
      · rename_i y t e
        rcases List.mem_cons.1 h with rfl | h
        · have := ih (x := y) (by rw [e]; simp); simp; omega
        · have := ih (x := x) (by rw [e]; simp [h]); simp; omega
def Short (s : List UInt8) (l : List (List UInt8)) : Prop := ∀ x ∈ l, x.length ≤ s.length
theorem Short.next {s : List UInt8} {l : List (List UInt8)} (h : Short s l) (b : Bool) : (nextW b l).1.length ≤ s.length ∧ Short s (nextW b l).2 := by
  cases b with
  | false => exact ⟨by simp [nextW], h⟩
  | true =>
    cases l with
    | nil => exact ⟨by simp [nextW], h⟩
    | cons x r => exact ⟨h x (by simp), fun y hy => h y (List.mem_cons_of_mem _ hy)⟩
theorem short1 (s : List UInt8) : (nx1 s).1.length ≤ s.length ∧ Short s (nx1 s).2 := Short.next (fun x hx => words_mem (List.mem_of_mem_tail hx)) _
theorem short2 (s : List UInt8) : (nx2 s).1.length ≤ s.length ∧ Short s (nx2 s).2 := Short.next (short1 s).2 _
theorem short3 (s : List UInt8) : (nx3 s).1.length ≤ s.length ∧ Short s (nx3 s).2 := Short.next (short2 s).2 _
theorem short4 (s : List UInt8) : (nx4 s).1.length ≤ s.length ∧ Short s (nx4 s).2 := Short.next (short3 s).2 _
theorem cut_len (x : List UInt8) : (cutDot x).1.length ≤ x.length ∧ (cutDot x).2.1.length ≤ x.length := by
  unfold cutDot Lib.cut
  split
  · simp only [List.length_take, List.length_drop]; omega
  · simp
theorem uintM_lt : ∀ (l : List UInt8) (acc v : Nat), acc < 18446744073709551616 → Lib.parseUintM (2 ^ 64 - 1) acc l = .ok v → v < 18446744073709551616
  | [], acc, v, h, e => by simp only [Lib.parseUintM] at e; cases e; exact h
  | c :: r, acc, v, h, e => by
    simp only [Lib.parseUintM] at e
    split at e
    · split at e
      · cases e
      · split at e
        · cases e
        · exact uintM_lt r _ v (by omega) e
    · cases e
theorem uintV_lt (l : List UInt8) : uintV l < 18446744073709551616 := by
  unfold uintV
  split
  · rename_i v h
    unfold Lib.parseUintB at h
    split at h
    · cases h
    · exact uintM_lt l 0 v (by omega) h
  · omega
  · omega
theorem formK_nat0 (k : Nat) : formK (k : Int) = formN k := by
  unfold formK
  split
  · rw [show k = 0 by omega]
  · rfl
section
variable {L F G : St} {w : World}
theorem opPutN (l : LibOk w) (hL : Ent L [Old w]) (o : Opn) (hv : o.v < 18446744073709551616) (hw : o.w < 18446744073709551616) (hm : mayO o = false) :
    Fx Tryd.prog 15 [.agg o.l.toArray] L (fun v L' => v = .tuple #[str [], .int .i64 10] ∧ L = L') := by
  have h := opPut (w := w) l hL o hv hw
  rw [hm] at h
  exact h
theorem opPutY (l : LibOk w) (hL : Ent L [Old w]) (o : Opn) (hv : o.v < 18446744073709551616) (hw : o.w < 18446744073709551616) (hm : mayO o = true) :
    Fx Tryd.prog 15 [.agg o.l.toArray] L (fun v L' => v = .tuple #[str (printO o), .int .i64 0] ∧ L = L') := by
  have h := opPut (w := w) l hL o hv hw
  rw [hm] at h
  exact h
theorem Has.rowAll {b E n cap : Nat} {xs : List Value} [t : Take L (some ⟨b, 0, none⟩) (Row E 1 n cap xs) F] : Has L b 0 xs := by
  refine Has.eqv (Has.row (t := t) (m := xs.length) (off := 0)) ?_
  rw [List.drop_zero, List.take_length]
theorem opGet (l : LibOk w) (hL : Ent L [Old w]) (s : List UInt8) (hs : s.length ≤ 1000) :
    Fx Tryd.prog 17 [str s] L (fun v L' => v = .tuple #[.agg (getO s).1.l.toArray, .int .i64 (getO s).2] ∧ L = L') := by
  have hmx : maxLen = 9223372036854775807 := rfl
  refine Fx.mk Tryd.func17 k17 (Nat.le_of_ble_eq_true rfl) ?_
  dsimp only [c17, envOf, Nat.reduceAdd]
  refine Cx.sq ?_
  refine Cx.rg ?_
  refine Sx.al fun g2 => ?_
  refine go ?_
  refine Sx.ca rfl (libSplit (w := w) l (Ent.trans (M := L) ent hL) s hs) ?_
  rintro v L' ⟨gw, rfl, rfl⟩
  refine go ?_
  refine Sx.al fun g4 => ?_
  refine go ?_
  refine Sx.al fun g5 => ?_
  refine Sx.st (b := g5) (vs := Opn.zero.l) rfl rfl rfl rfl rfl rfl ?_
  refine Sx.reb Opn.zero.l rfl ?_
  refine go ?_
  obtain ⟨x0, r0, hw0⟩ : ∃ x0 r0, words s = x0 :: r0 := by
    cases e : words s with
    | nil => exact absurd e (words_ne s)
    | cons x0 r0 => exact ⟨x0, r0, rfl⟩
  have hN : (words s).length ≤ 1001 := by have := words_len s; omega
  have hN1 : 1 ≤ (words s).length := by rw [hw0]; simp
  refine Cx.lp (α := {i : Nat // i ≤ 12}) (fun i => [(0, str s), (2, .pointer (some ⟨g2, 0, none⟩)), (4, .pointer (some ⟨g4, 0, none⟩)), (5, .pointer (some ⟨g5, 0, none⟩)), (6, .int .i64 ((i.1 : Int) + 1))])
    (fun i => pt (some ⟨g5, 0, none⟩) (Blk 24 [.int .i64 (kindTo x0 i.1), .int .i64 0, .int .i64 0, .int .i64 0, .int .u64 0, .int .u64 0]) :: pt (some ⟨g4, 0, none⟩) (Blk 49 [.slice (some ⟨gw, 0, none⟩) (words s).length (words s).length]) :: pt (some ⟨gw, 0, none⟩) (Row 9 1 (words s).length (words s).length ((words s).map str)) :: pt (some ⟨g2, 0, none⟩) (Blk 24 Opn.zero.l) :: L)
    (fun i => 12 - i.1) ⟨0, by omega⟩ (sub.cons rfl (sub.cons rfl (sub.cons rfl (sub.cons rfl (sub.cons rfl sub.nil))))) ent ?_
  rintro ⟨i, hi⟩
  dsimp only
  refine go ?_
  by_cases h12 : i = 12
  · refine Cx.cno rfl (decide_eq_false (by omega)) ?_
    refine go ?_
    have hk : kindTo x0 i = kindW s := by unfold kindW; rw [hw0, h12]; rfl
    rw [hk]
    have ht : (words s).tail = r0 := by rw [hw0]; rfl
    have p0 : Pos (words s) gw (words s).tail (some ⟨gw, 0 + skp (words s).length 1 1, none⟩) ((words s).length - 1) ((words s).length - 1) := by
      have pa := Pos.all (words s) gw
      rw [ht]
      exact Pos.next (x := x0) (by rw [← hw0]; exact pa)
    have s1 := short1 s
    have s2 := short2 s
    have s3 := short3 s
    have s4 := short4 s
    have sc := cut_len (nx1 s).1
    refine Sx.ca rfl (opForm (kindW s : Int)) ?_
    rintro v L' ⟨rfl, rfl⟩
    rw [show formK (kindW s : Int) = frmW s from formK_nat0 _]
    refine go ?_
    refine Sx.al fun g7 => ?_
    refine Sx.st (b := g7) (vs := (frmW s).l) rfl rfl rfl rfl rfl rfl ?_
    refine Sx.reb (frmW s).l rfl ?_
    refine go ?_
    refine Sx.pv rfl (by omega) ?_
    refine go ?_
    refine Sx.cl (p := []) (q := [.pointer (some ⟨g4, 0, none⟩)]) rfl (by kernel_rfl) rfl (opNext (ws := words s) _ p0 Has.rowAll) ?_
    rintro v L' ⟨a1, n1, c1, p1, rfl, rfl⟩
    rw [show nextW (!decide ((frmW s).of_ = 0)) (words s).tail = nx1 s from rfl] at p1 ⊢
    refine go ?_
    refine Sx.ca rfl (libCut (w := w) l (Ent.trans (M := L) ent hL) (nx1 s).1 (by omega)) ?_
    rintro v L' ⟨rfl, rfl⟩
    refine go ?_
    refine Sx.ca rfl (libAtoi (w := w) l (Ent.trans (M := L) ent hL) (cutDot (nx1 s).1).1 (by omega)) ?_
    rintro v L' ⟨⟨ev1, rfl⟩, rfl⟩
    refine go ?_
    refine Sx.ca rfl (libAtoi (w := w) l (Ent.trans (M := L) ent hL) (cutDot (nx1 s).1).2.1 (by omega)) ?_
    rintro v L' ⟨⟨ev2, rfl⟩, rfl⟩
    refine go ?_
    refine Sx.cl (p := []) (q := [.pointer (some ⟨g4, 0, none⟩)]) rfl (by kernel_rfl) rfl (opNext (ws := words s) (frmW s).n p1 Has.rowAll) ?_
    rintro v L' ⟨a2, n2, c2, p2, rfl, rfl⟩
    rw [show nextW (frmW s).n (nx1 s).2 = nx2 s from rfl] at p2 ⊢
    refine go ?_
    refine Sx.ca rfl (libAtoi (w := w) l (Ent.trans (M := L) ent hL) (nx2 s).1 (by omega)) ?_
    rintro v L' ⟨⟨ev3, rfl⟩, rfl⟩
    refine go ?_
    refine Sx.cl (p := []) (q := [.pointer (some ⟨g4, 0, none⟩)]) rfl (by kernel_rfl) rfl (opNext (ws := words s) (frmW s).v p2 Has.rowAll) ?_
    rintro v L' ⟨a3, n3, c3, p3, rfl, rfl⟩
    rw [show nextW (frmW s).v (nx2 s).2 = nx3 s from rfl] at p3 ⊢
    refine go ?_
    refine Sx.ca rfl (libUint (w := w) l (Ent.trans (M := L) ent hL) (nx3 s).1 (by omega)) ?_
    rintro v L' ⟨⟨ev4, rfl⟩, rfl⟩
    refine go ?_
    refine Sx.cl (p := []) (q := [.pointer (some ⟨g4, 0, none⟩)]) rfl (by kernel_rfl) rfl (opNext (ws := words s) (frmW s).w p3 Has.rowAll) ?_
    rintro v L' ⟨a4, n4, c4, p4, rfl, rfl⟩
    rw [show nextW (frmW s).w (nx3 s).2 = nx4 s from rfl] at p4 ⊢
    refine go ?_
    refine Sx.ca rfl (libUint (w := w) l (Ent.trans (M := L) ent hL) (nx4 s).1 (by omega)) ?_
    rintro v L' ⟨⟨ev5, rfl⟩, rfl⟩
    refine go ?_
    cases hm : mayO (parseO s) with
    | false =>
      skip
      have hg : getO s = (Opn.zero, 10) := by unfold getO; rw [if_neg (by rw [hm]; simp)]
      rw [hg]
      refine Sx.ca (vs := [.agg (parseO s).l.toArray]) rfl (opPutN (w := w) l (Ent.trans (M := L) ent hL) (parseO s) (uintV_lt _) (uintV_lt _) hm) ?_
      rintro v L' ⟨rfl, rfl⟩
      refine go ?_
      refine Sx.st (b := g2) (vs := Opn.zero.l) rfl rfl rfl rfl rfl rfl ?_
      refine Sx.reb Opn.zero.l rfl ?_
      refine go ?_
      exact Kr_ct (b := g2) (.inr rfl) rfl rfl rfl (L' := L) ent ⟨rfl, rfl⟩
    | true =>
      skip
      refine Sx.ca (vs := [.agg (parseO s).l.toArray]) rfl (opPutY (w := w) l (Ent.trans (M := L) ent hL) (parseO s) (uintV_lt _) (uintV_lt _) hm) ?_
      rintro v L' ⟨rfl, rfl⟩
      refine go ?_
      by_cases hp : printO (parseO s) = s
      · have hg : getO s = (parseO s, 0) := by unfold getO; rw [if_pos ⟨hm, hp⟩]
        rw [hg]
        refine Cx.cno rfl (by rw [show decide (printO (parseO s) = s) = true from decide_eq_true hp]; rfl) ?_
        refine go ?_
        refine Sx.st (b := g2) (vs := (parseO s).l) rfl rfl rfl rfl rfl rfl ?_
        refine Sx.reb (parseO s).l rfl ?_
        refine go ?_
        exact Kr_ct (b := g2) (.inr rfl) rfl rfl rfl (L' := L) ent ⟨rfl, rfl⟩
      · have hg : getO s = (Opn.zero, 10) := by unfold getO; rw [if_neg fun h => hp h.2]
        rw [hg]
        refine Cx.cyes rfl (by rw [show decide (printO (parseO s) = s) = false from decide_eq_false hp]; rfl) ?_
        refine go ?_
        refine Sx.st (b := g2) (vs := Opn.zero.l) rfl rfl rfl rfl rfl rfl ?_
        refine Sx.reb Opn.zero.l rfl ?_
        refine go ?_
        exact Kr_ct (b := g2) (.inr rfl) rfl rfl rfl (L' := L) ent ⟨rfl, rfl⟩
  · refine Cx.cyes rfl (decide_eq_true (by omega)) ?_
    refine go ?_
    refine Cx.ordc rfl (by kernel_rfl) ?_
    refine ge ?_
    refine Ev.cakH (by kernel_rfl) rfl rfl (opName ((i : Int) + 1)) ?_
    refine ge ?_
    refine Ev.ldrH (by kernel_rfl) rfl rfl (show ((words s).map str)[0 + (0 : Int).toNat * 1]? = some (str x0) by rw [hw0]; rfl) ?_
    refine ge ?_
    have hfk : formK ((i : Int) + 1) = formN (i + 1) := by unfold formK; rw [if_neg (by omega)]; congr 1
    rw [hfk]
    by_cases hx : (formN (i + 1)).name = x0
    · refine Cx.cyes rfl (decide_eq_true hx) ?_
      have hk : kindTo x0 (i + 1) = i + 1 := by unfold kindTo; rw [if_pos hx]
      refine go ?_
      rw [w64 (by omega) (by omega)]
      refine Klp.nm ⟨i + 1, by omega⟩ (sub.cons rfl (sub.cons rfl (sub.cons rfl (sub.cons rfl (sub.cons rfl sub.nil))))) ?_ (by dsimp only; omega)
      dsimp only
      rw [hk]
      exact ent
    · refine Cx.cno rfl (decide_eq_false hx) ?_
      have hk : kindTo x0 (i + 1) = kindTo x0 i := by unfold kindTo; rw [if_neg hx]; cases i <;> rfl
      refine go ?_
      rw [w64 (by omega) (by omega)]
      refine Klp.nm ⟨i + 1, by omega⟩ (sub.cons rfl (sub.cons rfl (sub.cons rfl (sub.cons rfl (sub.cons rfl sub.nil))))) ?_ (by dsimp only; omega)
      dsimp only
      rw [hk]
      exact ent
end
end Go.Proofs.YtlpikhdiiehcaaaDoor

/-
  Plain: an operation that may be is read back out of its text.
-/
set_option linter.unusedVariables false
set_option linter.unusedSimpArgs false
namespace Go.Proofs.YtlpikhdiiehcaaaDoor
open Go Go.RowKit
theorem words_app (x r : List UInt8) (h : 32 ∉ x) : words (x ++ 32 :: r) = x :: words r := by
  induction x with
  | nil => show words (32 :: r) = _; conv => lhs; unfold words
           rw [if_pos rfl]
  | cons c x ih =>
    have hc : ¬ c = 32 := fun e => h (by rw [e]; simp)
    have := ih (fun e => h (List.mem_cons_of_mem _ e))
    rw [List.cons_append]
    conv => lhs; unfold words
    rw [if_neg hc, this]
theorem words_one (x : List UInt8) (h : 32 ∉ x) : words x = [x] := by
  induction x with
  | nil => rfl
  | cons c x ih =>
    have hc : ¬ c = 32 := fun e => h (by rw [e]; simp)
    have := ih (fun e => h (List.mem_cons_of_mem _ e))
    conv => lhs; unfold words
    rw [if_neg hc, this]
theorem words_join : ∀ (ws : List (List UInt8)), ws ≠ [] → (∀ x ∈ ws, (32 : UInt8) ∉ x) → words (Lib.join ws [32]) = ws
  | [], h, _ => absurd rfl h
  | [x], _, h => by rw [Lib.join_one]; exact words_one x (h x (by simp))
  | x :: y :: r, _, h => by
    have ih := words_join (y :: r) (by simp) (fun z hz => h z (List.mem_cons_of_mem _ hz))
    have e : Lib.join (x :: y :: r) [32] = x ++ 32 :: Lib.join (y :: r) [32] := by
      rw [Lib.join_cons, Lib.join_cons]
      unfold Lib.joinTail
      simp
    rw [e, words_app x _ (h x (by simp)), ih]
theorem digit_toNat (n : Nat) : (UInt8.ofNat (48 + n % 10)).toNat = 48 + n % 10 := by
  rw [UInt8.toNat_ofNat']
  omega
theorem dec_digits (n : Nat) : ∀ b ∈ dec n, 48 ≤ b.toNat ∧ b.toNat ≤ 57 := by
  induction n using Nat.strongRecOn with
  | _ n ih =>
    intro b hb
    by_cases h : n < 10
    · rw [dec_small h] at hb
      simp only [List.mem_cons, List.not_mem_nil, or_false] at hb
      have := digit_toNat n
      rw [Nat.mod_eq_of_lt h] at this
      rw [hb, this]; omega
    · rw [dec_big h] at hb
      rcases List.mem_append.1 hb with hb | hb
      · exact ih (n / 10) (by omega) b hb
      · simp only [List.mem_cons, List.not_mem_nil, or_false] at hb
        rw [hb, digit_toNat]; omega
theorem dec_ne (n : Nat) : dec n ≠ [] := by
  by_cases h : n < 10
  · rw [dec_small h]; simp
  · rw [dec_big h]; simp
theorem dec_no (n : Nat) (c : UInt8) (hc : c.toNat < 48) : c ∉ dec n := fun h => by have := dec_digits n c h; omega
theorem uintM_snoc (M : Nat) (c : UInt8) : ∀ (l : List UInt8) (acc u : Nat), Lib.parseUintM M acc l = .ok u → Lib.parseUintM M acc (l ++ [c]) = Lib.parseUintM M u [c]
  | [], acc, u, h => by simp only [Lib.parseUintM] at h; cases h; rfl
  | b :: l, acc, u, h => by
    rw [List.cons_append]
    simp only [Lib.parseUintM] at h
    conv => lhs; unfold Lib.parseUintM
    split at h
    · rename_i hd
      rw [if_pos hd]
      split at h
      · cases h
      · rename_i h1
        rw [if_neg h1]
        split at h
        · cases h
        · rename_i h2
          rw [if_neg h2]
          exact uintM_snoc M c l _ u h
    · cases h
theorem uintM_dec (n : Nat) (h : n < 18446744073709551616) : Lib.parseUintM (2 ^ 64 - 1) 0 (dec n) = .ok n := by
  induction n using Nat.strongRecOn with
  | _ n ih =>
    have hd := digit_toNat n
    by_cases h1 : n < 10
    · rw [Nat.mod_eq_of_lt h1] at hd
      rw [dec_small h1]
      unfold Lib.parseUintM
      rw [hd, if_pos (by omega), if_neg (by omega), if_neg (by omega), show 0 * 10 + (48 + n - 48) = n by omega]
      rfl
    · rw [dec_big h1, uintM_snoc _ _ _ _ _ (ih (n / 10) (by omega) (by omega))]
      unfold Lib.parseUintM
      rw [hd, if_pos (by omega), if_neg (by omega), show n / 10 * 10 + (48 + n % 10 - 48) = n by omega, if_neg (by omega)]
      rfl
theorem uint10_M : ∀ (l : List UInt8) (acc u : Nat), Lib.parseUintM (2 ^ 64 - 1) acc l = .ok u → Lib.parseUint10 acc l = .ok u
  | [], acc, u, h => h
  | b :: l, acc, u, h => by
    simp only [Lib.parseUintM] at h
    unfold Lib.parseUint10
    split at h
    · rename_i hd
      rw [if_pos hd]
      split at h
      · cases h
      · rename_i h1
        rw [if_neg h1]
        split at h
        · cases h
        · rename_i h2
          rw [if_neg (by omega)]
          exact uint10_M l _ u h
    · cases h
theorem uintV_dec (n : Nat) (h : n < 18446744073709551616) : uintV (dec n) = n := by
  unfold uintV Lib.parseUintB
  rw [if_neg (dec_ne n), uintM_dec n h]
theorem atoiV_dec (n : Nat) (h : n < 9223372036854775808) : atoiV (dec n) = n := by
  have h1 := uint10_M _ _ _ (uintM_dec n (by omega))
  unfold atoiV Lib.atoiAll
  cases e : dec n with
  | nil => exact absurd e (dec_ne n)
  | cons c r =>
    have hc := dec_digits n c (by rw [e]; simp)
    have h2 : Lib.parseMag (dec n) = .ok n := by unfold Lib.parseMag; rw [if_neg (dec_ne n), h1]
    simp only
    rw [if_neg (by omega), ← e, h2]
    simp only
    rw [if_neg (by omega), if_neg (by omega), if_neg (by omega)]
theorem index_dot (x r : List UInt8) (h : 46 ∉ x) : Lib.index (x ++ 46 :: r) [46] = x.length := by
  induction x with
  | nil => show Lib.index (46 :: r) [46] = _; unfold Lib.index; simp [List.isPrefixOf]
  | cons c x ih =>
    have hc : ¬ c = 46 := fun e => h (by rw [e]; simp)
    have := ih (fun e => h (List.mem_cons_of_mem _ e))
    rw [List.cons_append]
    conv => lhs; unfold Lib.index
    have h0 : ([46].isPrefixOf (c :: (x ++ 46 :: r))) = false := by
      simp only [List.isPrefixOf, Bool.and_true, beq_eq_false_iff_ne, ne_eq]
      exact fun e => hc e.symm
    rw [h0, this]
    simp only [Bool.false_eq_true, if_false, List.length_cons]
    rw [if_neg (by simp)]
    push_cast
    rfl
theorem cutDot_at (x r : List UInt8) (h : 46 ∉ x) : cutDot (x ++ 46 :: r) = (x, r, true) := by
  unfold cutDot Lib.cut
  rw [index_dot x r h, if_pos (by omega), Int.toNat_natCast]
  simp only [List.length_cons, List.length_nil]
  rw [List.take_left' rfl, show x.length + (0 + 1) = (x ++ [46]).length by simp, show x ++ 46 :: r = (x ++ [46]) ++ r by simp, List.drop_left' rfl]
theorem nextW_at (b : Bool) (x : List UInt8) (r : List (List UInt8)) : nextW b ((if b then [x] else []) ++ r) = (if b then x else [], r) := by
  cases b with
  | false => rfl
  | true => rfl
theorem formN_name_no (k : Nat) : (32 : UInt8) ∉ (formN k).name := by
  by_cases h : 13 ≤ k
  · rw [formN_big h]; simp
  · rcases (show k = 0 ∨ k = 1 ∨ k = 2 ∨ k = 3 ∨ k = 4 ∨ k = 5 ∨ k = 6 ∨ k = 7 ∨ k = 8 ∨ k = 9 ∨ k = 10 ∨ k = 11 ∨ k = 12 by omega) with rfl | rfl | rfl | rfl | rfl | rfl | rfl | rfl | rfl | rfl | rfl | rfl | rfl <;> decide
theorem kindTo_name {k : Nat} (h1 : 1 ≤ k) (h2 : k ≤ 12) : kindTo (formN k).name 12 = k := by
  rcases (show k = 1 ∨ k = 2 ∨ k = 3 ∨ k = 4 ∨ k = 5 ∨ k = 6 ∨ k = 7 ∨ k = 8 ∨ k = 9 ∨ k = 10 ∨ k = 11 ∨ k = 12 by omega) with rfl | rfl | rfl | rfl | rfl | rfl | rfl | rfl | rfl | rfl | rfl | rfl <;> rfl
def partF (o : Opn) : List (List UInt8) := if hasF o then [dec o.from_.toNat ++ 46 :: dec o.at_.toNat] else []
theorem wsO_no (o : Opn) (h : MayS o) : ∀ x ∈ wsO o, (32 : UInt8) ∉ x := by
  have hd : ∀ n, (32 : UInt8) ∉ dec n := fun n => dec_no n 32 (by decide)
  have hdf : (32 : UInt8) ∉ dec o.from_.toNat ++ 46 :: dec o.at_.toNat := fun e => by
    rcases List.mem_append.1 e with e | e
    · exact hd _ e
    · rcases List.mem_cons.1 e with e | e
      · revert e; decide
      · exact hd _ e
  have hn : (32 : UInt8) ∉ (formK o.kind).name := by
    obtain ⟨k, _, e⟩ := formK_nat h.k.1
    rw [e]; exact formN_name_no k
  intro x hx
  unfold wsO wsV wsN wsF at hx
  simp only [List.mem_append, List.mem_cons] at hx
  rcases hx with (((hx | hx) | hx) | hx) | hx
  · rw [hx]; exact hn
  all_goals
    split at hx
    · simp only [List.mem_cons, List.not_mem_nil, or_false] at hx
      rw [hx]
      first | exact hdf | exact hd _
    · cases hx
theorem words_print (o : Opn) (h : MayS o) : words (printO o) = wsO o := by
  rw [← join_wsO o]
  exact words_join _ (by unfold wsO wsV wsN wsF; simp) (wsO_no o h)
theorem wsO_cons (o : Opn) : wsO o = (formK o.kind).name :: (partF o ++ ((if (formK o.kind).n then [dec o.n.toNat] else []) ++ ((if (formK o.kind).v then [dec o.v] else []) ++ ((if (formK o.kind).w then [dec o.w] else []) ++ [])))) := by
  unfold wsO wsV wsN wsF partF
  simp
theorem parse_print (o : Opn) (h : MayS o) (hv : o.v < 18446744073709551616) (hw : o.w < 18446744073709551616) : parseO (printO o) = o := by
  obtain ⟨k, hk, ek⟩ := formK_nat h.k.1
  have hk2 := h.k
  have hws := words_print o h
  have hwc := wsO_cons o
  have e0 : kindW (printO o) = k := by
    unfold kindW
    rw [hws, hwc, List.headD_cons, ek]
    exact kindTo_name (by omega) (by omega)
  have ef : frmW (printO o) = formK o.kind := by unfold frmW; rw [e0, ek]
  have hF : hasF o = !decide ((formK o.kind).of_ = 0) := by unfold hasF; simp
  have n1 : nx1 (printO o) = (if hasF o then dec o.from_.toNat ++ 46 :: dec o.at_.toNat else [], ((if (formK o.kind).n then [dec o.n.toNat] else []) ++ ((if (formK o.kind).v then [dec o.v] else []) ++ ((if (formK o.kind).w then [dec o.w] else []) ++ [])))) := by
    unfold nx1
    rw [ef, hws, hwc, List.tail_cons, ← hF]
    exact nextW_at (hasF o) _ _
  have n2 : nx2 (printO o) = (if (formK o.kind).n then dec o.n.toNat else [], ((if (formK o.kind).v then [dec o.v] else []) ++ ((if (formK o.kind).w then [dec o.w] else []) ++ []))) := by
    unfold nx2
    rw [ef, n1]
    exact nextW_at _ _ _
  have n3 : nx3 (printO o) = (if (formK o.kind).v then dec o.v else [], ((if (formK o.kind).w then [dec o.w] else []) ++ [])) := by
    unfold nx3
    rw [ef, n2]
    exact nextW_at _ _ _
  have n4 : nx4 (printO o) = (if (formK o.kind).w then dec o.w else [], []) := by
    unfold nx4
    rw [ef, n3]
    exact nextW_at _ _ _
  have bF := mostF_le o
  have bA := mostA_le o
  have bN := mostN_le o
  have hf := h.f
  have ha := h.a
  have hn := h.n
  unfold parseO
  rw [e0, n1, n2, n3, n4]
  have c1 : (k : Int) = o.kind := hk.symm
  have c2 : atoiV (cutDot (if hasF o then dec o.from_.toNat ++ 46 :: dec o.at_.toNat else [])).1 = o.from_ := by
    cases e : hasF o with
    | true =>
      simp only [if_true]
      rw [cutDot_at _ _ (dec_no _ 46 (by decide)), atoiV_dec _ (by omega)]
      omega
    | false =>
      have : (formK o.kind).of_ = 0 := by rw [hF] at e; simpa using e
      have : mostF o = 0 := by unfold mostF; rw [if_neg (by simp [this])]
      show (0 : Int) = _
      omega
  have c3 : atoiV (cutDot (if hasF o then dec o.from_.toNat ++ 46 :: dec o.at_.toNat else [])).2.1 = o.at_ := by
    cases e : hasF o with
    | true =>
      simp only [if_true]
      rw [cutDot_at _ _ (dec_no _ 46 (by decide)), atoiV_dec _ (by omega)]
      omega
    | false =>
      have : (formK o.kind).of_ = 0 := by rw [hF] at e; simpa using e
      have : mostA o = 0 := by unfold mostA; rw [if_neg (by simp [this])]
      show (0 : Int) = _
      omega
  have c4 : atoiV (if (formK o.kind).n then dec o.n.toNat else []) = o.n := by
    cases e : (formK o.kind).n with
    | true =>
      simp only [if_true]
      rw [atoiV_dec _ (by omega)]
      omega
    | false =>
      have : mostN o = 0 := by
        unfold mostN
        split
        · rename_i h1; rw [h1] at e; revert e; decide
        · rw [e]; rfl
      show (0 : Int) = _
      omega
  have c5 : uintV (if (formK o.kind).v then dec o.v else []) = o.v := by
    cases e : (formK o.kind).v with
    | true => simp only [if_true]; exact uintV_dec _ hv
    | false => have := h.v e; rw [this]; rfl
  have c6 : uintV (if (formK o.kind).w then dec o.w else []) = o.w := by
    cases e : (formK o.kind).w with
    | true => simp only [if_true]; exact uintV_dec _ hw
    | false => have := h.w e; rw [this]; rfl
  simp only [c1, c2, c3, c4, c5, c6]
theorem getO_print {o : Opn} (h : mayO o = true) (hv : o.v < 18446744073709551616) (hw : o.w < 18446744073709551616) : getO (printO o) = (o, 0) := by
  unfold getO
  rw [parse_print o (mayS h) hv hw, if_pos ⟨h, rfl⟩]
end Go.Proofs.YtlpikhdiiehcaaaDoor

/-
  The laws of layer 18: first, OpSays.
-/
set_option linter.unusedVariables false
set_option linter.unusedSimpArgs false
namespace Go.Proofs.YtlpikhdiiehcaaaDoor
open Go Go.RowKit
attribute [local irreducible] Sx Cx Rx Fx Krg Ksq Kbl Klp Kr
def o77 : Opn := ⟨7, 0, 1, 3, 77, 0⟩
theorem may77 : mayO o77 = true := by decide
theorem print77 : printO o77 = [115, 116, 111, 114, 101, 32, 48, 46, 49, 32, 51, 32, 55, 55] := by
  have e77 : dec 77 = [55, 55] := by rw [dec_big (by omega), dec_small (by omega)]; rfl
  have e0 : dec 0 = [48] := by rw [dec_small (by omega)]; rfl
  have e1 : dec 1 = [49] := by rw [dec_small (by omega)]; rfl
  have e3 : dec 3 = [51] := by rw [dec_small (by omega)]; rfl
  show ([115, 116, 111, 114, 101] ++ (32 :: (dec 0 ++ 46 :: dec 1))) ++ (32 :: dec 3) ++ (32 :: dec 77) ++ [] = _
  rw [e77, e0, e1, e3]
  rfl
section
variable {L F G : St} {w : World}
theorem opFirst (l : LibOk w) (hL : Ent L [Old w]) : Fx Tryd.prog 8 [] L (fun v L' => v = .bool true ∧ L = L') := by
  have hg : getO (printO o77) = (o77, 0) := getO_print may77 (by decide) (by decide)
  refine Fx.mk Tryd.func8 k8 (Nat.le_of_ble_eq_true rfl) ?_
  dsimp only [c8, envOf, Nat.reduceAdd]
  refine go ?_
  refine Sx.al fun g1 => ?_
  refine Sx.st (b := g1) (vs := o77.l) rfl rfl rfl rfl rfl rfl ?_
  refine Sx.reb o77.l rfl ?_
  refine go ?_
  refine Sx.ca (vs := [.agg o77.l.toArray]) rfl (opPutY (w := w) l (Ent.trans (M := L) ent hL) o77 (by decide) (by decide) may77) ?_
  rintro v L' ⟨rfl, rfl⟩
  refine go ?_
  refine Sx.ca rfl (opGet (w := w) l (Ent.trans (M := L) ent hL) (printO o77) (by rw [print77]; decide)) ?_
  rintro v L' ⟨rfl, rfl⟩
  rw [hg]
  refine go ?_
  refine Sx.al fun g4 => ?_
  refine Sx.st (b := g4) (vs := o77.l) rfl rfl rfl rfl rfl rfl ?_
  refine Sx.reb o77.l rfl ?_
  refine go ?_
  refine Sx.gyes rfl (decide_eq_true print77) ?_
  refine go ?_
  refine Sx.ca (vs := [.agg o77.l.toArray]) rfl (opMay o77) ?_
  rintro v L' ⟨rfl, rfl⟩
  rw [may77]
  refine go ?_
  refine Sx.ca rfl (opOf 5) ?_
  rintro v L' ⟨rfl, rfl⟩
  refine go ?_
  exact Kr.one (.inr rfl) rfl (L' := L) ent ⟨rfl, rfl⟩
theorem opSays (l : LibOk w) (hL : Ent L [Old w]) (o : Opn) (hv : o.v < 18446744073709551616) (hw : o.w < 18446744073709551616) :
    Fx Tryd.prog 3 [.agg o.l.toArray] L (fun v L' => v = .bool true ∧ L = L') := by
  refine Fx.mk Tryd.func3 k3 (Nat.le_of_ble_eq_true rfl) ?_
  dsimp only [c3, envOf, Nat.reduceAdd]
  refine Cx.sq ?_
  refine Cx.rg ?_
  refine Sx.bx (vs := o.l) rfl rfl fun g => ?_
  refine go ?_
  refine Sx.ca rfl (opFirst (w := w) l (Ent.trans (M := L) ent hL)) ?_
  rintro v L' ⟨rfl, rfl⟩
  refine go ?_
  refine Sx.ca (vs := [.agg o.l.toArray]) rfl (ref18May o) ?_
  rintro v L' ⟨rfl, rfl⟩
  refine go ?_
  refine Cx.ordc rfl (by kernel_rfl) ?_
  refine ge ?_
  refine Ev.cakH (vs := [.agg o.l.toArray]) (by kernel_rfl) rfl rfl (opMay o) ?_
  refine ge ?_
  refine Ev.no 16 rfl (by cases mayO o <;> rfl) ?_
  refine ge ?_
  refine Ev.cakH (vs := [.int .i64 o.kind]) (by kernel_rfl) rfl rfl (opOf o.kind) ?_
  refine ge ?_
  refine Ev.cakH (vs := [.int .i64 o.kind]) (by kernel_rfl) rfl rfl (ref18Of o.kind) ?_
  refine ge ?_
  refine Ev.no 25 rfl (by simp) ?_
  refine ge ?_
  refine Ev.cakH (vs := [.int .i64 o.kind]) (by kernel_rfl) rfl rfl (opName o.kind) ?_
  refine ge ?_
  refine Ev.cakH (vs := [.int .i64 o.kind]) (by kernel_rfl) rfl rfl (ref18Name o.kind) ?_
  refine ge ?_
  refine Cx.cno rfl (by simp) ?_
  refine go ?_
  cases hm : mayO o with
  | false =>
    refine Sx.ca (vs := [.agg o.l.toArray]) rfl (opPutN (w := w) l (Ent.trans (M := L) ent hL) o hv hw hm) ?_
    rintro v L' ⟨rfl, rfl⟩
    refine go ?_
    exact Kr.one (.inr rfl) rfl (L' := L) ent ⟨rfl, rfl⟩
  | true =>
    refine Sx.ca (vs := [.agg o.l.toArray]) rfl (opPutY (w := w) l (Ent.trans (M := L) ent hL) o hv hw hm) ?_
    rintro v L' ⟨rfl, rfl⟩
    refine go ?_
    refine Sx.ca (vs := [.agg o.l.toArray]) rfl (ref18Put o (mayS hm) hv hw) ?_
    rintro v L' ⟨rfl, rfl⟩
    refine go ?_
    refine Sx.gyes rfl (by simp) ?_
    refine go ?_
    exact Kr.one (.inr rfl) rfl (L' := L) ent ⟨rfl, rfl⟩
end
end Go.Proofs.YtlpikhdiiehcaaaDoor
