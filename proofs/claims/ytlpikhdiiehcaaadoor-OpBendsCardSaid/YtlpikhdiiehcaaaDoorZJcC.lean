/-
  Parts of the proof, merged: what the statement leans on.
-/
import Derived.Test.YtlpikhdiiehcaaaDoorZJcB
/-
  Plain: an operation that may be is read back out of its text.
-/
set_option linter.unusedVariables false
set_option linter.unusedSimpArgs false
namespace Go.Proofs.YtlpikhdiiehcaaaDoor
open Go Go.RowKit
theorem words_app (x r : List UInt8) (h : 32 ∉ x) : words (x ++ 32 :: r) = x :: words r := by
  induction x with
  | nil => show words (32 :: r) = _; conv => lhs; unfold words
           rw [if_pos rfl]
  | cons c x ih =>
    have hc : ¬ c = 32 := fun e => h (by rw [e]; simp)
    have := ih (fun e => h (List.mem_cons_of_mem _ e))
    rw [List.cons_append]
    conv => lhs; unfold words
    rw [if_neg hc, this]
theorem words_one (x : List UInt8) (h : 32 ∉ x) : words x = [x] := by
  induction x with
  | nil => rfl
  | cons c x ih =>
    have hc : ¬ c = 32 := fun e => h (by rw [e]; simp)
    have := ih (fun e => h (List.mem_cons_of_mem _ e))
    conv => lhs; unfold words
    rw [if_neg hc, this]
theorem words_join : ∀ (ws : List (List UInt8)), ws ≠ [] → (∀ x ∈ ws, (32 : UInt8) ∉ x) → words (Lib.join ws [32]) = ws
  | [], h, _ => absurd rfl h
  | [x], _, h => by rw [Lib.join_one]; exact words_one x (h x (by simp))
  | x :: y :: r, _, h => by
    have ih := words_join (y :: r) (by simp) (fun z hz => h z (List.mem_cons_of_mem _ hz))
    have e : Lib.join (x :: y :: r) [32] = x ++ 32 :: Lib.join (y :: r) [32] := by
      rw [Lib.join_cons, Lib.join_cons]
      unfold Lib.joinTail
      simp
    rw [e, words_app x _ (h x (by simp)), ih]
theorem digit_toNat (n : Nat) : (UInt8.ofNat (48 + n % 10)).toNat = 48 + n % 10 := by
  rw [UInt8.toNat_ofNat']
  omega
theorem dec_digits (n : Nat) : ∀ b ∈ dec n, 48 ≤ b.toNat ∧ b.toNat ≤ 57 := by
  induction n using Nat.strongRecOn with
  | _ n ih =>
    intro b hb
    by_cases h : n < 10
    · rw [dec_small h] at hb
      simp only [List.mem_cons, List.not_mem_nil, or_false] at hb
      have := digit_toNat n
      rw [Nat.mod_eq_of_lt h] at this
      rw [hb, this]; omega
    · rw [dec_big h] at hb
      rcases List.mem_append.1 hb with hb | hb
      · exact ih (n / 10) (by omega) b hb
      · simp only [List.mem_cons, List.not_mem_nil, or_false] at hb
        rw [hb, digit_toNat]; omega
theorem dec_ne (n : Nat) : dec n ≠ [] := by
  by_cases h : n < 10
  · rw [dec_small h]; simp
  · rw [dec_big h]; simp
theorem dec_no (n : Nat) (c : UInt8) (hc : c.toNat < 48) : c ∉ dec n := fun h => by have := dec_digits n c h; omega
theorem uintM_snoc (M : Nat) (c : UInt8) : ∀ (l : List UInt8) (acc u : Nat), Lib.parseUintM M acc l = .ok u → Lib.parseUintM M acc (l ++ [c]) = Lib.parseUintM M u [c]
  | [], acc, u, h => by simp only [Lib.parseUintM] at h; cases h; rfl
  | b :: l, acc, u, h => by
    rw [List.cons_append]
    simp only [Lib.parseUintM] at h
    conv => lhs; unfold Lib.parseUintM
    split at h
    · rename_i hd
      rw [if_pos hd]
      split at h
      · cases h
      · rename_i h1
        rw [if_neg h1]
        split at h
        · cases h
        · rename_i h2
          rw [if_neg h2]
          exact uintM_snoc M c l _ u h
    · cases h
theorem uintM_dec (n : Nat) (h : n < 18446744073709551616) : Lib.parseUintM (2 ^ 64 - 1) 0 (dec n) = .ok n := by
  induction n using Nat.strongRecOn with
  | _ n ih =>
    have hd := digit_toNat n
    by_cases h1 : n < 10
    · rw [Nat.mod_eq_of_lt h1] at hd
      rw [dec_small h1]
      unfold Lib.parseUintM
      rw [hd, if_pos (by omega), if_neg (by omega), if_neg (by omega), show 0 * 10 + (48 + n - 48) = n by omega]
      rfl
    · rw [dec_big h1, uintM_snoc _ _ _ _ _ (ih (n / 10) (by omega) (by omega))]
      unfold Lib.parseUintM
      rw [hd, if_pos (by omega), if_neg (by omega), show n / 10 * 10 + (48 + n % 10 - 48) = n by omega, if_neg (by omega)]
      rfl
theorem uint10_M : ∀ (l : List UInt8) (acc u : Nat), Lib.parseUintM (2 ^ 64 - 1) acc l = .ok u → Lib.parseUint10 acc l = .ok u
  | [], acc, u, h => h
  | b :: l, acc, u, h => by
    simp only [Lib.parseUintM] at h
    unfold Lib.parseUint10
    split at h
    · rename_i hd
      rw [if_pos hd]
      split at h
      · cases h
      · rename_i h1
        rw [if_neg h1]
        split at h
        · cases h
        · rename_i h2
          rw [if_neg (by omega)]
          exact uint10_M l _ u h
    · cases h
theorem uintV_dec (n : Nat) (h : n < 18446744073709551616) : uintV (dec n) = n := by
  unfold uintV Lib.parseUintB
  rw [if_neg (dec_ne n), uintM_dec n h]
theorem atoiV_dec (n : Nat) (h : n < 9223372036854775808) : atoiV (dec n) = n := by
  have h1 := uint10_M _ _ _ (uintM_dec n (by omega))
  unfold atoiV Lib.atoiAll
  cases e : dec n with
  | nil => exact absurd e (dec_ne n)
  | cons c r =>
    have hc := dec_digits n c (by rw [e]; simp)
    have h2 : Lib.parseMag (dec n) = .ok n := by unfold Lib.parseMag; rw [if_neg (dec_ne n), h1]
    simp only
    rw [if_neg (by omega), ← e, h2]
    simp only
    rw [if_neg (by omega), if_neg (by omega), if_neg (by omega)]
theorem index_dot (x r : List UInt8) (h : 46 ∉ x) : Lib.index (x ++ 46 :: r) [46] = x.length := by
  induction x with
  | nil => show Lib.index (46 :: r) [46] = _; unfold Lib.index; simp [List.isPrefixOf]
  | cons c x ih =>
    have hc : ¬ c = 46 := fun e => h (by rw [e]; simp)
    have := ih (fun e => h (List.mem_cons_of_mem _ e))
    rw [List.cons_append]
    conv => lhs; unfold Lib.index
    have h0 : ([46].isPrefixOf (c :: (x ++ 46 :: r))) = false := by
      simp only [List.isPrefixOf, Bool.and_true, beq_eq_false_iff_ne, ne_eq]
      exact fun e => hc e.symm
    rw [h0, this]
    simp only [Bool.false_eq_true, if_false, List.length_cons]
    rw [if_neg (by simp)]
    push_cast
    rfl
theorem cutDot_at (x r : List UInt8) (h : 46 ∉ x) : cutDot (x ++ 46 :: r) = (x, r, true) := by
  unfold cutDot Lib.cut
  rw [index_dot x r h, if_pos (by omega), Int.toNat_natCast]
  simp only [List.length_cons, List.length_nil]
  rw [List.take_left' rfl, show x.length + (0 + 1) = (x ++ [46]).length by simp, show x ++ 46 :: r = (x ++ [46]) ++ r by simp, List.drop_left' rfl]
theorem nextW_at (b : Bool) (x : List UInt8) (r : List (List UInt8)) : nextW b ((if b then [x] else []) ++ r) = (if b then x else [], r) := by
  cases b with
  | false => rfl
  | true => rfl
theorem formN_name_no (k : Nat) : (32 : UInt8) ∉ (formN k).name := by
  by_cases h : 13 ≤ k
  · rw [formN_big h]; simp
  · rcases (show k = 0 ∨ k = 1 ∨ k = 2 ∨ k = 3 ∨ k = 4 ∨ k = 5 ∨ k = 6 ∨ k = 7 ∨ k = 8 ∨ k = 9 ∨ k = 10 ∨ k = 11 ∨ k = 12 by omega) with rfl | rfl | rfl | rfl | rfl | rfl | rfl | rfl | rfl | rfl | rfl | rfl | rfl <;> decide
theorem kindTo_name {k : Nat} (h1 : 1 ≤ k) (h2 : k ≤ 12) : kindTo (formN k).name 12 = k := by
  rcases (show k = 1 ∨ k = 2 ∨ k = 3 ∨ k = 4 ∨ k = 5 ∨ k = 6 ∨ k = 7 ∨ k = 8 ∨ k = 9 ∨ k = 10 ∨ k = 11 ∨ k = 12 by omega) with rfl | rfl | rfl | rfl | rfl | rfl | rfl | rfl | rfl | rfl | rfl | rfl <;> rfl
def partF (o : Opn) : List (List UInt8) := if hasF o then [dec o.from_.toNat ++ 46 :: dec o.at_.toNat] else []
theorem wsO_no (o : Opn) (h : MayS o) : ∀ x ∈ wsO o, (32 : UInt8) ∉ x := by
  have hd : ∀ n, (32 : UInt8) ∉ dec n := fun n => dec_no n 32 (by decide)
  have hdf : (32 : UInt8) ∉ dec o.from_.toNat ++ 46 :: dec o.at_.toNat := fun e => by
    rcases List.mem_append.1 e with e | e
    · exact hd _ e
    · rcases List.mem_cons.1 e with e | e
      · revert e; decide
      · exact hd _ e
  have hn : (32 : UInt8) ∉ (formK o.kind).name := by
    obtain ⟨k, _, e⟩ := formK_nat h.k.1
    rw [e]; exact formN_name_no k
  intro x hx
  unfold wsO wsV wsN wsF at hx
  simp only [List.mem_append, List.mem_cons] at hx
  rcases hx with (((hx | hx) | hx) | hx) | hx
  · rw [hx]; exact hn
  all_goals
    split at hx
    · simp only [List.mem_cons, List.not_mem_nil, or_false] at hx
      rw [hx]
      first | exact hdf | exact hd _
    · cases hx
theorem words_print (o : Opn) (h : MayS o) : words (printO o) = wsO o := by
  rw [← join_wsO o]
  exact words_join _ (by unfold wsO wsV wsN wsF; simp) (wsO_no o h)
theorem wsO_cons (o : Opn) : wsO o = (formK o.kind).name :: (partF o ++ ((if (formK o.kind).n then [dec o.n.toNat] else []) ++ ((if (formK o.kind).v then [dec o.v] else []) ++ ((if (formK o.kind).w then [dec o.w] else []) ++ [])))) := by
  unfold wsO wsV wsN wsF partF
  simp
theorem parse_print (o : Opn) (h : MayS o) (hv : o.v < 18446744073709551616) (hw : o.w < 18446744073709551616) : parseO (printO o) = o := by
  obtain ⟨k, hk, ek⟩ := formK_nat h.k.1
  have hk2 := h.k
  have hws := words_print o h
  have hwc := wsO_cons o
  have e0 : kindW (printO o) = k := by
    unfold kindW
    rw [hws, hwc, List.headD_cons, ek]
    exact kindTo_name (by omega) (by omega)
  have ef : frmW (printO o) = formK o.kind := by unfold frmW; rw [e0, ek]
  have hF : hasF o = !decide ((formK o.kind).of_ = 0) := by unfold hasF; simp
  have n1 : nx1 (printO o) = (if hasF o then dec o.from_.toNat ++ 46 :: dec o.at_.toNat else [], ((if (formK o.kind).n then [dec o.n.toNat] else []) ++ ((if (formK o.kind).v then [dec o.v] else []) ++ ((if (formK o.kind).w then [dec o.w] else []) ++ [])))) := by
    unfold nx1
    rw [ef, hws, hwc, List.tail_cons, ← hF]
    exact nextW_at (hasF o) _ _
  have n2 : nx2 (printO o) = (if (formK o.kind).n then dec o.n.toNat else [], ((if (formK o.kind).v then [dec o.v] else []) ++ ((if (formK o.kind).w then [dec o.w] else []) ++ []))) := by
    unfold nx2
    rw [ef, n1]
    exact nextW_at _ _ _
  have n3 : nx3 (printO o) = (if (formK o.kind).v then dec o.v else [], ((if (formK o.kind).w then [dec o.w] else []) ++ [])) := by
    unfold nx3
    rw [ef, n2]
    exact nextW_at _ _ _
  have n4 : nx4 (printO o) = (if (formK o.kind).w then dec o.w else [], []) := by
    unfold nx4
    rw [ef, n3]
    exact nextW_at _ _ _
  have bF := mostF_le o
  have bA := mostA_le o
  have bN := mostN_le o
  have hf := h.f
  have ha := h.a
  have hn := h.n
  unfold parseO
  rw [e0, n1, n2, n3, n4]
  have c1 : (k : Int) = o.kind := hk.symm
  have c2 : atoiV (cutDot (if hasF o then dec o.from_.toNat ++ 46 :: dec o.at_.toNat else [])).1 = o.from_ := by
    cases e : hasF o with
    | true =>
      simp only [if_true]
      rw [cutDot_at _ _ (dec_no _ 46 (by decide)), atoiV_dec _ (by omega)]
      omega
    | false =>
      have : (formK o.kind).of_ = 0 := by rw [hF] at e; simpa using e
      have : mostF o = 0 := by unfold mostF; rw [if_neg (by simp [this])]
      show (0 : Int) = _
      omega
  have c3 : atoiV (cutDot (if hasF o then dec o.from_.toNat ++ 46 :: dec o.at_.toNat else [])).2.1 = o.at_ := by
    cases e : hasF o with
    | true =>
      simp only [if_true]
      rw [cutDot_at _ _ (dec_no _ 46 (by decide)), atoiV_dec _ (by omega)]
      omega
    | false =>
      have : (formK o.kind).of_ = 0 := by rw [hF] at e; simpa using e
      have : mostA o = 0 := by unfold mostA; rw [if_neg (by simp [this])]
      show (0 : Int) = _
      omega
  have c4 : atoiV (if (formK o.kind).n then dec o.n.toNat else []) = o.n := by
    cases e : (formK o.kind).n with
    | true =>
      simp only [if_true]
      rw [atoiV_dec _ (by omega)]
      omega
    | false =>
      have : mostN o = 0 := by
        unfold mostN
        split
        · rename_i h1; rw [h1] at e; revert e; decide
        · rw [e]; rfl
      show (0 : Int) = _
      omega
  have c5 : uintV (if (formK o.kind).v then dec o.v else []) = o.v := by
    cases e : (formK o.kind).v with
    | true => simp only [if_true]; exact uintV_dec _ hv
    | false => have := h.v e; rw [this]; rfl
  have c6 : uintV (if (formK o.kind).w then dec o.w else []) = o.w := by
    cases e : (formK o.kind).w with
    | true => simp only [if_true]; exact uintV_dec _ hw
    | false => have := h.w e; rw [this]; rfl
  simp only [c1, c2, c3, c4, c5, c6]
theorem getO_print {o : Opn} (h : mayO o = true) (hv : o.v < 18446744073709551616) (hw : o.w < 18446744073709551616) : getO (printO o) = (o, 0) := by
  unfold getO
  rw [parse_print o (mayS h) hv hw, if_pos ⟨h, rfl⟩]
theorem getO_back {s : List UInt8} (h : (getO s).2 = 0) : mayO (getO s).1 = true ∧ printO (getO s).1 = s := by
  unfold getO at h ⊢
  split
  · rename_i h1; exact h1
  · rename_i h1; rw [if_neg h1] at h; cases h
theorem getO_none {s : List UInt8} (h : ¬ (getO s).2 = 0) : getO s = (Opn.zero, 10) := by
  unfold getO at h ⊢
  split
  · rename_i h1; rw [if_pos h1] at h; exact absurd rfl h
  · rfl
end Go.Proofs.YtlpikhdiiehcaaaDoor

/-
  The laws of layer 18: first, OpSays.
-/
set_option linter.unusedVariables false
set_option linter.unusedSimpArgs false
namespace Go.Proofs.YtlpikhdiiehcaaaDoor
open Go Go.RowKit
attribute [local irreducible] Sx Cx Rx Fx Krg Ksq Kbl Klp Kr
def o77 : Opn := ⟨7, 0, 1, 3, 77, 0⟩
theorem may77 : mayO o77 = true := by decide
theorem print77 : printO o77 = [115, 116, 111, 114, 101, 32, 48, 46, 49, 32, 51, 32, 55, 55] := by
  have e77 : dec 77 = [55, 55] := by rw [dec_big (by omega), dec_small (by omega)]; rfl
  have e0 : dec 0 = [48] := by rw [dec_small (by omega)]; rfl
  have e1 : dec 1 = [49] := by rw [dec_small (by omega)]; rfl
  have e3 : dec 3 = [51] := by rw [dec_small (by omega)]; rfl
  show ([115, 116, 111, 114, 101] ++ (32 :: (dec 0 ++ 46 :: dec 1))) ++ (32 :: dec 3) ++ (32 :: dec 77) ++ [] = _
  rw [e77, e0, e1, e3]
  rfl
section
variable {L F G : St} {w : World}
theorem opFirst (l : LibOk w) (hL : Ent L [Old w]) : Fx Tryd.prog 8 [] L (fun v L' => v = .bool true ∧ L = L') := by
  have hg : getO (printO o77) = (o77, 0) := getO_print may77 (by decide) (by decide)
  refine Fx.mk Tryd.func8 k8 (Nat.le_of_ble_eq_true rfl) ?_
  dsimp only [c8, envOf, Nat.reduceAdd]
  refine go ?_
  refine Sx.al fun g1 => ?_
  refine Sx.st (b := g1) (vs := o77.l) rfl rfl rfl rfl rfl rfl ?_
  refine Sx.reb o77.l rfl ?_
  refine go ?_
  refine Sx.ca (vs := [.agg o77.l.toArray]) rfl (opPutY (w := w) l (Ent.trans (M := L) ent hL) o77 (by decide) (by decide) may77) ?_
  rintro v L' ⟨rfl, rfl⟩
  refine go ?_
  refine Sx.ca rfl (opGet (w := w) l (Ent.trans (M := L) ent hL) (printO o77) (by rw [print77]; decide)) ?_
  rintro v L' ⟨rfl, rfl⟩
  rw [hg]
  refine go ?_
  refine Sx.al fun g4 => ?_
  refine Sx.st (b := g4) (vs := o77.l) rfl rfl rfl rfl rfl rfl ?_
  refine Sx.reb o77.l rfl ?_
  refine go ?_
  refine Sx.gyes rfl (decide_eq_true print77) ?_
  refine go ?_
  refine Sx.ca (vs := [.agg o77.l.toArray]) rfl (opMay o77) ?_
  rintro v L' ⟨rfl, rfl⟩
  rw [may77]
  refine go ?_
  refine Sx.ca rfl (opOf 5) ?_
  rintro v L' ⟨rfl, rfl⟩
  refine go ?_
  exact Kr.one (.inr rfl) rfl (L' := L) ent ⟨rfl, rfl⟩
end
end Go.Proofs.YtlpikhdiiehcaaaDoor

/-
  The laws of layer 18: cut, OpBack.
-/
set_option linter.unusedVariables false
set_option linter.unusedSimpArgs false
namespace Go.Proofs.YtlpikhdiiehcaaaDoor
open Go Go.RowKit
attribute [local irreducible] Sx Cx Rx Fx Krg Ksq Kbl Klp Kr
def cutK (o : Opn) : Int := 1 + o.kind % 12
def cutMost (k : Int) : Int := if k = 1 then 4 else if (formK k).n then 65536 else 1
def cutO (o : Opn) : Opn := ⟨cutK o, if (formK (cutK o)).of_ = 0 then 0 else o.from_ % 64, if (formK (cutK o)).of_ = 0 then 0 else o.at_ % 1000, o.n % cutMost (cutK o), if (formK (cutK o)).v then o.v else 0, if cutK o = 9 then o.w else 0⟩
theorem cutK_in (o : Opn) : 1 ≤ cutK o ∧ cutK o ≤ 12 := by unfold cutK; omega
theorem cutMost_in (k : Int) : 0 < cutMost k ∧ cutMost k ≤ 65536 := by unfold cutMost; (repeat' split) <;> omega
theorem cutO_may (o : Opn) : mayO (cutO o) = true := by
  have hk := cutK_in o
  apply MayS.may
  have hm := cutMost_in (cutK o)
  have h2 := Int.emod_nonneg o.n (show cutMost (cutK o) ≠ 0 by omega)
  have h3 := Int.emod_lt_of_pos o.n hm.1
  refine ⟨hk, ?_, ?_, ?_, ?_, ?_⟩
  · show 0 ≤ (if (formK (cutK o)).of_ = 0 then 0 else o.from_ % 64) ∧ _ ≤ (if (formK (cutK o)).of_ ≠ 0 then 63 else 0)
    by_cases h : (formK (cutK o)).of_ = 0
    · simp only [h]; simp [cutO, h]
    · simp only [cutO, h, ne_eq, not_false_eq_true, if_true, if_false]; omega
  · show 0 ≤ (if (formK (cutK o)).of_ = 0 then 0 else o.at_ % 1000) ∧ _ ≤ (if (formK (cutK o)).of_ ≠ 0 then 999 else 0)
    by_cases h : (formK (cutK o)).of_ = 0
    · simp only [h]; simp [cutO, h]
    · simp only [cutO, h, ne_eq, not_false_eq_true, if_true, if_false]; omega
  · show 0 ≤ o.n % cutMost (cutK o) ∧ o.n % cutMost (cutK o) ≤ (if cutK o = 1 then 3 else if (formK (cutK o)).n then 65535 else 0)
    refine ⟨h2, ?_⟩
    unfold cutMost at h3 ⊢
    split
    · rename_i h; rw [if_pos h] at h3; omega
    · rename_i h; rw [if_neg h] at h3
      split
      · rename_i h'; rw [if_pos h'] at h3; omega
      · rename_i h'; rw [if_neg h'] at h3; omega
  · intro h; show (if (formK (cutK o)).v = true then o.v else 0) = 0; rw [show (formK (cutK o)).v = false from h]; rfl
  · intro h
    have h9 := w_nine (cutK o)
    rw [show (formK (cutK o)).w = false from h] at h9
    show (if cutK o = 9 then o.w else 0) = 0
    rw [if_neg (of_decide_eq_false h9.symm)]
section
variable {L F G : St} {w : World}
theorem opCut (o : Opn) : Fx Tryd.prog 19 [.agg o.l.toArray] L (fun v L' => v = .agg (cutO o).l.toArray ∧ L = L') := by
  refine Fx.mk Tryd.func19 k19 (Nat.le_of_ble_eq_true rfl) ?_
  dsimp only [c19, envOf, Nat.reduceAdd]
  refine Cx.sq ?_
  refine Cx.rg ?_
  refine Sx.bx (vs := o.l) rfl rfl fun g => ?_
  refine go ?_
  refine Sx.al fun q => ?_
  refine go ?_
  refine Sx.ca (vs := [.int .i64 o.kind, .int .i64 12]) rfl (number o.kind 12 (by omega) (by omega)) ?_
  rintro v L' ⟨rfl, rfl⟩
  have hk := cutK_in o
  have hm := cutMost_in (cutK o)
  refine go ?_
  rw [w64 (n := 1 + o.kind % 12) (by omega) (by omega), show 1 + o.kind % 12 = cutK o from rfl]
  refine Cx.jn (β := Unit) (fun _ => [(1, .pointer (some ⟨g, 0, none⟩)), (2, .pointer (some ⟨q, 0, none⟩)), (3, .int .i64 (cutMost (cutK o)))]) (fun _ => pt (some ⟨g, 0, none⟩) (Blk 24 [.int .i64 (cutK o), .int .i64 o.from_, .int .i64 o.at_, .int .i64 o.n, .int .u64 o.v, .int .u64 o.w]) :: pt (some ⟨q, 0, none⟩) (Blk 24 Opn.zero.l) :: L) ?_ ?_
  · by_cases h1 : cutK o = 1
    · refine Cx.cyes rfl (decide_eq_true h1) ?_
      have e1 : cutMost (cutK o) = 4 := by unfold cutMost; rw [if_pos h1]
      refine go ?_
      exact Kjn.nm () (sub.cons rfl (sub.cons rfl (sub.cons (by rw [e1]; rfl) sub.nil))) ent
    · refine Cx.cno rfl (decide_eq_false h1) ?_
      refine go ?_
      refine Sx.ca (vs := [.int .i64 (cutK o)]) rfl (ref18HasN (cutK o)) ?_
      rintro v L' ⟨rfl, rfl⟩
      refine go ?_
      cases hn : (formK (cutK o)).n with
      | true =>
        have e1 : cutMost (cutK o) = 65536 := by unfold cutMost; rw [if_neg h1, hn]; rfl
        refine go ?_
        exact Kjn.nm () (sub.cons rfl (sub.cons rfl (sub.cons (by rw [e1]; rfl) sub.nil))) ent
      | false =>
        have e1 : cutMost (cutK o) = 1 := by unfold cutMost; rw [if_neg h1, hn]; rfl
        refine go ?_
        exact Kjn.nm () (sub.cons rfl (sub.cons rfl (sub.cons (by rw [e1]; rfl) sub.nil))) ent
  rintro -
  refine go ?_
  refine Sx.ca (vs := [.int .i64 o.n, .int .i64 (cutMost (cutK o))]) rfl (number o.n (cutMost (cutK o)) hm.1 (by omega)) ?_
  rintro v L' ⟨rfl, rfl⟩
  refine go ?_
  refine Sx.ca (vs := [.int .i64 (cutK o)]) rfl (ref18HasV (cutK o)) ?_
  rintro v L' ⟨rfl, rfl⟩
  refine go ?_
  refine Cx.jn (β := Unit) (fun _ => [(1, .pointer (some ⟨g, 0, none⟩)), (2, .pointer (some ⟨q, 0, none⟩))]) (fun _ => pt (some ⟨g, 0, none⟩) (Blk 24 [.int .i64 (cutK o), .int .i64 o.from_, .int .i64 o.at_, .int .i64 (cutO o).n, .int .u64 (cutO o).v, .int .u64 o.w]) :: pt (some ⟨q, 0, none⟩) (Blk 24 Opn.zero.l) :: L) ?_ ?_
  · cases hn : (formK (cutK o)).v with
    | true =>
      have e1 : (cutO o).v = o.v := by show (if (formK (cutK o)).v = true then o.v else 0) = _; rw [hn]; rfl
      refine go ?_
      exact Kjn.nm () (sub.cons rfl (sub.cons rfl sub.nil)) (by rw [e1]; exact ent)
    | false =>
      have e1 : (cutO o).v = 0 := by show (if (formK (cutK o)).v = true then o.v else 0) = _; rw [hn]; rfl
      refine go ?_
      exact Kjn.nm () (sub.cons rfl (sub.cons rfl sub.nil)) (by rw [e1]; exact ent)
  rintro -
  refine go ?_
  refine Cx.jn (β := Unit) (fun _ => [(1, .pointer (some ⟨g, 0, none⟩)), (2, .pointer (some ⟨q, 0, none⟩))]) (fun _ => pt (some ⟨g, 0, none⟩) (Blk 24 [.int .i64 (cutK o), .int .i64 o.from_, .int .i64 o.at_, .int .i64 (cutO o).n, .int .u64 (cutO o).v, .int .u64 (cutO o).w]) :: pt (some ⟨q, 0, none⟩) (Blk 24 Opn.zero.l) :: L) ?_ ?_
  · by_cases hn : cutK o = 9
    · have e1 : (cutO o).w = o.w := by show (if cutK o = 9 then o.w else 0) = _; rw [if_pos hn]
      refine Cx.cno rfl (by rw [decide_eq_true hn]; rfl) ?_
      refine go ?_
      exact Kjn.nm () (sub.cons rfl (sub.cons rfl sub.nil)) (by rw [e1]; exact ent)
    · have e1 : (cutO o).w = 0 := by show (if cutK o = 9 then o.w else 0) = _; rw [if_neg hn]
      refine Cx.cyes rfl (by rw [decide_eq_false hn]; rfl) ?_
      refine go ?_
      exact Kjn.nm () (sub.cons rfl (sub.cons rfl sub.nil)) (by rw [e1]; exact ent)
  rintro -
  refine go ?_
  refine Sx.ca (vs := [.int .i64 (cutK o)]) rfl (ref18Of (cutK o)) ?_
  rintro v L' ⟨rfl, rfl⟩
  refine go ?_
  refine Cx.jn (β := Unit) (fun _ => [(1, .pointer (some ⟨g, 0, none⟩)), (2, .pointer (some ⟨q, 0, none⟩))]) (fun _ => pt (some ⟨g, 0, none⟩) (Blk 24 [.int .i64 (cutK o), .int .i64 (cutO o).from_, .int .i64 (cutO o).at_, .int .i64 (cutO o).n, .int .u64 (cutO o).v, .int .u64 (cutO o).w]) :: pt (some ⟨q, 0, none⟩) (Blk 24 Opn.zero.l) :: L) ?_ ?_
  · by_cases hn : (formK (cutK o)).of_ = 0
    · have e1 : (cutO o).from_ = 0 := by show (if (formK (cutK o)).of_ = 0 then 0 else o.from_ % 64) = _; rw [if_pos hn]
      have e2 : (cutO o).at_ = 0 := by show (if (formK (cutK o)).of_ = 0 then 0 else o.at_ % 1000) = _; rw [if_pos hn]
      refine Cx.cyes rfl (decide_eq_true hn) ?_
      refine go ?_
      exact Kjn.nm () (sub.cons rfl (sub.cons rfl sub.nil)) (by rw [e1, e2]; exact ent)
    · have e1 : (cutO o).from_ = o.from_ % 64 := by show (if (formK (cutK o)).of_ = 0 then 0 else o.from_ % 64) = _; rw [if_neg hn]
      have e2 : (cutO o).at_ = o.at_ % 1000 := by show (if (formK (cutK o)).of_ = 0 then 0 else o.at_ % 1000) = _; rw [if_neg hn]
      refine Cx.cno rfl (decide_eq_false hn) ?_
      refine Cx.orde rfl (by kernel_rfl) ?_
      refine ge ?_
      refine Ev.cakH (vs := [.int .i64 o.from_, .int .i64 64]) (by kernel_rfl) rfl rfl (number o.from_ 64 (by omega) (by omega)) ?_
      refine ge ?_
      refine Ev.cakH (vs := [.int .i64 o.at_, .int .i64 1000]) (by kernel_rfl) rfl rfl (number o.at_ 1000 (by omega) (by omega)) ?_
      refine ge ?_
      refine Ev.stbH (by kernel_rfl) rfl rfl rfl rfl rfl rfl rfl (Pres.deps (by kernel_rfl)) ?_
      refine ge ?_
      refine Ev.stbH (by kernel_rfl) rfl rfl rfl rfl rfl rfl rfl (Pres.deps (by kernel_rfl)) ?_
      refine Ev.fin ?_
      exact Kjn.nm () (sub.cons rfl (sub.cons rfl sub.nil)) (by rw [e1, e2]; exact ent)
  rintro -
  refine go ?_
  refine Sx.st (b := q) (vs := (cutO o).l) rfl rfl rfl rfl rfl rfl ?_
  refine Sx.reb (cutO o).l rfl ?_
  refine go ?_
  exact Kr_cell (b := q) (.inr rfl) rfl rfl (L' := L) ent ⟨rfl, rfl⟩
theorem cutO_v (o : Opn) (h : o.v < 18446744073709551616) : (cutO o).v < 18446744073709551616 := by
  show (if (formK (cutK o)).v = true then o.v else 0) < _
  split <;> omega
theorem cutO_w (o : Opn) (h : o.w < 18446744073709551616) : (cutO o).w < 18446744073709551616 := by
  show (if cutK o = 9 then o.w else 0) < _
  split <;> omega
/-- What '==' of two operations looks at. -/
def Opn.p (o : Opn) : List (IntKind × Int) := [(.i64, o.kind), (.i64, o.from_), (.i64, o.at_), (.i64, o.n), (.u64, o.v), (.u64, o.w)]
theorem Opn.p_eq (a b : Opn) : a.p = b.p ↔ a = b := by
  constructor
  · intro h
    unfold Opn.p at h
    simp only [List.cons.injEq, Prod.mk.injEq, true_and, and_true, Int.natCast_inj] at h
    obtain ⟨h1, h2, h3, h4, h5, h6⟩ := h
    cases a; cases b
    simp only [Opn.mk.injEq]
    exact ⟨h1, h2, h3, h4, h5, h6⟩
  · intro h; rw [h]
theorem print_len {o : Opn} (h : mayO o = true) (hv : o.v < 18446744073709551616) (hw : o.w < 18446744073709551616) : (printO o).length ≤ 112 := (mayS h).lO hv hw
end
end Go.Proofs.YtlpikhdiiehcaaaDoor

/-
  The laws of layer 18: OpBends.
-/
set_option linter.unusedVariables false
set_option linter.unusedSimpArgs false
namespace Go.Proofs.YtlpikhdiiehcaaaDoor
open Go Go.RowKit
attribute [local irreducible] Sx Cx Rx Fx Krg Ksq Kbl Klp Kr
section
variable {P : Program} {N : Nat} {Kf : En → St → Prop} {r : List It} {ms : List (Nat × (St → Prop))} {e : En} {L F : St} {i ds : Nat} {rs : List Nat} {d : Option Nat} {g : Option (Nat × Bool)}
/-- Bytes made a string, at the head. -/
theorem Ev.csH {x : X} {b off n c : Nat} {xs : List UInt8} (hd : dist (⟨i, ds, rs, ⟨d, g, .cs x⟩⟩ :: r) = true) (hg : gon (e.only rs) g = true) (hx : x.get (e.only rs) = some (.slice (some ⟨b, off, none⟩) n c)) (hh : Has L b off (bys xs)) (hn : xs.length = n)
    (k : Ev P N Kf r ((i, fun M => Has M b off (bys xs)) :: ms) (e.put d (Go.Proofs.YtlpikhdiiehcaaaDoor.str xs)) L) : Ev P N Kf (⟨i, ds, rs, ⟨d, g, .cs x⟩⟩ :: r) ms e L :=
  .lookH (fun M => Has M b off (bys xs)) hd hg hh (fun M hM e' hs K k => Sx.cs (X.get_sub hx hs) hM hn (Sx.nil k)) k
end
theorem xor_byte (b : UInt8) : bitsOf .xor .u8 ((b.toNat : Nat) : Int) 1 = (((b ^^^ 1).toNat : Nat) : Int) ∧ b ^^^ 1 ≠ b := by
  have h : ∀ n : Fin 256, bitsOf .xor .u8 ((n.val : Nat) : Int) 1 = (((UInt8.ofNat n.val ^^^ 1).toNat : Nat) : Int) ∧ UInt8.ofNat n.val ^^^ 1 ≠ UInt8.ofNat n.val := by decide +kernel
  have := h ⟨b.toNat, UInt8.toNat_lt b⟩
  simpa using this
theorem words_at (s r : List UInt8) : words (s ++ 32 :: r) = words s ++ words r := by
  induction s with
  | nil => show words (32 :: r) = [[]] ++ words r; conv => lhs; unfold words
           rw [if_pos rfl]; rfl
  | cons c s ih =>
    rw [List.cons_append]
    conv => lhs; unfold words
    conv => rhs; arg 1; unfold words
    rw [ih]
    by_cases hc : c = 32
    · rw [if_pos hc, if_pos hc]; rfl
    · rw [if_neg hc, if_neg hc]
      cases h : words s with
      | nil => exact absurd h (words_ne s)
      | cons x t => rfl
theorem wsO_full {o : Opn} (h : mayO o = true) : [] ∉ wsO o := by
  have hk := name_ne (mayS h).k
  intro hx
  unfold wsO wsV wsN wsF at hx
  simp only [List.mem_append, List.mem_cons] at hx
  rcases hx with (((hx | hx) | hx) | hx) | hx
  · exact hk hx.symm
  all_goals
    split at hx
    · simp only [List.mem_cons, List.not_mem_nil, or_false] at hx
      first | exact dec_ne _ hx.symm | (have := congrArg List.length hx; simp at this)
    · cases hx
theorem getO_full {s : List UInt8} (h : [] ∈ words s) : getO s = (Opn.zero, 10) := by
  apply getO_none
  intro h0
  obtain ⟨h1, h2⟩ := getO_back h0
  rw [← h2, words_print _ (mayS h1)] at h
  exact wsO_full h1 h
theorem getO_behind (s : List UInt8) : getO (s ++ [32]) = (Opn.zero, 10) := getO_full (by rw [words_at]; simp [words])
theorem getO_ahead (s : List UInt8) : getO ([32] ++ s) = (Opn.zero, 10) := getO_full (by
  show [] ∈ words (32 :: s)
  unfold words
  rw [if_pos rfl]; simp)
theorem getO_ne {s : List UInt8} {o : Opn} (h : s ≠ printO o) : (∃ x, getO s = (x, 0) ∧ x ≠ o) ∨ getO s = (Opn.zero, 10) := by
  by_cases h0 : (getO s).2 = 0
  · obtain ⟨h1, h2⟩ := getO_back h0
    refine .inl ⟨(getO s).1, Prod.ext rfl h0, fun e => h ?_⟩
    rw [← e, h2]
  · exact .inr (getO_none h0)
theorem name_three {k : Int} (h : 1 ≤ k ∧ k ≤ 12) : 3 ≤ (formK k).name.length := by
  rcases kinds_12 h with rfl | rfl | rfl | rfl | rfl | rfl | rfl | rfl | rfl | rfl | rfl | rfl <;> decide
theorem print_three {o : Opn} (h : mayO o = true) : 3 ≤ (printO o).length := by
  have := name_three (mayS h).k
  unfold printO printV printN printF
  simp only [List.length_append]
  omega
def moreS (s : List UInt8) (k : Nat) (c : UInt8) : List UInt8 := s.take k ++ [c] ++ s.drop k
def lessS (s : List UInt8) (i : Nat) : List UInt8 := s.take i ++ s.drop (i + 1)
def bentS (s : List UInt8) (i : Nat) : List UInt8 := s.take i ++ [s.getD i 0 ^^^ 1] ++ s.drop (i + 1)
theorem moreS_ne (s : List UInt8) (k : Nat) (c : UInt8) : moreS s k c ≠ s := fun e => by
  have := congrArg List.length e
  unfold moreS at this
  simp only [List.length_append, List.length_take, List.length_drop, List.length_cons, List.length_nil] at this
  omega
theorem lessS_ne {s : List UInt8} {i : Nat} (h : i < s.length) : lessS s i ≠ s := fun e => by
  have := congrArg List.length e
  unfold lessS at this
  simp only [List.length_append, List.length_take, List.length_drop] at this
  omega
theorem bentS_ne {s : List UInt8} {i : Nat} (h : i < s.length) : bentS s i ≠ s := fun e => by
  have h1 : (bentS s i)[i]? = s[i]? := by rw [e]
  unfold bentS at h1
  rw [List.getElem?_append_left (by simp; omega), List.getElem?_append_right (by simp; omega), List.length_take, show i - min i s.length = 0 by omega, List.getElem?_cons_zero, List.getElem?_eq_getElem h, List.getD_eq_getElem?_getD, List.getElem?_eq_getElem h] at h1
  exact (xor_byte _).2 (Option.some.inj h1)
theorem moreS_len (s : List UInt8) (k : Nat) (c : UInt8) : (moreS s k c).length ≤ s.length + 1 := by
  unfold moreS
  simp only [List.length_append, List.length_take, List.length_drop, List.length_cons, List.length_nil]
  omega
theorem lessS_len (s : List UInt8) (i : Nat) : (lessS s i).length ≤ s.length := by
  unfold lessS
  simp only [List.length_append, List.length_take, List.length_drop]
  omega
theorem bentS_len (s : List UInt8) (i : Nat) : (bentS s i).length ≤ s.length + 1 := by
  unfold bentS
  simp only [List.length_append, List.length_take, List.length_drop, List.length_cons, List.length_nil]
  omega
section
variable {L F G : St} {w : World}
set_option maxHeartbeats 4000000 in
theorem opBends (l : LibOk w) (hL : Ent L [Old w]) (o : Opn) (at_ : Int) (c : UInt8) (ov : o.v < 18446744073709551616) (ow : o.w < 18446744073709551616) :
    Fx Tryd.prog 6 [.agg o.l.toArray, .int .i64 at_, .int .u8 (c.toNat : Nat)] L (fun v L' => v = .bool true ∧ L = L') := by
  have hmx : maxLen = 9223372036854775807 := rfl
  have mA := cutO_may o
  have vA := cutO_v o ov
  have wA := cutO_w o ow
  refine Fx.mk Tryd.func6 k6 (Nat.le_of_ble_eq_true rfl) ?_
  dsimp only [c6, envOf, Nat.reduceAdd]
  refine Cx.sq ?_
  refine Cx.rg ?_
  refine Sx.bx (vs := o.l) rfl rfl fun g3 => ?_
  refine go ?_
  refine Sx.ca rfl (opFirst (w := w) l (Ent.trans (M := L) ent hL)) ?_
  rintro v L' ⟨rfl, rfl⟩
  refine go ?_
  refine Sx.ca (vs := [.agg o.l.toArray]) rfl (opCut o) ?_
  rintro v L' ⟨rfl, rfl⟩
  generalize cutO o = A at mA vA wA
  refine Sx.st (b := g3) (vs := A.l) rfl rfl rfl rfl rfl rfl ?_
  refine Sx.reb A.l rfl ?_
  refine go ?_
  refine Sx.ca (vs := [.agg A.l.toArray]) rfl (opPutY (w := w) l (Ent.trans (M := L) ent hL) A vA wA mA) ?_
  rintro v L' ⟨rfl, rfl⟩
  have h3 := print_three mA
  have h112 := print_len mA vA wA
  generalize hz : printO A = z at h3 h112
  have hsz : (⟨z.toArray⟩ : ByteArray).size = z.length := rfl
  have hdl : (⟨z.toArray⟩ : ByteArray).data.toList.length = z.length := rfl
  refine go ?_
  refine Cx.cno rfl (decide_eq_false (by rw [hsz]; omega)) ?_
  refine go ?_
  rw [hsz, w64 (n := ((z.length : Nat) : Int) + 1) (by omega) (by omega)]
  refine Sx.ca (vs := [.int .i64 at_, .int .i64 (((z.length : Nat) : Int) + 1)]) rfl (number at_ _ (by omega) (by omega)) ?_
  rintro v L' ⟨rfl, rfl⟩
  obtain ⟨k, hk, hkl⟩ : ∃ k : Nat, at_ % (((z.length : Nat) : Int) + 1) = k ∧ k ≤ z.length :=
    ⟨(at_ % (((z.length : Nat) : Int) + 1)).toNat, by have := Int.emod_nonneg at_ (show (((z.length : Nat) : Int) + 1) ≠ 0 by omega); omega, by have := Int.emod_lt_of_pos at_ (show 0 < (((z.length : Nat) : Int) + 1) by omega); omega⟩
  rw [hk]
  refine go ?_
  refine Cx.ordc rfl (by kernel_rfl) ?_
  refine ge ?_
  iterate 3 (refine Ev.bring 3 rfl ?_; refine ge ?_)
  refine Ev.bsH (sz := 1) (cs := bys [c]) (by kernel_rfl) rfl rfl rfl (Pres.deps (by kernel_rfl)) fun q1 => ?_
  refine ge ?_
  refine Ev.csH (xs := [c]) (by kernel_rfl) rfl rfl Has.rowAll rfl ?_
  refine ge ?_
  refine Ev.addH (a := z.take k) (b := [c]) (by kernel_rfl) rfl rfl rfl (by simp only [List.length_take, List.length_cons, List.length_nil]; omega) ?_
  refine ge ?_
  refine Ev.addH (a := z.take k ++ [c]) (b := z.drop k) (by kernel_rfl) rfl rfl rfl (by simp only [List.length_append, List.length_take, List.length_drop, List.length_cons, List.length_nil]; omega) ?_
  refine ge ?_
  refine go ?_
  refine Sx.ca (vs := [.int .i64 at_, .int .i64 (z.length : Nat)]) rfl (number at_ _ (by omega) (by omega)) ?_
  rintro v L' ⟨rfl, rfl⟩
  obtain ⟨j, hj, hjl⟩ : ∃ j : Nat, at_ % ((z.length : Nat) : Int) = j ∧ j < z.length :=
    ⟨(at_ % ((z.length : Nat) : Int)).toNat, by have := Int.emod_nonneg at_ (show ((z.length : Nat) : Int) ≠ 0 by omega); omega, by have := Int.emod_lt_of_pos at_ (show 0 < ((z.length : Nat) : Int) by omega); omega⟩
  rw [hj]
  refine go ?_
  refine Cx.ordc rfl (by kernel_rfl) ?_
  refine ge ?_
  rw [w64 (n := ((j : Nat) : Int) + 1) (by omega) (by omega), show ((j : Nat) : Int) + 1 = ((j + 1 : Nat) : Int) by omega]
  refine ge ?_
  refine Ev.addH (a := z.take j) (b := z.drop (j + 1)) (by kernel_rfl) rfl rfl rfl (by simp only [List.length_take, List.length_drop]; omega) ?_
  refine ge ?_
  refine go ?_
  refine Cx.ordc rfl (by kernel_rfl) ?_
  refine ge ?_
  rw [(xor_byte _).1]
  iterate 3 (refine Ev.bring 3 rfl ?_; refine ge ?_)
  rw [w64 (n := ((j : Nat) : Int) + 1) (by omega) (by omega), show ((j : Nat) : Int) + 1 = ((j + 1 : Nat) : Int) by omega]
  refine Ev.bring 3 rfl ?_
  refine ge ?_
  refine Ev.bsH (sz := 1) (cs := bys [z.getD j 0 ^^^ 1]) (by kernel_rfl) rfl rfl rfl (Pres.deps (by kernel_rfl)) fun q2 => ?_
  refine ge ?_
  refine Ev.csH (xs := [z.getD j 0 ^^^ 1]) (by kernel_rfl) rfl rfl Has.rowAll rfl ?_
  refine ge ?_
  refine Ev.addH (a := z.take j) (b := [z.getD j 0 ^^^ 1]) (by kernel_rfl) rfl rfl rfl (by simp only [List.length_take, List.length_cons, List.length_nil]; omega) ?_
  refine ge ?_
  refine Ev.addH (a := z.take j ++ [z.getD j 0 ^^^ 1]) (b := z.drop (j + 1)) (by kernel_rfl) rfl rfl rfl (by simp only [List.length_append, List.length_take, List.length_drop, List.length_cons, List.length_nil]; omega) ?_
  refine ge ?_
  refine go ?_
  refine Sx.ca (vs := [str (moreS z k c)]) rfl (opGet (w := w) l (Ent.trans (M := L) ent hL) (moreS z k c) (by have := moreS_len z k c; omega)) ?_
  rintro v L' ⟨rfl, rfl⟩
  refine go ?_
  refine Sx.al fun g15 => ?_
  refine Sx.st (b := g15) (vs := (getO (moreS z k c)).1.l) rfl rfl rfl rfl rfl rfl ?_
  refine Sx.reb (getO (moreS z k c)).1.l rfl ?_
  refine go ?_
  refine Sx.ca (vs := [str (lessS z j)]) rfl (opGet (w := w) l (Ent.trans (M := L) ent hL) (lessS z j) (by have := lessS_len z j; omega)) ?_
  rintro v L' ⟨rfl, rfl⟩
  refine go ?_
  refine Sx.al fun g17 => ?_
  refine Sx.st (b := g17) (vs := (getO (lessS z j)).1.l) rfl rfl rfl rfl rfl rfl ?_
  refine Sx.reb (getO (lessS z j)).1.l rfl ?_
  refine go ?_
  refine Sx.ca (vs := [str (bentS z j)]) rfl (opGet (w := w) l (Ent.trans (M := L) ent hL) (bentS z j) (by have := bentS_len z j; omega)) ?_
  rintro v L' ⟨rfl, rfl⟩
  refine go ?_
  refine Sx.al fun g19 => ?_
  refine Sx.st (b := g19) (vs := (getO (bentS z j)).1.l) rfl rfl rfl rfl rfl rfl ?_
  refine Sx.reb (getO (bentS z j)).1.l rfl ?_
  refine go ?_
  refine Sx.add (a := z) (b := [32]) rfl rfl (by simp only [List.length_cons, List.length_nil]; omega) ?_
  refine go ?_
  refine Sx.ca (vs := [str (z ++ [32])]) rfl (opGet (w := w) l (Ent.trans (M := L) ent hL) (z ++ [32]) (by simp only [List.length_append, List.length_cons, List.length_nil]; omega)) ?_
  rintro v L' ⟨rfl, rfl⟩
  rw [getO_behind z]
  refine go ?_
  refine Sx.al fun g21 => ?_
  refine Sx.st (b := g21) (vs := Opn.zero.l) rfl rfl rfl rfl rfl rfl ?_
  refine Sx.reb Opn.zero.l rfl ?_
  refine go ?_
  refine Sx.add (a := [32]) (b := z) rfl rfl (by simp only [List.length_cons, List.length_nil]; omega) ?_
  refine go ?_
  refine Sx.ca (vs := [str ([32] ++ z)]) rfl (opGet (w := w) l (Ent.trans (M := L) ent hL) ([32] ++ z) (by simp only [List.length_append, List.length_cons, List.length_nil]; omega)) ?_
  rintro v L' ⟨rfl, rfl⟩
  rw [getO_ahead z]
  refine go ?_
  refine Sx.al fun g23 => ?_
  refine Sx.st (b := g23) (vs := Opn.zero.l) rfl rfl rfl rfl rfl rfl ?_
  refine Sx.reb Opn.zero.l rfl ?_
  refine go ?_
  have hm := getO_ne (s := moreS z k c) (o := A) (by rw [hz]; exact moreS_ne z k c)
  have hl := getO_ne (s := lessS z j) (o := A) (by rw [hz]; exact lessS_ne hjl)
  have hb := getO_ne (s := bentS z j) (o := A) (by rw [hz]; exact bentS_ne hjl)
  have pne : ∀ {x : Opn}, x ≠ A → (!decide (x.p = A.p)) = true := fun h => by rw [decide_eq_false fun e => h ((Opn.p_eq _ _).1 e)]; rfl
  rcases hm with ⟨x_hm, e_hm, n_hm⟩ | e_hm
  · rw [e_hm]
    refine go ?_
    refine Sx.gyes rfl (pne n_hm) ?_
    refine go ?_
    rcases hl with ⟨x_hl, e_hl, n_hl⟩ | e_hl
    · rw [e_hl]
      refine go ?_
      refine Sx.gyes rfl (pne n_hl) ?_
      refine go ?_
      rcases hb with ⟨x_hb, e_hb, n_hb⟩ | e_hb
      · rw [e_hb]
        refine go ?_
        refine Sx.gyes rfl (pne n_hb) ?_
        refine go ?_
        exact Kr.one (.inr rfl) rfl (L' := L) ent ⟨rfl, rfl⟩
      · rw [e_hb]
        refine go ?_
        exact Kr.one (.inr rfl) rfl (L' := L) ent ⟨rfl, rfl⟩
    · rw [e_hl]
      refine go ?_
      rcases hb with ⟨x_hb, e_hb, n_hb⟩ | e_hb
      · rw [e_hb]
        refine go ?_
        refine Sx.gyes rfl (pne n_hb) ?_
        refine go ?_
        exact Kr.one (.inr rfl) rfl (L' := L) ent ⟨rfl, rfl⟩
      · rw [e_hb]
        refine go ?_
        exact Kr.one (.inr rfl) rfl (L' := L) ent ⟨rfl, rfl⟩
  · rw [e_hm]
    refine go ?_
    rcases hl with ⟨x_hl, e_hl, n_hl⟩ | e_hl
    · rw [e_hl]
      refine go ?_
      refine Sx.gyes rfl (pne n_hl) ?_
      refine go ?_
      rcases hb with ⟨x_hb, e_hb, n_hb⟩ | e_hb
      · rw [e_hb]
        refine go ?_
        refine Sx.gyes rfl (pne n_hb) ?_
        refine go ?_
        exact Kr.one (.inr rfl) rfl (L' := L) ent ⟨rfl, rfl⟩
      · rw [e_hb]
        refine go ?_
        exact Kr.one (.inr rfl) rfl (L' := L) ent ⟨rfl, rfl⟩
    · rw [e_hl]
      refine go ?_
      rcases hb with ⟨x_hb, e_hb, n_hb⟩ | e_hb
      · rw [e_hb]
        refine go ?_
        refine Sx.gyes rfl (pne n_hb) ?_
        refine go ?_
        exact Kr.one (.inr rfl) rfl (L' := L) ent ⟨rfl, rfl⟩
      · rw [e_hb]
        refine go ?_
        exact Kr.one (.inr rfl) rfl (L' := L) ent ⟨rfl, rfl⟩
end
end Go.Proofs.YtlpikhdiiehcaaaDoor
