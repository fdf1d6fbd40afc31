/-
  Parts of the proof, merged: what the statement leans on.
-/
import Derived.Test.YtlpikhdiiehcaaaDoorZJbB
/-
  The laws of layer 18: cut, OpBack.
-/
set_option linter.unusedVariables false
set_option linter.unusedSimpArgs false
namespace Go.Proofs.YtlpikhdiiehcaaaDoor
open Go Go.RowKit
attribute [local irreducible] Sx Cx Rx Fx Krg Ksq Kbl Klp Kr
def cutK (o : Opn) : Int := 1 + o.kind % 12
def cutMost (k : Int) : Int := if k = 1 then 4 else if (formK k).n then 65536 else 1
def cutO (o : Opn) : Opn := ⟨cutK o, if (formK (cutK o)).of_ = 0 then 0 else o.from_ % 64, if (formK (cutK o)).of_ = 0 then 0 else o.at_ % 1000, o.n % cutMost (cutK o), if (formK (cutK o)).v then o.v else 0, if cutK o = 9 then o.w else 0⟩
theorem cutK_in (o : Opn) : 1 ≤ cutK o ∧ cutK o ≤ 12 := by unfold cutK; omega
theorem cutMost_in (k : Int) : 0 < cutMost k ∧ cutMost k ≤ 65536 := by unfold cutMost; (repeat' split) <;> omega
theorem cutO_may (o : Opn) : mayO (cutO o) = true := by
  have hk := cutK_in o
  apply MayS.may
  have hm := cutMost_in (cutK o)
  have h2 := Int.emod_nonneg o.n (show cutMost (cutK o) ≠ 0 by omega)
  have h3 := Int.emod_lt_of_pos o.n hm.1
  refine ⟨hk, ?_, ?_, ?_, ?_, ?_⟩
  · show 0 ≤ (if (formK (cutK o)).of_ = 0 then 0 else o.from_ % 64) ∧ _ ≤ (if (formK (cutK o)).of_ ≠ 0 then 63 else 0)
    by_cases h : (formK (cutK o)).of_ = 0
    · simp only [h]; simp [cutO, h]
    · simp only [cutO, h, ne_eq, not_false_eq_true, if_true, if_false]; omega
  · show 0 ≤ (if (formK (cutK o)).of_ = 0 then 0 else o.at_ % 1000) ∧ _ ≤ (if (formK (cutK o)).of_ ≠ 0 then 999 else 0)
    by_cases h : (formK (cutK o)).of_ = 0
    · simp only [h]; simp [cutO, h]
    · simp only [cutO, h, ne_eq, not_false_eq_true, if_true, if_false]; omega
  · show 0 ≤ o.n % cutMost (cutK o) ∧ o.n % cutMost (cutK o) ≤ (if cutK o = 1 then 3 else if (formK (cutK o)).n then 65535 else 0)
    refine ⟨h2, ?_⟩
    unfold cutMost at h3 ⊢
    split
    · rename_i h; rw [if_pos h] at h3; omega
    · rename_i h; rw [if_neg h] at h3
      split
      · rename_i h'; rw [if_pos h'] at h3; omega
      · rename_i h'; rw [if_neg h'] at h3; omega
  · intro h; show (if (formK (cutK o)).v = true then o.v else 0) = 0; rw [show (formK (cutK o)).v = false from h]; rfl
  · intro h
    have h9 := w_nine (cutK o)
    rw [show (formK (cutK o)).w = false from h] at h9
    show (if cutK o = 9 then o.w else 0) = 0
    rw [if_neg (of_decide_eq_false h9.symm)]
section
variable {L F G : St} {w : World}
theorem opCut (o : Opn) : Fx Tryd.prog 19 [.agg o.l.toArray] L (fun v L' => v = .agg (cutO o).l.toArray ∧ L = L') := by
  refine Fx.mk Tryd.func19 k19 (Nat.le_of_ble_eq_true rfl) ?_
  dsimp only [c19, envOf, Nat.reduceAdd]
  refine Cx.sq ?_
  refine Cx.rg ?_
  refine Sx.bx (vs := o.l) rfl rfl fun g => ?_
  refine go ?_
  refine Sx.al fun q => ?_
  refine go ?_
  refine Sx.ca (vs := [.int .i64 o.kind, .int .i64 12]) rfl (number o.kind 12 (by omega) (by omega)) ?_
  rintro v L' ⟨rfl, rfl⟩
  have hk := cutK_in o
  have hm := cutMost_in (cutK o)
  refine go ?_
  rw [w64 (n := 1 + o.kind % 12) (by omega) (by omega), show 1 + o.kind % 12 = cutK o from rfl]
  refine Cx.jn (β := Unit) (fun _ => [(1, .pointer (some ⟨g, 0, none⟩)), (2, .pointer (some ⟨q, 0, none⟩)), (3, .int .i64 (cutMost (cutK o)))]) (fun _ => pt (some ⟨g, 0, none⟩) (Blk 24 [.int .i64 (cutK o), .int .i64 o.from_, .int .i64 o.at_, .int .i64 o.n, .int .u64 o.v, .int .u64 o.w]) :: pt (some ⟨q, 0, none⟩) (Blk 24 Opn.zero.l) :: L) ?_ ?_
  · by_cases h1 : cutK o = 1
    · refine Cx.cyes rfl (decide_eq_true h1) ?_
      have e1 : cutMost (cutK o) = 4 := by unfold cutMost; rw [if_pos h1]
      refine go ?_
      exact Kjn.nm () (sub.cons rfl (sub.cons rfl (sub.cons (by rw [e1]; rfl) sub.nil))) ent
    · refine Cx.cno rfl (decide_eq_false h1) ?_
      refine go ?_
      refine Sx.ca (vs := [.int .i64 (cutK o)]) rfl (ref18HasN (cutK o)) ?_
      rintro v L' ⟨rfl, rfl⟩
      refine go ?_
      cases hn : (formK (cutK o)).n with
      | true =>
        have e1 : cutMost (cutK o) = 65536 := by unfold cutMost; rw [if_neg h1, hn]; rfl
        refine go ?_
        exact Kjn.nm () (sub.cons rfl (sub.cons rfl (sub.cons (by rw [e1]; rfl) sub.nil))) ent
      | false =>
        have e1 : cutMost (cutK o) = 1 := by unfold cutMost; rw [if_neg h1, hn]; rfl
        refine go ?_
        exact Kjn.nm () (sub.cons rfl (sub.cons rfl (sub.cons (by rw [e1]; rfl) sub.nil))) ent
  rintro -
  refine go ?_
  refine Sx.ca (vs := [.int .i64 o.n, .int .i64 (cutMost (cutK o))]) rfl (number o.n (cutMost (cutK o)) hm.1 (by omega)) ?_
  rintro v L' ⟨rfl, rfl⟩
  refine go ?_
  refine Sx.ca (vs := [.int .i64 (cutK o)]) rfl (ref18HasV (cutK o)) ?_
  rintro v L' ⟨rfl, rfl⟩
  refine go ?_
  refine Cx.jn (β := Unit) (fun _ => [(1, .pointer (some ⟨g, 0, none⟩)), (2, .pointer (some ⟨q, 0, none⟩))]) (fun _ => pt (some ⟨g, 0, none⟩) (Blk 24 [.int .i64 (cutK o), .int .i64 o.from_, .int .i64 o.at_, .int .i64 (cutO o).n, .int .u64 (cutO o).v, .int .u64 o.w]) :: pt (some ⟨q, 0, none⟩) (Blk 24 Opn.zero.l) :: L) ?_ ?_
  · cases hn : (formK (cutK o)).v with
    | true =>
      have e1 : (cutO o).v = o.v := by show (if (formK (cutK o)).v = true then o.v else 0) = _; rw [hn]; rfl
      refine go ?_
      exact Kjn.nm () (sub.cons rfl (sub.cons rfl sub.nil)) (by rw [e1]; exact ent)
    | false =>
      have e1 : (cutO o).v = 0 := by show (if (formK (cutK o)).v = true then o.v else 0) = _; rw [hn]; rfl
      refine go ?_
      exact Kjn.nm () (sub.cons rfl (sub.cons rfl sub.nil)) (by rw [e1]; exact ent)
  rintro -
  refine go ?_
  refine Cx.jn (β := Unit) (fun _ => [(1, .pointer (some ⟨g, 0, none⟩)), (2, .pointer (some ⟨q, 0, none⟩))]) (fun _ => pt (some ⟨g, 0, none⟩) (Blk 24 [.int .i64 (cutK o), .int .i64 o.from_, .int .i64 o.at_, .int .i64 (cutO o).n, .int .u64 (cutO o).v, .int .u64 (cutO o).w]) :: pt (some ⟨q, 0, none⟩) (Blk 24 Opn.zero.l) :: L) ?_ ?_
  · by_cases hn : cutK o = 9
    · have e1 : (cutO o).w = o.w := by show (if cutK o = 9 then o.w else 0) = _; rw [if_pos hn]
      refine Cx.cno rfl (by rw [decide_eq_true hn]; rfl) ?_
      refine go ?_
      exact Kjn.nm () (sub.cons rfl (sub.cons rfl sub.nil)) (by rw [e1]; exact ent)
    · have e1 : (cutO o).w = 0 := by show (if cutK o = 9 then o.w else 0) = _; rw [if_neg hn]
      refine Cx.cyes rfl (by rw [decide_eq_false hn]; rfl) ?_
      refine go ?_
      exact Kjn.nm () (sub.cons rfl (sub.cons rfl sub.nil)) (by rw [e1]; exact ent)
  rintro -
  refine go ?_
  refine Sx.ca (vs := [.int .i64 (cutK o)]) rfl (ref18Of (cutK o)) ?_
  rintro v L' ⟨rfl, rfl⟩
  refine go ?_
  refine Cx.jn (β := Unit) (fun _ => [(1, .pointer (some ⟨g, 0, none⟩)), (2, .pointer (some ⟨q, 0, none⟩))]) (fun _ => pt (some ⟨g, 0, none⟩) (Blk 24 [.int .i64 (cutK o), .int .i64 (cutO o).from_, .int .i64 (cutO o).at_, .int .i64 (cutO o).n, .int .u64 (cutO o).v, .int .u64 (cutO o).w]) :: pt (some ⟨q, 0, none⟩) (Blk 24 Opn.zero.l) :: L) ?_ ?_
  · by_cases hn : (formK (cutK o)).of_ = 0
    · have e1 : (cutO o).from_ = 0 := by show (if (formK (cutK o)).of_ = 0 then 0 else o.from_ % 64) = _; rw [if_pos hn]
      have e2 : (cutO o).at_ = 0 := by show (if (formK (cutK o)).of_ = 0 then 0 else o.at_ % 1000) = _; rw [if_pos hn]
      refine Cx.cyes rfl (decide_eq_true hn) ?_
      refine go ?_
      exact Kjn.nm () (sub.cons rfl (sub.cons rfl sub.nil)) (by rw [e1, e2]; exact ent)
    · have e1 : (cutO o).from_ = o.from_ % 64 := by show (if (formK (cutK o)).of_ = 0 then 0 else o.from_ % 64) = _; rw [if_neg hn]
      have e2 : (cutO o).at_ = o.at_ % 1000 := by show (if (formK (cutK o)).of_ = 0 then 0 else o.at_ % 1000) = _; rw [if_neg hn]
      refine Cx.cno rfl (decide_eq_false hn) ?_
      refine Cx.orde rfl (by kernel_rfl) ?_
      refine ge ?_
      refine Ev.cakH (vs := [.int .i64 o.from_, .int .i64 64]) (by kernel_rfl) rfl rfl (number o.from_ 64 (by omega) (by omega)) ?_
      refine ge ?_
      refine Ev.cakH (vs := [.int .i64 o.at_, .int .i64 1000]) (by kernel_rfl) rfl rfl (number o.at_ 1000 (by omega) (by omega)) ?_
      refine ge ?_
      refine Ev.stbH (by kernel_rfl) rfl rfl rfl rfl rfl rfl rfl (Pres.deps (by kernel_rfl)) ?_
      refine ge ?_
      refine Ev.stbH (by kernel_rfl) rfl rfl rfl rfl rfl rfl rfl (Pres.deps (by kernel_rfl)) ?_
      refine Ev.fin ?_
      exact Kjn.nm () (sub.cons rfl (sub.cons rfl sub.nil)) (by rw [e1, e2]; exact ent)
  rintro -
  refine go ?_
  refine Sx.st (b := q) (vs := (cutO o).l) rfl rfl rfl rfl rfl rfl ?_
  refine Sx.reb (cutO o).l rfl ?_
  refine go ?_
  exact Kr_cell (b := q) (.inr rfl) rfl rfl (L' := L) ent ⟨rfl, rfl⟩
theorem cutO_v (o : Opn) (h : o.v < 18446744073709551616) : (cutO o).v < 18446744073709551616 := by
  show (if (formK (cutK o)).v = true then o.v else 0) < _
  split <;> omega
theorem cutO_w (o : Opn) (h : o.w < 18446744073709551616) : (cutO o).w < 18446744073709551616 := by
  show (if cutK o = 9 then o.w else 0) < _
  split <;> omega
/-- What '==' of two operations looks at. -/
def Opn.p (o : Opn) : List (IntKind × Int) := [(.i64, o.kind), (.i64, o.from_), (.i64, o.at_), (.i64, o.n), (.u64, o.v), (.u64, o.w)]
theorem Opn.p_eq (a b : Opn) : a.p = b.p ↔ a = b := by
  constructor
  · intro h
    unfold Opn.p at h
    simp only [List.cons.injEq, Prod.mk.injEq, true_and, and_true, Int.natCast_inj] at h
    obtain ⟨h1, h2, h3, h4, h5, h6⟩ := h
    cases a; cases b
    simp only [Opn.mk.injEq]
    exact ⟨h1, h2, h3, h4, h5, h6⟩
  · intro h; rw [h]
theorem print_len {o : Opn} (h : mayO o = true) (hv : o.v < 18446744073709551616) (hw : o.w < 18446744073709551616) : (printO o).length ≤ 112 := (mayS h).lO hv hw
theorem opGetP (l : LibOk w) (hL : Ent L [Old w]) (o : Opn) (h : mayO o = true) (hv : o.v < 18446744073709551616) (hw : o.w < 18446744073709551616) :
    Fx Tryd.prog 17 [str (printO o)] L (fun v L' => v = .tuple #[.agg o.l.toArray, .int .i64 0] ∧ L = L') := by
  have h1 := opGet (w := w) l hL (printO o) (by have := print_len h hv hw; omega)
  rw [getO_print h hv hw] at h1
  exact h1
set_option maxHeartbeats 4000000 in
theorem opBack (l : LibOk w) (hL : Ent L [Old w]) (a b : Opn) (av : a.v < 18446744073709551616) (aw : a.w < 18446744073709551616) (bv : b.v < 18446744073709551616) (bw : b.w < 18446744073709551616) :
    Fx Tryd.prog 5 [.agg a.l.toArray, .agg b.l.toArray] L (fun v L' => v = .bool true ∧ L = L') := by
  have ma := cutO_may a
  have mb := cutO_may b
  have va := cutO_v a av
  have wa := cutO_w a aw
  have vb := cutO_v b bv
  have wb := cutO_w b bw
  refine Fx.mk Tryd.func5 k5 (Nat.le_of_ble_eq_true rfl) ?_
  dsimp only [c5, envOf, Nat.reduceAdd]
  refine Cx.sq ?_
  refine Cx.rg ?_
  refine Sx.bx (vs := a.l) rfl rfl fun g2 => ?_
  refine Sx.bx (vs := b.l) rfl rfl fun g3 => ?_
  refine go ?_
  refine Sx.ca rfl (opFirst (w := w) l (Ent.trans (M := L) ent hL)) ?_
  rintro v L' ⟨rfl, rfl⟩
  refine go ?_
  refine Cx.ordc rfl (by kernel_rfl) ?_
  refine ge ?_
  refine Ev.cakH (vs := [.agg a.l.toArray]) (by kernel_rfl) rfl rfl (opCut a) ?_
  refine ge ?_
  refine Ev.cakH (vs := [.agg b.l.toArray]) (by kernel_rfl) rfl rfl (opCut b) ?_
  refine ge ?_
  generalize hA : cutO a = A at ma va wa
  generalize hB : cutO b = B at mb vb wb
  refine Ev.stnH A.l (by kernel_rfl) rfl rfl rfl rfl rfl rfl rfl rfl (Pres.deps (by kernel_rfl)) ?_
  refine ge ?_
  refine Ev.stnH B.l (by kernel_rfl) rfl rfl rfl rfl rfl rfl rfl rfl (Pres.deps (by kernel_rfl)) ?_
  refine ge ?_
  refine go ?_
  refine Sx.ca (vs := [.agg A.l.toArray]) rfl (opPutY (w := w) l (Ent.trans (M := L) ent hL) A va wa ma) ?_
  rintro v L' ⟨rfl, rfl⟩
  refine go ?_
  refine Sx.ca (vs := [.agg B.l.toArray]) rfl (opPutY (w := w) l (Ent.trans (M := L) ent hL) B vb wb mb) ?_
  rintro v L' ⟨rfl, rfl⟩
  refine go ?_
  refine Sx.ca rfl (opGetP (w := w) l (Ent.trans (M := L) ent hL) A ma va wa) ?_
  rintro v L' ⟨rfl, rfl⟩
  refine go ?_
  refine Sx.al fun g10 => ?_
  refine Sx.st (b := g10) (vs := A.l) rfl rfl rfl rfl rfl rfl ?_
  refine Sx.reb A.l rfl ?_
  refine go ?_
  refine Sx.ca rfl (opGetP (w := w) l (Ent.trans (M := L) ent hL) B mb vb wb) ?_
  rintro v L' ⟨rfl, rfl⟩
  refine go ?_
  refine Sx.al fun g12 => ?_
  refine Sx.st (b := g12) (vs := B.l) rfl rfl rfl rfl rfl rfl ?_
  refine Sx.reb B.l rfl ?_
  refine go ?_
  refine Sx.ca (vs := [.agg A.l.toArray]) rfl (opMay A) ?_
  rintro v L' ⟨rfl, rfl⟩
  rw [ma]
  refine go ?_
  refine Sx.ca (vs := [.agg B.l.toArray]) rfl (opMay B) ?_
  rintro v L' ⟨rfl, rfl⟩
  rw [mb]
  refine go ?_
  refine Sx.gyes rfl (decide_eq_true rfl) ?_
  refine go ?_
  refine Sx.gyes rfl (decide_eq_true rfl) ?_
  refine go ?_
  refine Kr.one (.inr rfl) rfl (L' := L) ent ⟨?_, rfl⟩
  show Value.bool (decide (printO A = printO B) == decide (A.p = B.p)) = .bool true
  have h1 : decide (printO A = printO B) = decide (A.p = B.p) := decide_eq_decide.2 ((print_inj ma mb va wa vb wb).trans (Opn.p_eq A B).symm)
  rw [h1]
  cases decide (A.p = B.p) <;> rfl
end
end Go.Proofs.YtlpikhdiiehcaaaDoor
