/-
  Parts of the proof, merged: what the statement leans on.
-/
import Derived.Lib.Split
import Derived.Test.YtlpikhdiiehcaaaDoorZJeB
/-
  The program's text of an operation (op.Put).
-/
set_option linter.unusedVariables false
set_option linter.unusedSimpArgs false
namespace Go.Proofs.YtlpikhdiiehcaaaDoor
open Go Go.RowKit
attribute [local irreducible] Sx Cx Rx Fx Krg Ksq Kbl Klp Kr
def wsF (o : Opn) : List (List UInt8) := (formK o.kind).name :: (if hasF o then [dec o.from_.toNat ++ 46 :: dec o.at_.toNat] else [])
def wsN (o : Opn) : List (List UInt8) := wsF o ++ (if (formK o.kind).n then [dec o.n.toNat] else [])
def wsV (o : Opn) : List (List UInt8) := wsN o ++ (if (formK o.kind).v then [dec o.v] else [])
def wsO (o : Opn) : List (List UInt8) := wsV o ++ (if (formK o.kind).w then [dec o.w] else [])
theorem join_snoc (l : List (List UInt8)) (x : List UInt8) (h : l ≠ []) : Lib.join (l ++ [x]) [32] = Lib.join l [32] ++ 32 :: x := by
  cases l with
  | nil => exact absurd rfl h
  | cons y l =>
    rw [List.cons_append, Lib.join_cons, Lib.join_cons]
    unfold Lib.joinTail
    simp
theorem wsF_ne (o : Opn) : wsF o ≠ [] := by unfold wsF; simp
theorem wsN_ne (o : Opn) : wsN o ≠ [] := by unfold wsN wsF; simp
theorem wsV_ne (o : Opn) : wsV o ≠ [] := by unfold wsV wsN wsF; simp
theorem join_spW (l : List (List UInt8)) (b : Bool) (x : List UInt8) (h : l ≠ []) : Lib.join (l ++ (if b then [x] else [])) [32] = Lib.join l [32] ++ spW b x := by
  cases b with
  | false => simp [spW]
  | true => simpa [spW] using join_snoc l x h
theorem join_wsO (o : Opn) : Lib.join (wsO o) [32] = printO o := by
  unfold wsO
  rw [join_spW _ _ _ (wsV_ne o)]
  unfold wsV
  rw [join_spW _ _ _ (wsN_ne o)]
  unfold wsN
  rw [join_spW _ _ _ (wsF_ne o)]
  have : Lib.join (wsF o) [32] = printF o := by
    unfold wsF
    have := join_spW [(formK o.kind).name] (hasF o) (dec o.from_.toNat ++ 46 :: dec o.at_.toNat) (by simp)
    rw [Lib.join_one] at this
    exact this
  rw [this]
  rfl
theorem wsF_len (o : Opn) : (wsF o).length ≤ 2 := by unfold wsF; split <;> simp
theorem wsN_len (o : Opn) : (wsN o).length ≤ 3 := by unfold wsN; have := wsF_len o; split <;> simp <;> omega
theorem wsV_len (o : Opn) : (wsV o).length ≤ 4 := by unfold wsV; have := wsN_len o; split <;> simp <;> omega
section
variable {L F G : St} {w : World}
theorem opPut (l : LibOk w) (hL : Ent L [Old w]) (o : Opn) (hv : o.v < 18446744073709551616) (hw : o.w < 18446744073709551616) :
    Fx Tryd.prog 15 [.agg o.l.toArray] L (fun v L' => v = .tuple (if mayO o then #[str (printO o), .int .i64 0] else #[str [], .int .i64 10]) ∧ L = L') := by
  have hmx : maxLen = 9223372036854775807 := rfl
  refine Fx.mk Tryd.func15 k15 (Nat.le_of_ble_eq_true rfl) ?_
  dsimp only [c15, envOf, Nat.reduceAdd]
  refine go ?_
  obtain ⟨e1, e2, e3⟩ : True ∧ True ∧ True := ⟨trivial, trivial, trivial⟩
  clear e1 e2 e3
  refine Sx.bx (vs := o.l) rfl rfl fun g => ?_
  refine go ?_
  refine Sx.ca (vs := [.agg o.l.toArray]) rfl (opMay o) ?_
  rintro v L' ⟨rfl, rfl⟩
  refine go ?_
  cases hm : mayO o with
  | false =>
    refine go ?_
    exact Kr.two (.inr rfl) rfl rfl Ent.drop ⟨rfl, rfl⟩
  | true =>
  have h := mayS hm
  have lO := h.lO hv hw
  have l1 := name_len o.kind
  have bF := mostF_le o
  have bA := mostA_le o
  have bN := mostN_le o
  have wF := wsF_len o
  have wN := wsN_len o
  have wV := wsV_len o
  obtain ⟨fr, hfr⟩ : ∃ fr : Nat, o.from_ = fr := ⟨o.from_.toNat, by have := h.f; omega⟩
  obtain ⟨at_, hat⟩ : ∃ at_ : Nat, o.at_ = at_ := ⟨o.at_.toNat, by have := h.a; omega⟩
  obtain ⟨nn, hnn⟩ : ∃ nn : Nat, o.n = nn := ⟨o.n.toNat, by have := h.n; omega⟩
  have hF := h.f
  have hA := h.a
  have hN := h.n
  have l2 : (dec fr).length ≤ 20 := dec_len _ (by omega)
  have l3 : (dec at_).length ≤ 20 := dec_len _ (by omega)
  refine go ?_
  refine Sx.ca rfl (opForm o.kind) ?_
  rintro v L' ⟨rfl, rfl⟩
  refine go ?_
  refine Sx.al fun q => ?_
  refine Sx.st (b := q) (vs := (formK o.kind).l) rfl rfl rfl rfl rfl rfl ?_
  refine Sx.reb (formK o.kind).l rfl ?_
  refine go ?_
  refine Sx.bs (sz := 1) (cs := [str (formK o.kind).name]) rfl rfl fun g0 => ?_
  refine go ?_
  refine Cx.jn (β := Option Addr × Nat) (fun b => [(1, .pointer (some ⟨g, 0, none⟩)), (4, .pointer (some ⟨q, 0, none⟩)), (5, .slice b.1 (wsF o).length b.2)]) (fun b => pt b.1 (Row 9 1 (wsF o).length b.2 ((wsF o).map str)) :: pt (some ⟨g, 0, none⟩) (Blk 24 o.l) :: pt (some ⟨q, 0, none⟩) (Blk 47 (formK o.kind).l) :: L) ?_ ?_
  · by_cases hof : (formK o.kind).of_ = 0
    · refine Cx.cno rfl (by simp [hof]) ?_
      have e1 : hasF o = false := by unfold hasF; simp [hof]
      have e2 : wsF o = [(formK o.kind).name] := by unfold wsF; rw [e1]; rfl
      refine go ?_
      exact Kjn.nm (some ⟨g0, 0, none⟩, 1) (sub.cons rfl (sub.cons rfl (sub.cons (by rw [e2]; rfl) sub.nil))) (by rw [e2]; exact ent)
    · refine Cx.cyes rfl (by simp [hof]) ?_
      have e1 : hasF o = true := by unfold hasF; simp [hof]
      have e2 : wsF o = [(formK o.kind).name, dec fr ++ [46] ++ dec at_] := by unfold wsF; rw [e1, hfr, hat]; simp
      refine Cx.ordu rfl rfl (by kernel_rfl) (by kernel_rfl) ?_
      refine ge ?_
      refine Ev.cakH (vs := [.int .i64 fr]) (by kernel_rfl) rfl (by rw [← hfr]; rfl) (libItoa (w := w) l (Ent.trans (M := L) ent hL) fr (by omega)) ?_
      refine ge ?_
      refine Ev.addH (a := dec fr) (b := [46]) (by kernel_rfl) rfl rfl rfl (by simp only [List.length_append, List.length_cons, List.length_nil]; omega) ?_
      refine ge ?_
      refine Ev.cakH (vs := [.int .i64 at_]) (by kernel_rfl) rfl (by rw [← hat]; rfl) (libItoa (w := w) l (Ent.trans (M := L) ent hL) at_ (by omega)) ?_
      refine ge ?_
      refine Ev.addH (a := dec fr ++ [46]) (b := dec at_) (by kernel_rfl) rfl rfl rfl (by simp only [List.length_append, List.length_cons, List.length_nil]; omega) ?_
      refine ge ?_
      refine Ev.bsH (sz := 1) (cs := [str (dec fr ++ [46] ++ dec at_)]) (by kernel_rfl) rfl rfl rfl (Pres.deps (by kernel_rfl)) fun g1 => ?_
      refine ge ?_
      refine Ev.apH (ra := some ⟨g0, 0, none⟩) (xs := [str (formK o.kind).name]) (ys := [str (dec fr ++ [46] ++ dec at_)]) (by kernel_rfl) rfl rfl rfl (Rd.row (b := g1) (E := 9) (cap := 1) rfl) rfl (by omega) (by omega) (Pres.deps (by kernel_rfl)) fun ra ca hc hk => ?_
      refine ge ?_
      refine go ?_
      exact Kjn.nm (ra, ca) (sub.cons rfl (sub.cons rfl (sub.cons (by rw [e2]; rfl) sub.nil))) (by rw [e2]; exact ent)
  rintro ⟨ra, ca⟩
  dsimp only
  refine go ?_
  refine Cx.jn (β := Option Addr × Nat) (fun b => [(1, .pointer (some ⟨g, 0, none⟩)), (4, .pointer (some ⟨q, 0, none⟩)), (5, .slice b.1 (wsN o).length b.2)]) (fun b => pt b.1 (Row 9 1 (wsN o).length b.2 ((wsN o).map str)) :: pt (some ⟨g, 0, none⟩) (Blk 24 o.l) :: pt (some ⟨q, 0, none⟩) (Blk 47 (formK o.kind).l) :: L) ?_ ?_
  · cases hfl : (formK o.kind).n with
    | false =>
      skip
      refine go ?_
      have e2 : wsN o = wsF o := by unfold wsN; rw [hfl]; simp
      exact Kjn.nm (ra, ca) (sub.cons rfl (sub.cons rfl (sub.cons (by rw [e2]; rfl) sub.nil))) (by rw [e2]; exact Ent.refl _)
    | true =>
      skip
      have e2 : wsN o = wsF o ++ [dec nn] := by unfold wsN; rw [hfl, hnn]; rfl
      refine go ?_
      refine Sx.ca (vs := [.int .i64 nn]) (by rw [← hnn]; rfl) (libItoa (w := w) l (Ent.trans (M := L) ent hL) nn (by omega)) ?_
      rintro v L' ⟨rfl, rfl⟩
      refine go ?_
      refine Sx.bs (sz := 1) (cs := [str (dec nn)]) rfl rfl fun g1 => ?_
      refine Sx.ap (ra := ra) (ys := [str (dec nn)]) rfl rfl (Rd.row (b := g1) (E := 9) (cap := 1) rfl) rfl (by omega) (by omega) fun rb cb hc => ?_
      refine go ?_
      exact Kjn.nm (rb, cb) (sub.cons rfl (sub.cons rfl (sub.cons (by rw [e2, List.length_append]; rfl) sub.nil))) (by rw [e2, List.length_append, List.map_append]; exact ent)
  rintro ⟨ra, ca⟩
  dsimp only
  refine go ?_
  refine Cx.jn (β := Option Addr × Nat) (fun b => [(1, .pointer (some ⟨g, 0, none⟩)), (4, .pointer (some ⟨q, 0, none⟩)), (5, .slice b.1 (wsV o).length b.2)]) (fun b => pt b.1 (Row 9 1 (wsV o).length b.2 ((wsV o).map str)) :: pt (some ⟨g, 0, none⟩) (Blk 24 o.l) :: pt (some ⟨q, 0, none⟩) (Blk 47 (formK o.kind).l) :: L) ?_ ?_
  · cases hfl : (formK o.kind).v with
    | false =>
      skip
      refine go ?_
      have e2 : wsV o = wsN o := by unfold wsV; rw [hfl]; simp
      exact Kjn.nm (ra, ca) (sub.cons rfl (sub.cons rfl (sub.cons (by rw [e2]; rfl) sub.nil))) (by rw [e2]; exact Ent.refl _)
    | true =>
      skip
      have e2 : wsV o = wsN o ++ [dec o.v] := by unfold wsV; rw [hfl]; rfl
      refine go ?_
      refine Sx.ca rfl (libFormat (w := w) l (Ent.trans (M := L) ent hL) o.v hv) ?_
      rintro v L' ⟨rfl, rfl⟩
      refine go ?_
      refine Sx.bs (sz := 1) (cs := [str (dec o.v)]) rfl rfl fun g1 => ?_
      refine Sx.ap (ra := ra) (ys := [str (dec o.v)]) rfl rfl (Rd.row (b := g1) (E := 9) (cap := 1) rfl) rfl (by omega) (by omega) fun rb cb hc => ?_
      refine go ?_
      exact Kjn.nm (rb, cb) (sub.cons rfl (sub.cons rfl (sub.cons (by rw [e2, List.length_append]; rfl) sub.nil))) (by rw [e2, List.length_append, List.map_append]; exact ent)
  rintro ⟨ra, ca⟩
  dsimp only
  refine go ?_
  refine Cx.jn (β := Option Addr × Nat) (fun b => [(1, .pointer (some ⟨g, 0, none⟩)), (4, .pointer (some ⟨q, 0, none⟩)), (5, .slice b.1 (wsO o).length b.2)]) (fun b => pt b.1 (Row 9 1 (wsO o).length b.2 ((wsO o).map str)) :: pt (some ⟨g, 0, none⟩) (Blk 24 o.l) :: pt (some ⟨q, 0, none⟩) (Blk 47 (formK o.kind).l) :: L) ?_ ?_
  · cases hfl : (formK o.kind).w with
    | false =>
      skip
      refine go ?_
      have e2 : wsO o = wsV o := by unfold wsO; rw [hfl]; simp
      exact Kjn.nm (ra, ca) (sub.cons rfl (sub.cons rfl (sub.cons (by rw [e2]; rfl) sub.nil))) (by rw [e2]; exact Ent.refl _)
    | true =>
      skip
      have e2 : wsO o = wsV o ++ [dec o.w] := by unfold wsO; rw [hfl]; rfl
      refine go ?_
      refine Sx.ca rfl (libFormat (w := w) l (Ent.trans (M := L) ent hL) o.w hw) ?_
      rintro v L' ⟨rfl, rfl⟩
      refine go ?_
      refine Sx.bs (sz := 1) (cs := [str (dec o.w)]) rfl rfl fun g1 => ?_
      refine Sx.ap (ra := ra) (ys := [str (dec o.w)]) rfl rfl (Rd.row (b := g1) (E := 9) (cap := 1) rfl) rfl (by omega) (by omega) fun rb cb hc => ?_
      refine go ?_
      exact Kjn.nm (rb, cb) (sub.cons rfl (sub.cons rfl (sub.cons (by rw [e2, List.length_append]; rfl) sub.nil))) (by rw [e2, List.length_append, List.map_append]; exact ent)
  rintro ⟨ra, ca⟩
  dsimp only
  refine go ?_
  have ej := join_wsO o
  refine Sx.ca rfl (libJoin (xs := wsO o) (by have : (wsO o).length ≠ 0 := (by unfold wsO wsV wsN wsF; simp); omega) (by have := wsV_len o; unfold wsO; split <;> simp <;> omega) rfl (by rw [ej]; omega)) ?_
  rintro v L' ⟨rfl, rfl⟩
  rw [ej]
  refine go ?_
  exact Kr.two (.inr rfl) rfl rfl ent ⟨rfl, rfl⟩
end
end Go.Proofs.YtlpikhdiiehcaaaDoor

/-
  The library's contracts as judgements: Split, Cut, Atoi, ParseUint; words cut at blanks.
-/
set_option linter.unusedVariables false
set_option linter.unusedSimpArgs false
namespace Go.Proofs.YtlpikhdiiehcaaaDoor
open Go Go.RowKit
attribute [local irreducible] Sx Cx Rx Fx Krg Ksq Kbl Klp Kr
/-- A text's words, cut at single blanks. -/
def words : List UInt8 → List (List UInt8)
  | [] => [[]]
  | c :: r => if c = 32 then [] :: words r else
    match words r with
    | [] => [[c]]
    | h :: t => (c :: h) :: t
theorem words_ne (l : List UInt8) : words l ≠ [] := by
  cases l with
  | nil => simp [words]
  | cons c r =>
    unfold words
    split
    · simp
    · split <;> simp
theorem words_len (s : List UInt8) : (words s).length ≤ s.length + 1 := by
  induction s with
  | nil => simp [words]
  | cons c r ih =>
    unfold words
    split
    · simp; omega
    · split
      · simp
      · rename_i h t e; rw [e] at ih; simp at ih ⊢; omega
theorem index_one (b : UInt8) (l : List UInt8) : Lib.index (b :: l) [32] = if b = 32 then 0 else if Lib.index l [32] = -1 then -1 else Lib.index l [32] + 1 := by
  conv => lhs; unfold Lib.index
  by_cases h : b = 32
  · subst h; simp [List.isPrefixOf]
  · rw [if_neg h]
    have : ([32].isPrefixOf (b :: l)) = false := by
      simp only [List.isPrefixOf, Bool.and_true, beq_eq_false_iff_ne, ne_eq]
      exact fun e => h e.symm
    rw [this]
    simp [beq_iff_eq]
theorem index_low (l : List UInt8) : -1 ≤ Lib.index l [32] := by
  induction l with
  | nil => unfold Lib.index; simp
  | cons b l ih => rw [index_one]; (repeat' split) <;> omega
theorem words_miss (l : List UInt8) (h : Lib.index l [32] = -1) : words l = [l] := by
  induction l with
  | nil => rfl
  | cons b l ih =>
    rw [index_one] at h
    have := index_low l
    split at h
    · omega
    · rename_i hb
      split at h
      · rename_i h1
        unfold words
        rw [if_neg hb, ih h1]
      · omega
theorem words_hit (l : List UInt8) (i : Nat) (h : Lib.index l [32] = i) : words l = l.take i :: words (l.drop (i + 1)) := by
  induction l generalizing i with
  | nil => unfold Lib.index at h; simp at h
  | cons b l ih =>
    rw [index_one] at h
    have := index_low l
    split at h
    · rename_i hb
      have : i = 0 := by omega
      subst this
      conv => lhs; unfold words
      rw [if_pos hb]; rfl
    · rename_i hb
      split at h
      · omega
      · obtain ⟨j, rfl⟩ : ∃ j, i = j + 1 := ⟨i - 1, by omega⟩
        have := ih j (by omega)
        conv => lhs; unfold words
        rw [if_neg hb, this]
        rfl
theorem splitK_words : ∀ (f : Nat) (l : List UInt8), l.length < f → Lib.splitK [32] 0 (Lib.countFrom [32] f l) l = words l ∧ (words l).length = Lib.countFrom [32] f l + 1
  | 0, l, h => by omega
  | f + 1, l, h => by
    unfold Lib.countFrom
    by_cases hi : Lib.index l [32] = -1
    · rw [if_pos (beq_iff_eq.2 hi), words_miss l hi]
      exact ⟨rfl, rfl⟩
    · obtain ⟨i, e⟩ : ∃ i : Nat, Lib.index l [32] = i := ⟨(Lib.index l [32]).toNat, by have := index_low l; omega⟩
      rw [if_neg (by simpa using hi), words_hit l i e, e, Int.toNat_natCast, Nat.add_comm 1]
      have hl : 0 < l.length := by
        cases l with
        | nil => exact absurd rfl hi
        | cons => simp
      obtain ⟨h1, h2⟩ := splitK_words f (l.drop (i + ([32] : List UInt8).length)) (by simp only [List.length_drop, List.length_cons, List.length_nil]; omega)
      refine ⟨?_, by rw [List.length_cons, show l.drop (i + 1) = l.drop (i + ([32] : List UInt8).length) from rfl, h2]⟩
      unfold Lib.splitK
      rw [if_neg (by simpa using hi), e, Int.toNat_natCast, h1]
      rfl
theorem split_words (l : List UInt8) : Lib.splitK [32] 0 (Lib.count l [32]) l = words l ∧ (words l).length = Lib.count l [32] + 1 := splitK_words _ l (by omega)
/-- The number, whatever is told beside. -/
def atoiV (l : List UInt8) : Int := match Lib.atoiAll l with
  | .ok v => v
  | .range => Lib.atoiSat l
  | _ => 0
def uintV (l : List UInt8) : Nat := match Lib.parseUintB 64 l with
  | .ok v => v
  | .range => 18446744073709551615
  | _ => 0
section
variable {L F G : St} {w : World}
theorem below_bytes {w w' : World} (h : w' = w ∨ ∃ t, w' = Lib.bytesWorld w 5 t) : Below w.heap.size w w' := by
  rcases h with rfl | ⟨t, rfl⟩
  · exact Below.refl _ _
  · exact Lib.bytesWorld_below _ _ _
theorem libAtoi (l : LibOk w) (hL : Ent L [Old w]) (s : List UInt8) (hs : s.length ≤ 1000) : Fx Tryd.prog 35 [str s] L (fun v L' => (∃ e, v = .tuple #[.int .i64 (atoiV s), e]) ∧ L = L') :=
  Fx.libs fun w0 W st => by
    have lk := l.later st hL
    have hsz : (⟨s.toArray⟩ : ByteArray).size = s.length := rfl
    unfold atoiV
    cases h : Lib.atoiAll s
    · rename_i v
      exact (Tryd.strconv_Atoi_ok ⟨s.toArray⟩ (by omega) v h W).mono fun e w' ⟨he, hw⟩ => ⟨_, he, ⟨_, rfl⟩, below_bytes hw⟩
    · obtain ⟨ev, h1, h2⟩ := lk.syn
      exact (Tryd.strconv_Atoi_syntax ⟨s.toArray⟩ (by omega) h ev W h1 h2).mono fun e w' ⟨N, he, _, _, hb⟩ => ⟨_, he, ⟨_, rfl⟩, hb⟩
    · obtain ⟨ev, h1, h2⟩ := lk.rng
      exact (Tryd.strconv_Atoi_range ⟨s.toArray⟩ (by omega) h ev W h1 h2).mono fun e w' ⟨N, he, _, _, hb⟩ => ⟨_, he, ⟨_, rfl⟩, hb⟩
theorem libUint (l : LibOk w) (hL : Ent L [Old w]) (s : List UInt8) (hs : s.length ≤ 1000) : Fx Tryd.prog 36 [str s, .int .i64 10, .int .i64 64] L (fun v L' => (∃ e, v = .tuple #[.int .u64 (uintV s), e]) ∧ L = L') :=
  Fx.libs fun w0 W st => by
    have lk := l.later st hL
    have hsz : (⟨s.toArray⟩ : ByteArray).size = s.length := rfl
    unfold uintV
    cases h : Lib.parseUintB 64 s
    · rename_i v
      exact (Tryd.strconv_ParseUint_10_at64_ok ⟨s.toArray⟩ (by omega) v h W).mono fun e w' ⟨he, hw⟩ => ⟨_, he, ⟨_, rfl⟩, below_bytes (hw.imp id fun h => ⟨_, h⟩)⟩
    · obtain ⟨ev, h1, h2⟩ := lk.syn
      exact (Tryd.strconv_ParseUint_10_at64_syntax ⟨s.toArray⟩ (by omega) h ev W h1 h2).mono fun e w' ⟨N, he, _, _, hb⟩ => ⟨_, he, ⟨_, rfl⟩, hb⟩
    · obtain ⟨ev, h1, h2⟩ := lk.rng
      exact (Tryd.strconv_ParseUint_10_at64_range ⟨s.toArray⟩ (by omega) h ev W h1 h2).mono fun e w' ⟨N, he, _, _, hb⟩ => ⟨_, he, ⟨_, rfl⟩, hb⟩
def cutDot (s : List UInt8) : List UInt8 × List UInt8 × Bool := Lib.cut s [46]
theorem libCut (l : LibOk w) (hL : Ent L [Old w]) (s : List UInt8) (hs : s.length ≤ 1000) : Fx Tryd.prog 34 [str s, str [46]] L (fun v L' => v = .tuple #[str (cutDot s).1, str (cutDot s).2.1, .bool (cutDot s).2.2] ∧ L = L') :=
  Fx.lib fun w0 W st => by
    have lk := l.later st hL
    have hsz : (⟨s.toArray⟩ : ByteArray).size = s.length := rfl
    obtain ⟨m, hm⟩ := lk.mx
    exact (Tryd.strings_Cut ⟨s.toArray⟩ ⟨[46].toArray⟩ m W (by omega) hm).mono fun e w' ⟨he, n, hw⟩ => ⟨he, by rw [hw]; exact ⟨rfl, rfl, rfl, Nat.le_refl _, fun _ _ => rfl⟩⟩
theorem libSplit (l : LibOk w) (hL : Ent L [Old w]) (s : List UInt8) (hs : s.length ≤ 1000) :
    Fx Tryd.prog 32 [str s, str [32]] L (fun v L' => ∃ g, v = .slice (some ⟨g, 0, none⟩) (words s).length (words s).length ∧ L' = pt (some ⟨g, 0, none⟩) (Row 9 1 (words s).length (words s).length ((words s).map str)) :: L) := by
  unfold Fx
  intro w0 W st
  have lk := l.later st hL
  have hsz : (⟨s.toArray⟩ : ByteArray).size = s.length := rfl
  obtain ⟨m, hm⟩ := lk.mx
  refine (Tryd.strings_Split ⟨s.toArray⟩ ⟨[32].toArray⟩ m W (by omega) hm (by decide)).mono fun e w' ⟨he, hw⟩ => ?_
  obtain ⟨h1, h2⟩ := split_words s
  have hc : Lib.countB (⟨s.toArray⟩ : ByteArray) ⟨[32].toArray⟩ = Lib.count s [32] := rfl
  have h3 := Lib.splitB_data ⟨[32].toArray⟩ 0 (Lib.countB (⟨s.toArray⟩ : ByteArray) ⟨[32].toArray⟩) ⟨s.toArray⟩
  rw [show Lib.splitK (⟨[32].toArray⟩ : ByteArray).data.toList 0 (Lib.countB (⟨s.toArray⟩ : ByteArray) ⟨[32].toArray⟩) (⟨s.toArray⟩ : ByteArray).data.toList = words s from h1] at h3
  generalize Lib.splitB ⟨[32].toArray⟩ 0 (Lib.countB (⟨s.toArray⟩ : ByteArray) ⟨[32].toArray⟩) ⟨s.toArray⟩ = bs at h3 hw
  rw [hc, ← h2] at he
  refine ⟨_, _, he, ⟨W.heap.size, rfl, rfl⟩, ?_⟩
  have h4 : bs.map Value.string = (words s).map str := by
    rw [← h3, List.map_map]
    refine List.map_congr_left fun b _ => ?_
    rfl
  rw [h4] at hw
  rw [hw]
  have h5 := words_len s
  exact st.newRow (by simp) (Nat.le_refl _) (by unfold maxLen; omega) (by simp) (by rw [Nat.mul_one]; exact List.take_of_length_le (by simp))
end
end Go.Proofs.YtlpikhdiiehcaaaDoor

/-
  The program's operation of a text (op.Get): the words in hand.
-/
set_option linter.unusedVariables false
set_option linter.unusedSimpArgs false
namespace Go.Proofs.YtlpikhdiiehcaaaDoor
open Go Go.RowKit
attribute [local irreducible] Sx Cx Rx Fx Krg Ksq Kbl Klp Kr
/-- The words that are left, as a slice of all. -/
structure Pos (ws : List (List UInt8)) (g : Nat) (rest : List (List UInt8)) (a : Option Addr) (n c : Nat) : Prop where
  n : n = rest.length
  c : c = rest.length
  d : ∃ done : List (List UInt8), ws = done ++ rest ∧ (rest ≠ [] → a = some ⟨g, done.length, none⟩)
theorem Pos.all (ws : List (List UInt8)) (g : Nat) : Pos ws g ws (some ⟨g, 0, none⟩) ws.length ws.length := ⟨rfl, rfl, [], rfl, fun _ => rfl⟩
theorem Pos.next {ws : List (List UInt8)} {g o : Nat} {x : List UInt8} {r : List (List UInt8)} {n c : Nat} (p : Pos ws g (x :: r) (some ⟨g, o, none⟩) n c) :
    Pos ws g r (some ⟨g, o + skp c 1 1, none⟩) (n - 1) (c - 1) := by
  obtain ⟨done, h1, h2⟩ := p.d
  have h3 := h2 (by simp)
  injection h3 with h3
  injection h3 with _ h3
  subst h3
  refine ⟨by rw [p.n]; simp, by rw [p.c]; simp, done ++ [x], by rw [h1]; simp, fun hr => ?_⟩
  have hc := p.c
  have : r.length ≠ 0 := fun e => hr (List.eq_nil_of_length_eq_zero e)
  rw [List.length_cons] at hc
  unfold skp
  rw [if_neg (by omega)]
  simp
def nextW : Bool → List (List UInt8) → List UInt8 × List (List UInt8)
  | true, x :: r => (x, r)
  | _, l => ([], l)
section
variable {L F G : St} {w : World}
theorem opNext {g4 gw n c : Nat} {T : TypeId} {a : Option Addr} {ws rest : List (List UInt8)} [t : Take L (some ⟨g4, 0, none⟩) (Blk T [.slice a n c]) F] (is : Bool) (p : Pos ws gw rest a n c) (hh : Has F gw 0 (ws.map str)) :
    Fx Tryd.prog 33 [.bool is, .pointer (some ⟨g4, 0, none⟩)] L (fun v L' => ∃ a' n' c', Pos ws gw (nextW is rest).2 a' n' c' ∧ v = str (nextW is rest).1 ∧ L' = pt (some ⟨g4, 0, none⟩) (Blk T [.slice a' n' c']) :: F) := by
  refine Fx.mk Tryd.func33 k33 (Nat.le_of_ble_eq_true rfl) ?_
  dsimp only [c33, envOf, Nat.reduceAdd]
  cases is with
  | false =>
    refine go ?_
    exact Kr.one (.inr rfl) rfl (Ent.of t.out) ⟨a, n, c, p, rfl, rfl⟩
  | true =>
    cases rest with
    | nil =>
      have hn := p.n
      simp only [List.length_nil] at hn
      subst hn
      refine go ?_
      exact Kr.one (.inr rfl) rfl (Ent.of t.out) ⟨a, 0, c, p, rfl, rfl⟩
    | cons x r =>
      obtain ⟨done, h1, h2⟩ := p.d
      have ha := h2 (by simp)
      have hn := p.n
      have hc := p.c
      simp only [List.length_cons] at hn hc
      subst ha
      refine go ?_
      refine Cx.cno rfl (by simp; omega) ?_
      refine go ?_
      refine Sx.pv rfl (by omega) ?_
      have hx : Has L gw (done.length + (0 : Int).toNat * 1) [str x] := by
        have h0 : Has F gw (0 + done.length) (((ws.map str).drop done.length).take 1) := hh.sub
        have h3 : ((ws.map str).drop done.length).take 1 = [str x] := by
          rw [h1, List.map_append, List.drop_left' (by simp)]; rfl
        rw [h3] at h0
        rw [show done.length + (0 : Int).toNat * 1 = 0 + done.length by omega]
        exact h0.ent (Ent.trans (Ent.of t.out) Ent.drop)
      refine Sx.ld rfl hx rfl ?_
      refine go ?_
      refine Sx.pv rfl (by omega) ?_
      refine go ?_
      exact Kr.one (.inr rfl) rfl (Ent.refl _) ⟨_, _, _, p.next, rfl, rfl⟩
end
end Go.Proofs.YtlpikhdiiehcaaaDoor

/-
  A function with two results, the first a variable of its own.
-/
set_option linter.unusedVariables false
set_option linter.unusedSimpArgs false
namespace Go.Proofs.YtlpikhdiiehcaaaDoor
open Go
section
variable {P : Program} {N : Nat} {e : En} {L F : St}
theorem cRs_t1 {rs : List ResultVar} {t : Nat} (h : cRs P rs = some [.t t]) : rs = [.tmp t] := by
  match rs with
  | [] => simp [cRs] at h
  | [.tmp i] => simp [cRs, cR] at h; rw [h]
  | [.cell a ty] =>
    simp only [cRs, cR] at h
    cases h1 : szT P ty with
    | none => simp [h1] at h
    | some m =>
      cases h2 : isAggT P ty with
      | none => simp [h1, h2] at h
      | some q => simp [h1, h2] at h
  | r :: r' :: l =>
    simp only [cRs] at h
    split at h
    · split at h
      · rename_i _ _ us hus
        split at hus
        · split at hus
          · cases hus; simp at h
          · cases hus
        · cases hus
      · cases h
    · cases h
theorem cRs_ct {rs : List ResultVar} {t u n : Nat} {g : Bool} (h : cRs P rs = some [.c u n g, .t t]) : ∃ ty, rs = [.cell u ty, .tmp t] ∧ szT P ty = some n ∧ isAggT P ty = some g := by
  match rs with
  | [] => simp [cRs] at h
  | r :: l =>
    simp only [cRs] at h
    split at h
    · rename_i r' hr
      split at h
      · rename_i l' hl
        simp only [Option.some.injEq, List.cons.injEq] at h
        obtain ⟨rfl, rfl⟩ := h
        have := cRs_t1 hl
        subst this
        cases r with
        | tmp t' => simp [cR] at hr
        | cell a ty =>
          simp only [cR] at hr
          cases h1 : szT P ty with
          | none => simp [h1] at hr
          | some m =>
            cases h2 : isAggT P ty with
            | none => simp [h1, h2] at hr
            | some q =>
              simp only [h1, h2, Option.some.injEq, RV.c.injEq] at hr
              obtain ⟨rfl, rfl, rfl⟩ := hr
              exact ⟨ty, rfl, h1, h2⟩
      · cases h
    · cases h
theorem Rv_ct {t u n b off : Nat} {x : Value} {vs : List Value} (hx : e.get t = some x) (h : e.get u = some (.pointer (some ⟨b, off, none⟩))) (hh : Has L b off vs) (hn : Nat.beq vs.length n = true) : Rv P N [.c u n true, .t t] e L (.tuple #[.agg vs.toArray, x]) := by
  intro fn a w0 w hr ok s
  obtain ⟨ty, hres, hs, hg⟩ := cRs_ct hr
  have hr2 : fn.results = #[.cell u ty, .tmp t] := by apply Array.ext'; simpa using hres
  have ht := ok.get _ _ h
  have ht2 := ok.get _ _ hx
  have hc := hh w0 w s
  have hn := Nat.eq_of_beq_eq_true hn
  have hl := run_loadCells_list (P := P) w ⟨b, off, none⟩ vs (fun j v hj => by rw [partPlace]; exact hc j v hj)
  rw [hn] at hl
  simp [results, hr2, ht, ht2, loadVar, isAggT_eq hg, szT_eq hs, hl, asAddr]
theorem Kr_ct {R : Value → St → Prop} {t u n b : Nat} {v : Value} {T : TypeId} {cs : List Value} {x : Ex} [i : Take L (some ⟨b, 0, none⟩) (Blk T cs) F] (hx : x = .nm ∨ x = .rt) (h : e.get u = some (.pointer (some ⟨b, 0, none⟩))) (hv : e.get t = some v) (hn : Nat.beq cs.length n = true)
    {L' : St} (hL : Ent L L') (hR : R (.tuple #[.agg cs.toArray, v]) L') : Kr P N [.c u n true, .t t] R x e L := by
  have hn' := Nat.eq_of_beq_eq_true hn
  have e1 : (cs.drop 0).take n = cs := by simp [← hn']
  have hb : Has L b 0 cs := by
    have := Has.blk (T := T) (cs := cs) (n := n) (off := 0) (L := L) (b := b)
    rw [e1] at this; exact this
  exact ⟨hx, _, L', Rv_ct hv h hb hn, hL, hR⟩
end
end Go.Proofs.YtlpikhdiiehcaaaDoor

/-
  The program's operation of a text (op.Get).
-/
set_option linter.unusedVariables false
set_option linter.unusedSimpArgs false
namespace Go.Proofs.YtlpikhdiiehcaaaDoor
open Go Go.RowKit
attribute [local irreducible] Sx Cx Rx Fx Krg Ksq Kbl Klp Kr
/-- The last kind up to so many with that name. -/
def kindTo (x : List UInt8) : Nat → Nat
  | 0 => 0
  | k + 1 => if (formN (k + 1)).name = x then k + 1 else kindTo x k
def kindW (s : List UInt8) : Nat := kindTo ((words s).headD []) 12
def frmW (s : List UInt8) : Frm := formN (kindW s)
def nx1 (s : List UInt8) := nextW (!decide ((frmW s).of_ = 0)) (words s).tail
def nx2 (s : List UInt8) := nextW (frmW s).n (nx1 s).2
def nx3 (s : List UInt8) := nextW (frmW s).v (nx2 s).2
def nx4 (s : List UInt8) := nextW (frmW s).w (nx3 s).2
/-- What the program reads out of a text. -/
def parseO (s : List UInt8) : Opn := ⟨kindW s, atoiV (cutDot (nx1 s).1).1, atoiV (cutDot (nx1 s).1).2.1, atoiV (nx2 s).1, uintV (nx3 s).1, uintV (nx4 s).1⟩
def getO (s : List UInt8) : Opn × Int := if mayO (parseO s) = true ∧ printO (parseO s) = s then (parseO s, 0) else (Opn.zero, 10)
theorem words_mem {s x : List UInt8} (h : x ∈ words s) : x.length ≤ s.length := by
  induction s generalizing x with
  | nil => simp [words] at h; subst h; simp
  | cons c r ih =>
    unfold words at h
    split at h
    · rcases List.mem_cons.1 h with rfl | h
      · simp
      · have := ih h; simp; omega
    · split at h
      · simp at h; subst h; simp
      · rename_i y t e
        rcases List.mem_cons.1 h with rfl | h
        · have := ih (x := y) (by rw [e]; simp); simp; omega
        · have := ih (x := x) (by rw [e]; simp [h]); simp; omega
def Short (s : List UInt8) (l : List (List UInt8)) : Prop := ∀ x ∈ l, x.length ≤ s.length
theorem Short.next {s : List UInt8} {l : List (List UInt8)} (h : Short s l) (b : Bool) : (nextW b l).1.length ≤ s.length ∧ Short s (nextW b l).2 := by
  cases b with
  | false => exact ⟨by simp [nextW], h⟩
  | true =>
    cases l with
    | nil => exact ⟨by simp [nextW], h⟩
    | cons x r => exact ⟨h x (by simp), fun y hy => h y (List.mem_cons_of_mem _ hy)⟩
theorem short1 (s : List UInt8) : (nx1 s).1.length ≤ s.length ∧ Short s (nx1 s).2 := Short.next (fun x hx => words_mem (List.mem_of_mem_tail hx)) _
theorem short2 (s : List UInt8) : (nx2 s).1.length ≤ s.length ∧ Short s (nx2 s).2 := Short.next (short1 s).2 _
theorem short3 (s : List UInt8) : (nx3 s).1.length ≤ s.length ∧ Short s (nx3 s).2 := Short.next (short2 s).2 _
theorem short4 (s : List UInt8) : (nx4 s).1.length ≤ s.length ∧ Short s (nx4 s).2 := Short.next (short3 s).2 _
theorem cut_len (x : List UInt8) : (cutDot x).1.length ≤ x.length ∧ (cutDot x).2.1.length ≤ x.length := by
  unfold cutDot Lib.cut
  split
  · simp only [List.length_take, List.length_drop]; omega
  · simp
theorem uintM_lt : ∀ (l : List UInt8) (acc v : Nat), acc < 18446744073709551616 → Lib.parseUintM (2 ^ 64 - 1) acc l = .ok v → v < 18446744073709551616
  | [], acc, v, h, e => by simp only [Lib.parseUintM] at e; cases e; exact h
  | c :: r, acc, v, h, e => by
    simp only [Lib.parseUintM] at e
    split at e
    · split at e
      · cases e
      · split at e
        · cases e
        · exact uintM_lt r _ v (by omega) e
    · cases e
theorem uintV_lt (l : List UInt8) : uintV l < 18446744073709551616 := by
  unfold uintV
  split
  · rename_i v h
    unfold Lib.parseUintB at h
    split at h
    · cases h
    · exact uintM_lt l 0 v (by omega) h
  · omega
  · omega
theorem formK_nat0 (k : Nat) : formK (k : Int) = formN k := by
  unfold formK
  split
  · rw [show k = 0 by omega]
  · rfl
section
variable {L F G : St} {w : World}
theorem opPutN (l : LibOk w) (hL : Ent L [Old w]) (o : Opn) (hv : o.v < 18446744073709551616) (hw : o.w < 18446744073709551616) (hm : mayO o = false) :
    Fx Tryd.prog 15 [.agg o.l.toArray] L (fun v L' => v = .tuple #[str [], .int .i64 10] ∧ L = L') := by
  have h := opPut (w := w) l hL o hv hw
  rw [hm] at h
  exact h
theorem opPutY (l : LibOk w) (hL : Ent L [Old w]) (o : Opn) (hv : o.v < 18446744073709551616) (hw : o.w < 18446744073709551616) (hm : mayO o = true) :
    Fx Tryd.prog 15 [.agg o.l.toArray] L (fun v L' => v = .tuple #[str (printO o), .int .i64 0] ∧ L = L') := by
  have h := opPut (w := w) l hL o hv hw
  rw [hm] at h
  exact h
theorem Has.rowAll {b E n cap : Nat} {xs : List Value} [t : Take L (some ⟨b, 0, none⟩) (Row E 1 n cap xs) F] : Has L b 0 xs := by
  refine Has.eqv (Has.row (t := t) (m := xs.length) (off := 0)) ?_
  rw [List.drop_zero, List.take_length]
theorem opGet (l : LibOk w) (hL : Ent L [Old w]) (s : List UInt8) (hs : s.length ≤ 1000) :
    Fx Tryd.prog 17 [str s] L (fun v L' => v = .tuple #[.agg (getO s).1.l.toArray, .int .i64 (getO s).2] ∧ L = L') := by
  have hmx : maxLen = 9223372036854775807 := rfl
  refine Fx.mk Tryd.func17 k17 (Nat.le_of_ble_eq_true rfl) ?_
  dsimp only [c17, envOf, Nat.reduceAdd]
  refine Cx.sq ?_
  refine Cx.rg ?_
  refine Sx.al fun g2 => ?_
  refine go ?_
  refine Sx.ca rfl (libSplit (w := w) l (Ent.trans (M := L) ent hL) s hs) ?_
  rintro v L' ⟨gw, rfl, rfl⟩
  refine go ?_
  refine Sx.al fun g4 => ?_
  refine go ?_
  refine Sx.al fun g5 => ?_
  refine Sx.st (b := g5) (vs := Opn.zero.l) rfl rfl rfl rfl rfl rfl ?_
  refine Sx.reb Opn.zero.l rfl ?_
  refine go ?_
  obtain ⟨x0, r0, hw0⟩ : ∃ x0 r0, words s = x0 :: r0 := by
    cases e : words s with
    | nil => exact absurd e (words_ne s)
    | cons x0 r0 => exact ⟨x0, r0, rfl⟩
  have hN : (words s).length ≤ 1001 := by have := words_len s; omega
  have hN1 : 1 ≤ (words s).length := by rw [hw0]; simp
  refine Cx.lp (α := {i : Nat // i ≤ 12}) (fun i => [(0, str s), (2, .pointer (some ⟨g2, 0, none⟩)), (4, .pointer (some ⟨g4, 0, none⟩)), (5, .pointer (some ⟨g5, 0, none⟩)), (6, .int .i64 ((i.1 : Int) + 1))])
    (fun i => pt (some ⟨g5, 0, none⟩) (Blk 24 [.int .i64 (kindTo x0 i.1), .int .i64 0, .int .i64 0, .int .i64 0, .int .u64 0, .int .u64 0]) :: pt (some ⟨g4, 0, none⟩) (Blk 49 [.slice (some ⟨gw, 0, none⟩) (words s).length (words s).length]) :: pt (some ⟨gw, 0, none⟩) (Row 9 1 (words s).length (words s).length ((words s).map str)) :: pt (some ⟨g2, 0, none⟩) (Blk 24 Opn.zero.l) :: L)
    (fun i => 12 - i.1) ⟨0, by omega⟩ (sub.cons rfl (sub.cons rfl (sub.cons rfl (sub.cons rfl (sub.cons rfl sub.nil))))) ent ?_
  rintro ⟨i, hi⟩
  dsimp only
  refine go ?_
  by_cases h12 : i = 12
  · refine Cx.cno rfl (decide_eq_false (by omega)) ?_
    refine go ?_
    have hk : kindTo x0 i = kindW s := by unfold kindW; rw [hw0, h12]; rfl
    rw [hk]
    have ht : (words s).tail = r0 := by rw [hw0]; rfl
    have p0 : Pos (words s) gw (words s).tail (some ⟨gw, 0 + skp (words s).length 1 1, none⟩) ((words s).length - 1) ((words s).length - 1) := by
      have pa := Pos.all (words s) gw
      rw [ht]
      exact Pos.next (x := x0) (by rw [← hw0]; exact pa)
    have s1 := short1 s
    have s2 := short2 s
    have s3 := short3 s
    have s4 := short4 s
    have sc := cut_len (nx1 s).1
    refine Sx.ca rfl (opForm (kindW s : Int)) ?_
    rintro v L' ⟨rfl, rfl⟩
    rw [show formK (kindW s : Int) = frmW s from formK_nat0 _]
    refine go ?_
    refine Sx.al fun g7 => ?_
    refine Sx.st (b := g7) (vs := (frmW s).l) rfl rfl rfl rfl rfl rfl ?_
    refine Sx.reb (frmW s).l rfl ?_
    refine go ?_
    refine Sx.pv rfl (by omega) ?_
    refine go ?_
    refine Sx.cl (p := []) (q := [.pointer (some ⟨g4, 0, none⟩)]) rfl (by kernel_rfl) rfl (opNext (ws := words s) _ p0 Has.rowAll) ?_
    rintro v L' ⟨a1, n1, c1, p1, rfl, rfl⟩
    rw [show nextW (!decide ((frmW s).of_ = 0)) (words s).tail = nx1 s from rfl] at p1 ⊢
    refine go ?_
    refine Sx.ca rfl (libCut (w := w) l (Ent.trans (M := L) ent hL) (nx1 s).1 (by omega)) ?_
    rintro v L' ⟨rfl, rfl⟩
    refine go ?_
    refine Sx.ca rfl (libAtoi (w := w) l (Ent.trans (M := L) ent hL) (cutDot (nx1 s).1).1 (by omega)) ?_
    rintro v L' ⟨⟨ev1, rfl⟩, rfl⟩
    refine go ?_
    refine Sx.ca rfl (libAtoi (w := w) l (Ent.trans (M := L) ent hL) (cutDot (nx1 s).1).2.1 (by omega)) ?_
    rintro v L' ⟨⟨ev2, rfl⟩, rfl⟩
    refine go ?_
    refine Sx.cl (p := []) (q := [.pointer (some ⟨g4, 0, none⟩)]) rfl (by kernel_rfl) rfl (opNext (ws := words s) (frmW s).n p1 Has.rowAll) ?_
    rintro v L' ⟨a2, n2, c2, p2, rfl, rfl⟩
    rw [show nextW (frmW s).n (nx1 s).2 = nx2 s from rfl] at p2 ⊢
    refine go ?_
    refine Sx.ca rfl (libAtoi (w := w) l (Ent.trans (M := L) ent hL) (nx2 s).1 (by omega)) ?_
    rintro v L' ⟨⟨ev3, rfl⟩, rfl⟩
    refine go ?_
    refine Sx.cl (p := []) (q := [.pointer (some ⟨g4, 0, none⟩)]) rfl (by kernel_rfl) rfl (opNext (ws := words s) (frmW s).v p2 Has.rowAll) ?_
    rintro v L' ⟨a3, n3, c3, p3, rfl, rfl⟩
    rw [show nextW (frmW s).v (nx2 s).2 = nx3 s from rfl] at p3 ⊢
    refine go ?_
    refine Sx.ca rfl (libUint (w := w) l (Ent.trans (M := L) ent hL) (nx3 s).1 (by omega)) ?_
    rintro v L' ⟨⟨ev4, rfl⟩, rfl⟩
    refine go ?_
    refine Sx.cl (p := []) (q := [.pointer (some ⟨g4, 0, none⟩)]) rfl (by kernel_rfl) rfl (opNext (ws := words s) (frmW s).w p3 Has.rowAll) ?_
    rintro v L' ⟨a4, n4, c4, p4, rfl, rfl⟩
    rw [show nextW (frmW s).w (nx3 s).2 = nx4 s from rfl] at p4 ⊢
    refine go ?_
    refine Sx.ca rfl (libUint (w := w) l (Ent.trans (M := L) ent hL) (nx4 s).1 (by omega)) ?_
    rintro v L' ⟨⟨ev5, rfl⟩, rfl⟩
    refine go ?_
    cases hm : mayO (parseO s) with
    | false =>
      skip
      have hg : getO s = (Opn.zero, 10) := by unfold getO; rw [if_neg (by rw [hm]; simp)]
      rw [hg]
      refine Sx.ca (vs := [.agg (parseO s).l.toArray]) rfl (opPutN (w := w) l (Ent.trans (M := L) ent hL) (parseO s) (uintV_lt _) (uintV_lt _) hm) ?_
      rintro v L' ⟨rfl, rfl⟩
      refine go ?_
      refine Sx.st (b := g2) (vs := Opn.zero.l) rfl rfl rfl rfl rfl rfl ?_
      refine Sx.reb Opn.zero.l rfl ?_
      refine go ?_
      exact Kr_ct (b := g2) (.inr rfl) rfl rfl rfl (L' := L) ent ⟨rfl, rfl⟩
    | true =>
      skip
      refine Sx.ca (vs := [.agg (parseO s).l.toArray]) rfl (opPutY (w := w) l (Ent.trans (M := L) ent hL) (parseO s) (uintV_lt _) (uintV_lt _) hm) ?_
      rintro v L' ⟨rfl, rfl⟩
      refine go ?_
      by_cases hp : printO (parseO s) = s
      · have hg : getO s = (parseO s, 0) := by unfold getO; rw [if_pos ⟨hm, hp⟩]
        rw [hg]
        refine Cx.cno rfl (by rw [show decide (printO (parseO s) = s) = true from decide_eq_true hp]; rfl) ?_
        refine go ?_
        refine Sx.st (b := g2) (vs := (parseO s).l) rfl rfl rfl rfl rfl rfl ?_
        refine Sx.reb (parseO s).l rfl ?_
        refine go ?_
        exact Kr_ct (b := g2) (.inr rfl) rfl rfl rfl (L' := L) ent ⟨rfl, rfl⟩
      · have hg : getO s = (Opn.zero, 10) := by unfold getO; rw [if_neg fun h => hp h.2]
        rw [hg]
        refine Cx.cyes rfl (by rw [show decide (printO (parseO s) = s) = false from decide_eq_false hp]; rfl) ?_
        refine go ?_
        refine Sx.st (b := g2) (vs := Opn.zero.l) rfl rfl rfl rfl rfl rfl ?_
        refine Sx.reb Opn.zero.l rfl ?_
        refine go ?_
        exact Kr_ct (b := g2) (.inr rfl) rfl rfl rfl (L' := L) ent ⟨rfl, rfl⟩
  · refine Cx.cyes rfl (decide_eq_true (by omega)) ?_
    refine go ?_
    refine Cx.ordc rfl (by kernel_rfl) ?_
    refine ge ?_
    refine Ev.cakH (by kernel_rfl) rfl rfl (opName ((i : Int) + 1)) ?_
    refine ge ?_
    refine Ev.ldrH (by kernel_rfl) rfl rfl (show ((words s).map str)[0 + (0 : Int).toNat * 1]? = some (str x0) by rw [hw0]; rfl) ?_
    refine ge ?_
    have hfk : formK ((i : Int) + 1) = formN (i + 1) := by unfold formK; rw [if_neg (by omega)]; congr 1
    rw [hfk]
    by_cases hx : (formN (i + 1)).name = x0
    · refine Cx.cyes rfl (decide_eq_true hx) ?_
      have hk : kindTo x0 (i + 1) = i + 1 := by unfold kindTo; rw [if_pos hx]
      refine go ?_
      rw [w64 (by omega) (by omega)]
      refine Klp.nm ⟨i + 1, by omega⟩ (sub.cons rfl (sub.cons rfl (sub.cons rfl (sub.cons rfl (sub.cons rfl sub.nil))))) ?_ (by dsimp only; omega)
      dsimp only
      rw [hk]
      exact ent
    · refine Cx.cno rfl (decide_eq_false hx) ?_
      have hk : kindTo x0 (i + 1) = kindTo x0 i := by unfold kindTo; rw [if_neg hx]; cases i <;> rfl
      refine go ?_
      rw [w64 (by omega) (by omega)]
      refine Klp.nm ⟨i + 1, by omega⟩ (sub.cons rfl (sub.cons rfl (sub.cons rfl (sub.cons rfl (sub.cons rfl sub.nil))))) ?_ (by dsimp only; omega)
      dsimp only
      rw [hk]
      exact ent
end
end Go.Proofs.YtlpikhdiiehcaaaDoor

/-
  Plain: an operation that may be is read back out of its text.
-/
set_option linter.unusedVariables false
set_option linter.unusedSimpArgs false
namespace Go.Proofs.YtlpikhdiiehcaaaDoor
open Go Go.RowKit
theorem words_app (x r : List UInt8) (h : 32 ∉ x) : words (x ++ 32 :: r) = x :: words r := by
  induction x with
  | nil => show words (32 :: r) = _; conv => lhs; unfold words
           rw [if_pos rfl]
  | cons c x ih =>
    have hc : ¬ c = 32 := fun e => h (by rw [e]; simp)
    have := ih (fun e => h (List.mem_cons_of_mem _ e))
    rw [List.cons_append]
    conv => lhs; unfold words
    rw [if_neg hc, this]
theorem words_one (x : List UInt8) (h : 32 ∉ x) : words x = [x] := by
  induction x with
  | nil => rfl
  | cons c x ih =>
    have hc : ¬ c = 32 := fun e => h (by rw [e]; simp)
    have := ih (fun e => h (List.mem_cons_of_mem _ e))
    conv => lhs; unfold words
    rw [if_neg hc, this]
theorem words_join : ∀ (ws : List (List UInt8)), ws ≠ [] → (∀ x ∈ ws, (32 : UInt8) ∉ x) → words (Lib.join ws [32]) = ws
  | [], h, _ => absurd rfl h
  | [x], _, h => by rw [Lib.join_one]; exact words_one x (h x (by simp))
  | x :: y :: r, _, h => by
    have ih := words_join (y :: r) (by simp) (fun z hz => h z (List.mem_cons_of_mem _ hz))
    have e : Lib.join (x :: y :: r) [32] = x ++ 32 :: Lib.join (y :: r) [32] := by
      rw [Lib.join_cons, Lib.join_cons]
      unfold Lib.joinTail
      simp
    rw [e, words_app x _ (h x (by simp)), ih]
theorem digit_toNat (n : Nat) : (UInt8.ofNat (48 + n % 10)).toNat = 48 + n % 10 := by
  rw [UInt8.toNat_ofNat']
  omega
theorem dec_digits (n : Nat) : ∀ b ∈ dec n, 48 ≤ b.toNat ∧ b.toNat ≤ 57 := by
  induction n using Nat.strongRecOn with
  | _ n ih =>
    intro b hb
    by_cases h : n < 10
    · rw [dec_small h] at hb
      simp only [List.mem_cons, List.not_mem_nil, or_false] at hb
      have := digit_toNat n
      rw [Nat.mod_eq_of_lt h] at this
      rw [hb, this]; omega
    · rw [dec_big h] at hb
      rcases List.mem_append.1 hb with hb | hb
      · exact ih (n / 10) (by omega) b hb
      · simp only [List.mem_cons, List.not_mem_nil, or_false] at hb
        rw [hb, digit_toNat]; omega
theorem dec_ne (n : Nat) : dec n ≠ [] := by
  by_cases h : n < 10
  · rw [dec_small h]; simp
  · rw [dec_big h]; simp
theorem dec_no (n : Nat) (c : UInt8) (hc : c.toNat < 48) : c ∉ dec n := fun h => by have := dec_digits n c h; omega
theorem uintM_snoc (M : Nat) (c : UInt8) : ∀ (l : List UInt8) (acc u : Nat), Lib.parseUintM M acc l = .ok u → Lib.parseUintM M acc (l ++ [c]) = Lib.parseUintM M u [c]
  | [], acc, u, h => by simp only [Lib.parseUintM] at h; cases h; rfl
  | b :: l, acc, u, h => by
    rw [List.cons_append]
    simp only [Lib.parseUintM] at h
    conv => lhs; unfold Lib.parseUintM
    split at h
    · rename_i hd
      rw [if_pos hd]
      split at h
      · cases h
      · rename_i h1
        rw [if_neg h1]
        split at h
        · cases h
        · rename_i h2
          rw [if_neg h2]
          exact uintM_snoc M c l _ u h
    · cases h
theorem uintM_dec (n : Nat) (h : n < 18446744073709551616) : Lib.parseUintM (2 ^ 64 - 1) 0 (dec n) = .ok n := by
  induction n using Nat.strongRecOn with
  | _ n ih =>
    have hd := digit_toNat n
    by_cases h1 : n < 10
    · rw [Nat.mod_eq_of_lt h1] at hd
      rw [dec_small h1]
      unfold Lib.parseUintM
      rw [hd, if_pos (by omega), if_neg (by omega), if_neg (by omega), show 0 * 10 + (48 + n - 48) = n by omega]
      rfl
    · rw [dec_big h1, uintM_snoc _ _ _ _ _ (ih (n / 10) (by omega) (by omega))]
      unfold Lib.parseUintM
      rw [hd, if_pos (by omega), if_neg (by omega), show n / 10 * 10 + (48 + n % 10 - 48) = n by omega, if_neg (by omega)]
      rfl
theorem uint10_M : ∀ (l : List UInt8) (acc u : Nat), Lib.parseUintM (2 ^ 64 - 1) acc l = .ok u → Lib.parseUint10 acc l = .ok u
  | [], acc, u, h => h
  | b :: l, acc, u, h => by
    simp only [Lib.parseUintM] at h
    unfold Lib.parseUint10
    split at h
    · rename_i hd
      rw [if_pos hd]
      split at h
      · cases h
      · rename_i h1
        rw [if_neg h1]
        split at h
        · cases h
        · rename_i h2
          rw [if_neg (by omega)]
          exact uint10_M l _ u h
    · cases h
theorem uintV_dec (n : Nat) (h : n < 18446744073709551616) : uintV (dec n) = n := by
  unfold uintV Lib.parseUintB
  rw [if_neg (dec_ne n), uintM_dec n h]
theorem atoiV_dec (n : Nat) (h : n < 9223372036854775808) : atoiV (dec n) = n := by
  have h1 := uint10_M _ _ _ (uintM_dec n (by omega))
  unfold atoiV Lib.atoiAll
  cases e : dec n with
  | nil => exact absurd e (dec_ne n)
  | cons c r =>
    have hc := dec_digits n c (by rw [e]; simp)
    have h2 : Lib.parseMag (dec n) = .ok n := by unfold Lib.parseMag; rw [if_neg (dec_ne n), h1]
    simp only
    rw [if_neg (by omega), ← e, h2]
    simp only
    rw [if_neg (by omega), if_neg (by omega), if_neg (by omega)]
theorem index_dot (x r : List UInt8) (h : 46 ∉ x) : Lib.index (x ++ 46 :: r) [46] = x.length := by
  induction x with
  | nil => show Lib.index (46 :: r) [46] = _; unfold Lib.index; simp [List.isPrefixOf]
  | cons c x ih =>
    have hc : ¬ c = 46 := fun e => h (by rw [e]; simp)
    have := ih (fun e => h (List.mem_cons_of_mem _ e))
    rw [List.cons_append]
    conv => lhs; unfold Lib.index
    have h0 : ([46].isPrefixOf (c :: (x ++ 46 :: r))) = false := by
      simp only [List.isPrefixOf, Bool.and_true, beq_eq_false_iff_ne, ne_eq]
      exact fun e => hc e.symm
    rw [h0, this]
    simp only [Bool.false_eq_true, if_false, List.length_cons]
    rw [if_neg (by simp)]
    push_cast
    rfl
theorem cutDot_at (x r : List UInt8) (h : 46 ∉ x) : cutDot (x ++ 46 :: r) = (x, r, true) := by
  unfold cutDot Lib.cut
  rw [index_dot x r h, if_pos (by omega), Int.toNat_natCast]
  simp only [List.length_cons, List.length_nil]
  rw [List.take_left' rfl, show x.length + (0 + 1) = (x ++ [46]).length by simp, show x ++ 46 :: r = (x ++ [46]) ++ r by simp, List.drop_left' rfl]
theorem nextW_at (b : Bool) (x : List UInt8) (r : List (List UInt8)) : nextW b ((if b then [x] else []) ++ r) = (if b then x else [], r) := by
  cases b with
  | false => rfl
  | true => rfl
theorem formN_name_no (k : Nat) : (32 : UInt8) ∉ (formN k).name := by
  by_cases h : 13 ≤ k
  · rw [formN_big h]; simp
  · rcases (show k = 0 ∨ k = 1 ∨ k = 2 ∨ k = 3 ∨ k = 4 ∨ k = 5 ∨ k = 6 ∨ k = 7 ∨ k = 8 ∨ k = 9 ∨ k = 10 ∨ k = 11 ∨ k = 12 by omega) with rfl | rfl | rfl | rfl | rfl | rfl | rfl | rfl | rfl | rfl | rfl | rfl | rfl <;> decide
theorem kindTo_name {k : Nat} (h1 : 1 ≤ k) (h2 : k ≤ 12) : kindTo (formN k).name 12 = k := by
  rcases (show k = 1 ∨ k = 2 ∨ k = 3 ∨ k = 4 ∨ k = 5 ∨ k = 6 ∨ k = 7 ∨ k = 8 ∨ k = 9 ∨ k = 10 ∨ k = 11 ∨ k = 12 by omega) with rfl | rfl | rfl | rfl | rfl | rfl | rfl | rfl | rfl | rfl | rfl | rfl <;> rfl
def partF (o : Opn) : List (List UInt8) := if hasF o then [dec o.from_.toNat ++ 46 :: dec o.at_.toNat] else []
theorem wsO_no (o : Opn) (h : MayS o) : ∀ x ∈ wsO o, (32 : UInt8) ∉ x := by
  have hd : ∀ n, (32 : UInt8) ∉ dec n := fun n => dec_no n 32 (by decide)
  have hdf : (32 : UInt8) ∉ dec o.from_.toNat ++ 46 :: dec o.at_.toNat := fun e => by
    rcases List.mem_append.1 e with e | e
    · exact hd _ e
    · rcases List.mem_cons.1 e with e | e
      · revert e; decide
      · exact hd _ e
  have hn : (32 : UInt8) ∉ (formK o.kind).name := by
    obtain ⟨k, _, e⟩ := formK_nat h.k.1
    rw [e]; exact formN_name_no k
  intro x hx
  unfold wsO wsV wsN wsF at hx
  simp only [List.mem_append, List.mem_cons] at hx
  rcases hx with (((hx | hx) | hx) | hx) | hx
  · rw [hx]; exact hn
  all_goals
    split at hx
    · simp only [List.mem_cons, List.not_mem_nil, or_false] at hx
      rw [hx]
      first | exact hdf | exact hd _
    · cases hx
theorem words_print (o : Opn) (h : MayS o) : words (printO o) = wsO o := by
  rw [← join_wsO o]
  exact words_join _ (by unfold wsO wsV wsN wsF; simp) (wsO_no o h)
theorem wsO_cons (o : Opn) : wsO o = (formK o.kind).name :: (partF o ++ ((if (formK o.kind).n then [dec o.n.toNat] else []) ++ ((if (formK o.kind).v then [dec o.v] else []) ++ ((if (formK o.kind).w then [dec o.w] else []) ++ [])))) := by
  unfold wsO wsV wsN wsF partF
  simp
theorem parse_print (o : Opn) (h : MayS o) (hv : o.v < 18446744073709551616) (hw : o.w < 18446744073709551616) : parseO (printO o) = o := by
  obtain ⟨k, hk, ek⟩ := formK_nat h.k.1
  have hk2 := h.k
  have hws := words_print o h
  have hwc := wsO_cons o
  have e0 : kindW (printO o) = k := by
    unfold kindW
    rw [hws, hwc, List.headD_cons, ek]
    exact kindTo_name (by omega) (by omega)
  have ef : frmW (printO o) = formK o.kind := by unfold frmW; rw [e0, ek]
  have hF : hasF o = !decide ((formK o.kind).of_ = 0) := by unfold hasF; simp
  have n1 : nx1 (printO o) = (if hasF o then dec o.from_.toNat ++ 46 :: dec o.at_.toNat else [], ((if (formK o.kind).n then [dec o.n.toNat] else []) ++ ((if (formK o.kind).v then [dec o.v] else []) ++ ((if (formK o.kind).w then [dec o.w] else []) ++ [])))) := by
    unfold nx1
    rw [ef, hws, hwc, List.tail_cons, ← hF]
    exact nextW_at (hasF o) _ _
  have n2 : nx2 (printO o) = (if (formK o.kind).n then dec o.n.toNat else [], ((if (formK o.kind).v then [dec o.v] else []) ++ ((if (formK o.kind).w then [dec o.w] else []) ++ []))) := by
    unfold nx2
    rw [ef, n1]
    exact nextW_at _ _ _
  have n3 : nx3 (printO o) = (if (formK o.kind).v then dec o.v else [], ((if (formK o.kind).w then [dec o.w] else []) ++ [])) := by
    unfold nx3
    rw [ef, n2]
    exact nextW_at _ _ _
  have n4 : nx4 (printO o) = (if (formK o.kind).w then dec o.w else [], []) := by
    unfold nx4
    rw [ef, n3]
    exact nextW_at _ _ _
  have bF := mostF_le o
  have bA := mostA_le o
  have bN := mostN_le o
  have hf := h.f
  have ha := h.a
  have hn := h.n
  unfold parseO
  rw [e0, n1, n2, n3, n4]
  have c1 : (k : Int) = o.kind := hk.symm
  have c2 : atoiV (cutDot (if hasF o then dec o.from_.toNat ++ 46 :: dec o.at_.toNat else [])).1 = o.from_ := by
    cases e : hasF o with
    | true =>
      simp only [if_true]
      rw [cutDot_at _ _ (dec_no _ 46 (by decide)), atoiV_dec _ (by omega)]
      omega
    | false =>
      have : (formK o.kind).of_ = 0 := by rw [hF] at e; simpa using e
      have : mostF o = 0 := by unfold mostF; rw [if_neg (by simp [this])]
      show (0 : Int) = _
      omega
  have c3 : atoiV (cutDot (if hasF o then dec o.from_.toNat ++ 46 :: dec o.at_.toNat else [])).2.1 = o.at_ := by
    cases e : hasF o with
    | true =>
      simp only [if_true]
      rw [cutDot_at _ _ (dec_no _ 46 (by decide)), atoiV_dec _ (by omega)]
      omega
    | false =>
      have : (formK o.kind).of_ = 0 := by rw [hF] at e; simpa using e
      have : mostA o = 0 := by unfold mostA; rw [if_neg (by simp [this])]
      show (0 : Int) = _
      omega
  have c4 : atoiV (if (formK o.kind).n then dec o.n.toNat else []) = o.n := by
    cases e : (formK o.kind).n with
    | true =>
      simp only [if_true]
      rw [atoiV_dec _ (by omega)]
      omega
    | false =>
      have : mostN o = 0 := by
        unfold mostN
        split
        · rename_i h1; rw [h1] at e; revert e; decide
        · rw [e]; rfl
      show (0 : Int) = _
      omega
  have c5 : uintV (if (formK o.kind).v then dec o.v else []) = o.v := by
    cases e : (formK o.kind).v with
    | true => simp only [if_true]; exact uintV_dec _ hv
    | false => have := h.v e; rw [this]; rfl
  have c6 : uintV (if (formK o.kind).w then dec o.w else []) = o.w := by
    cases e : (formK o.kind).w with
    | true => simp only [if_true]; exact uintV_dec _ hw
    | false => have := h.w e; rw [this]; rfl
  simp only [c1, c2, c3, c4, c5, c6]
theorem getO_print {o : Opn} (h : mayO o = true) (hv : o.v < 18446744073709551616) (hw : o.w < 18446744073709551616) : getO (printO o) = (o, 0) := by
  unfold getO
  rw [parse_print o (mayS h) hv hw, if_pos ⟨h, rfl⟩]
theorem getO_back {s : List UInt8} (h : (getO s).2 = 0) : mayO (getO s).1 = true ∧ printO (getO s).1 = s := by
  unfold getO at h ⊢
  split
  · rename_i h1; exact h1
  · rename_i h1; rw [if_neg h1] at h; cases h
theorem getO_none {s : List UInt8} (h : ¬ (getO s).2 = 0) : getO s = (Opn.zero, 10) := by
  unfold getO at h ⊢
  split
  · rename_i h1; rw [if_pos h1] at h; exact absurd rfl h
  · rfl
end Go.Proofs.YtlpikhdiiehcaaaDoor

/-
  The laws of layer 18: first, OpSays.
-/
set_option linter.unusedVariables false
set_option linter.unusedSimpArgs false
namespace Go.Proofs.YtlpikhdiiehcaaaDoor
open Go Go.RowKit
attribute [local irreducible] Sx Cx Rx Fx Krg Ksq Kbl Klp Kr
def o77 : Opn := ⟨7, 0, 1, 3, 77, 0⟩
theorem may77 : mayO o77 = true := by decide
theorem print77 : printO o77 = [115, 116, 111, 114, 101, 32, 48, 46, 49, 32, 51, 32, 55, 55] := by
  have e77 : dec 77 = [55, 55] := by rw [dec_big (by omega), dec_small (by omega)]; rfl
  have e0 : dec 0 = [48] := by rw [dec_small (by omega)]; rfl
  have e1 : dec 1 = [49] := by rw [dec_small (by omega)]; rfl
  have e3 : dec 3 = [51] := by rw [dec_small (by omega)]; rfl
  show ([115, 116, 111, 114, 101] ++ (32 :: (dec 0 ++ 46 :: dec 1))) ++ (32 :: dec 3) ++ (32 :: dec 77) ++ [] = _
  rw [e77, e0, e1, e3]
  rfl
section
variable {L F G : St} {w : World}
theorem opFirst (l : LibOk w) (hL : Ent L [Old w]) : Fx Tryd.prog 8 [] L (fun v L' => v = .bool true ∧ L = L') := by
  have hg : getO (printO o77) = (o77, 0) := getO_print may77 (by decide) (by decide)
  refine Fx.mk Tryd.func8 k8 (Nat.le_of_ble_eq_true rfl) ?_
  dsimp only [c8, envOf, Nat.reduceAdd]
  refine go ?_
  refine Sx.al fun g1 => ?_
  refine Sx.st (b := g1) (vs := o77.l) rfl rfl rfl rfl rfl rfl ?_
  refine Sx.reb o77.l rfl ?_
  refine go ?_
  refine Sx.ca (vs := [.agg o77.l.toArray]) rfl (opPutY (w := w) l (Ent.trans (M := L) ent hL) o77 (by decide) (by decide) may77) ?_
  rintro v L' ⟨rfl, rfl⟩
  refine go ?_
  refine Sx.ca rfl (opGet (w := w) l (Ent.trans (M := L) ent hL) (printO o77) (by rw [print77]; decide)) ?_
  rintro v L' ⟨rfl, rfl⟩
  rw [hg]
  refine go ?_
  refine Sx.al fun g4 => ?_
  refine Sx.st (b := g4) (vs := o77.l) rfl rfl rfl rfl rfl rfl ?_
  refine Sx.reb o77.l rfl ?_
  refine go ?_
  refine Sx.gyes rfl (decide_eq_true print77) ?_
  refine go ?_
  refine Sx.ca (vs := [.agg o77.l.toArray]) rfl (opMay o77) ?_
  rintro v L' ⟨rfl, rfl⟩
  rw [may77]
  refine go ?_
  refine Sx.ca rfl (opOf 5) ?_
  rintro v L' ⟨rfl, rfl⟩
  refine go ?_
  exact Kr.one (.inr rfl) rfl (L' := L) ent ⟨rfl, rfl⟩
end
end Go.Proofs.YtlpikhdiiehcaaaDoor

/-
  The laws of layer 18: cut, OpBack.
-/
set_option linter.unusedVariables false
set_option linter.unusedSimpArgs false
namespace Go.Proofs.YtlpikhdiiehcaaaDoor
open Go Go.RowKit
attribute [local irreducible] Sx Cx Rx Fx Krg Ksq Kbl Klp Kr
section
variable {L F G : St} {w : World}
end
end Go.Proofs.YtlpikhdiiehcaaaDoor

/-
  The laws of layer 18: OpBends.
-/
set_option linter.unusedVariables false
set_option linter.unusedSimpArgs false
namespace Go.Proofs.YtlpikhdiiehcaaaDoor
open Go Go.RowKit
attribute [local irreducible] Sx Cx Rx Fx Krg Ksq Kbl Klp Kr
section
variable {P : Program} {N : Nat} {Kf : En → St → Prop} {r : List It} {ms : List (Nat × (St → Prop))} {e : En} {L F : St} {i ds : Nat} {rs : List Nat} {d : Option Nat} {g : Option (Nat × Bool)}
end
section
variable {L F G : St} {w : World}
end
end Go.Proofs.YtlpikhdiiehcaaaDoor

/-
  The document's Number and whole.
-/
set_option linter.unusedVariables false
set_option linter.unusedSimpArgs false
namespace Go.Proofs.YtlpikhdiiehcaaaDoor
open Go Go.RowKit
attribute [local irreducible] Sx Cx Rx Fx Krg Ksq Kbl Klp Kr
def dig (c : UInt8) : Nat := c.toNat - 48
def numGo (s : List UInt8) (at_ : Nat) : Nat → Nat → Nat → Nat × Nat × Bool
  | 0, i, v => (v, i, decide (at_ < i))
  | f + 1, i, v => if i < s.length ∧ 48 ≤ (s.getD i 0).toNat ∧ (s.getD i 0).toNat ≤ 57 then
      if (18446744073709551615 - dig (s.getD i 0)) / 10 < v ∨ (at_ < i ∧ (s.getD at_ 0).toNat = 48) then (0, at_, false)
      else numGo s at_ f (i + 1) (10 * v + dig (s.getD i 0))
    else (v, i, decide (at_ < i))
def numF (s : List UInt8) (at_ : Nat) : Nat × Nat × Bool := numGo s at_ (s.length + 1 - at_) at_ 0
def decVal (v : Nat) (r : List UInt8) : Nat := r.foldl (fun a c => 10 * a + dig c) v
theorem decVal_ge (r : List UInt8) (v : Nat) : v ≤ decVal v r := by
  induction r generalizing v with
  | nil => exact Nat.le_refl _
  | cons c r ih =>
    have := ih (10 * v + dig c)
    show v ≤ decVal (10 * v + dig c) r
    omega
theorem decVal_dec (n : Nat) : decVal 0 (dec n) = n := by
  induction n using Nat.strongRecOn with
  | _ n ih =>
    have hd := digit_toNat n
    by_cases h : n < 10
    · rw [Nat.mod_eq_of_lt h] at hd
      rw [dec_small h]
      show 10 * 0 + dig (UInt8.ofNat (48 + n)) = n
      unfold dig; rw [hd]; omega
    · rw [dec_big h]
      unfold decVal
      rw [List.foldl_append]
      have := ih (n / 10) (by omega)
      unfold decVal at this
      rw [this]
      show 10 * (n / 10) + dig (UInt8.ofNat (48 + n % 10)) = n
      unfold dig; rw [hd]; omega
theorem dec_head (n : Nat) (h : 1 ≤ n) : ∀ c r, dec n = c :: r → c.toNat ≠ 48 := by
  induction n using Nat.strongRecOn with
  | _ n ih =>
    intro c r e
    have hd := digit_toNat n
    by_cases h1 : n < 10
    · rw [Nat.mod_eq_of_lt h1] at hd
      rw [dec_small h1] at e
      cases e
      rw [hd]; omega
    · rw [dec_big h1] at e
      cases e2 : dec (n / 10) with
      | nil => exact absurd e2 (dec_ne _)
      | cons c' r' =>
        rw [e2] at e
        cases e
        exact ih (n / 10) (by omega) (by omega) _ _ e2
theorem dec_two (n : Nat) (h : 2 ≤ (dec n).length) : 1 ≤ n := by
  rcases Nat.eq_zero_or_pos n with rfl | h1
  · rw [dec_small (by omega)] at h; simp at h
  · exact h1
/-- Digits, told one by one. -/
theorem numGo_digits (s : List UInt8) (at_ total : Nat) (hz : 2 ≤ total → (s.getD at_ 0).toNat ≠ 48) (post : List UInt8) (hp : ∀ c r, post = c :: r → ¬ (48 ≤ c.toNat ∧ c.toNat ≤ 57)) :
    ∀ (r : List UInt8) (pre : List UInt8) (f v : Nat), s = pre ++ r ++ post → (∀ c ∈ r, 48 ≤ c.toNat ∧ c.toNat ≤ 57) → decVal v r < 18446744073709551616 → r.length < f → at_ ≤ pre.length → pre.length + r.length = at_ + total →
      numGo s at_ f pre.length v = (decVal v r, at_ + total, decide (at_ < at_ + total))
  | [], pre, f, v, hs, hd, hv, hf, ha, ht => by
    obtain ⟨f, rfl⟩ : ∃ g, f = g + 1 := ⟨f - 1, by simp at hf; omega⟩
    simp only [List.length_nil, Nat.add_zero] at ht
    have hno : ¬ (pre.length < s.length ∧ 48 ≤ (s.getD pre.length 0).toNat ∧ (s.getD pre.length 0).toNat ≤ 57) := by
      rintro ⟨h1, h2⟩
      rw [List.append_nil] at hs
      cases post with
      | nil => rw [hs] at h1; simp at h1
      | cons c q =>
        have : s.getD pre.length 0 = c := by
          rw [hs, List.getD_eq_getElem?_getD, List.getElem?_append_right (Nat.le_refl _), Nat.sub_self]; rfl
        rw [this] at h2
        exact hp c q rfl h2
    unfold numGo
    rw [if_neg hno, ← ht]
    rfl
  | c :: r, pre, f, v, hs, hd, hv, hf, ha, ht => by
    obtain ⟨f, rfl⟩ : ∃ g, f = g + 1 := ⟨f - 1, by simp at hf; omega⟩
    have hc := hd c (by simp)
    have hg : s.getD pre.length 0 = c := by
      rw [hs, List.append_assoc, List.getD_eq_getElem?_getD, List.getElem?_append_right (Nat.le_refl _), Nat.sub_self]; rfl
    have hl : pre.length < s.length := by rw [hs]; simp
    have hge := decVal_ge r (10 * v + dig c)
    have hv' : decVal (10 * v + dig c) r < 18446744073709551616 := hv
    simp only [List.length_cons] at hf ht
    unfold numGo
    rw [hg, if_pos ⟨hl, hc⟩, if_neg (by
      rintro (h | ⟨h1, h2⟩)
      · omega
      · exact hz (by omega) h2)]
    have := numGo_digits s at_ total hz post hp r (pre ++ [c]) f (10 * v + dig c) (by rw [hs]; simp) (fun x hx => hd x (by simp [hx])) hv' (by omega) (by simp; omega) (by simp; omega)
    rw [List.length_append] at this
    exact this
theorem numF_dec (pre post : List UInt8) (n : Nat) (h : n < 18446744073709551616) (hp : ∀ c r, post = c :: r → ¬ (48 ≤ c.toNat ∧ c.toNat ≤ 57)) :
    numF (pre ++ dec n ++ post) pre.length = (n, pre.length + (dec n).length, true) := by
  have hne : 0 < (dec n).length := List.length_pos_iff.2 (dec_ne n)
  have hz : 2 ≤ (dec n).length → ((pre ++ dec n ++ post).getD pre.length 0).toNat ≠ 48 := fun h2 => by
    cases e : dec n with
    | nil => exact absurd e (dec_ne n)
    | cons c r =>
      rw [List.append_assoc, List.getD_eq_getElem?_getD, List.getElem?_append_right (Nat.le_refl _), Nat.sub_self]
      exact dec_head n (dec_two n h2) c r e
  have := numGo_digits (pre ++ dec n ++ post) pre.length (dec n).length hz post hp (dec n) pre ((pre ++ dec n ++ post).length + 1 - pre.length) 0 rfl (dec_digits n) (by rw [decVal_dec]; exact h) (by simp; omega) (Nat.le_refl _) rfl
  unfold numF
  rw [this, decVal_dec, decide_eq_true (by omega)]
theorem numGo_bounds (s : List UInt8) (at_ : Nat) (ha : at_ ≤ s.length) : ∀ (f i v : Nat), i ≤ s.length → at_ ≤ i → v < 18446744073709551616 → (numGo s at_ f i v).1 < 18446744073709551616 ∧ (numGo s at_ f i v).2.1 ≤ s.length
  | 0, i, v, hi, hai, hv => ⟨hv, hi⟩
  | f + 1, i, v, hi, hai, hv => by
    unfold numGo
    split
    · rename_i h
      split
      · exact ⟨by simp, ha⟩
      · rename_i h2
        have hd : dig (s.getD i 0) ≤ 9 := by unfold dig; omega
        exact numGo_bounds s at_ ha f (i + 1) _ (by omega) (by omega) (by omega)
    · exact ⟨hv, hi⟩
theorem numF_bounds (s : List UInt8) (at_ : Nat) (ha : at_ ≤ s.length) : (numF s at_).1 < 18446744073709551616 ∧ (numF s at_).2.1 ≤ s.length := numGo_bounds s at_ ha _ at_ 0 ha (Nat.le_refl _) (by omega)
theorem numGo_step (s : List UInt8) (at_ i v : Nat) (hi : i ≤ s.length) : numGo s at_ (s.length + 1 - i) i v = if i < s.length ∧ 48 ≤ (s.getD i 0).toNat ∧ (s.getD i 0).toNat ≤ 57 then
      if (18446744073709551615 - dig (s.getD i 0)) / 10 < v ∨ (at_ < i ∧ (s.getD at_ 0).toNat = 48) then (0, at_, false)
      else numGo s at_ (s.length + 1 - (i + 1)) (i + 1) (10 * v + dig (s.getD i 0))
    else (v, i, decide (at_ < i)) := by
  rw [show s.length + 1 - i = (s.length + 1 - (i + 1)) + 1 by omega]
  conv => lhs; unfold numGo
section
variable {L F G : St} {w : World}
set_option maxHeartbeats 1000000 in
theorem ref18Number (s : List UInt8) (at_ : Nat) (hs : s.length ≤ 1000) (ha : at_ ≤ s.length) : Fx Tryd.prog 38 [str s, .int .i64 at_] L
    (fun v L' => v = .tuple #[.int .u64 (numF s at_).1, .int .i64 (numF s at_).2.1, .bool (numF s at_).2.2] ∧ L = L') := by
  have hsz : (⟨s.toArray⟩ : ByteArray).size = s.length := rfl
  have hdl : (⟨s.toArray⟩ : ByteArray).data.toList.length = s.length := rfl
  have hdiv : ∀ v : Nat, Int.tdiv (v : Int) 10 = ((v / 10 : Nat) : Int) := fun _ => rfl
  refine Fx.mk Tryd.func38 k38 (Nat.le_of_ble_eq_true rfl) ?_
  dsimp only [c38, envOf, Nat.reduceAdd]
  refine go ?_
  refine Cx.lp (α := {p : Nat × Nat // p.1 ≤ s.length ∧ at_ ≤ p.1 ∧ p.2 < 18446744073709551616 ∧ numGo s at_ (s.length + 1 - p.1) p.1 p.2 = numF s at_}) (fun p => [(0, str s), (1, .int .i64 at_), (8, .int .i64 (p.1.1 : Nat)), (7, .int .u64 (p.1.2 : Nat))]) (fun _ => L) (fun p => s.length + 1 - p.1.1)
    ⟨(at_, 0), ha, Nat.le_refl _, by simp, rfl⟩ (sub.cons rfl (sub.cons rfl (sub.cons rfl (sub.cons rfl sub.nil)))) (Ent.refl _) ?_
  rintro ⟨⟨i, v⟩, hi, hai, hv, hg⟩
  dsimp only at hi hai hv hg ⊢
  have stp := numGo_step s at_ i v hi
  rw [hg] at stp
  have hcb := UInt8.toNat_lt (s.getD i 0)
  have hgd : (⟨s.toArray⟩ : ByteArray).data.toList.getD ((i : Nat) : Int).toNat 0 = s.getD i 0 := rfl
  refine go ?_
  by_cases h1 : i < s.length
  · refine Sx.gyes rfl (decide_eq_true (by rw [hsz]; omega)) ?_
    refine go ?_
    refine Sx.pv rfl ⟨by omega, by omega⟩ ?_
    refine go ?_
    by_cases h2 : 48 ≤ (s.getD i 0).toNat
    · refine Sx.gyes rfl (decide_eq_true (by show (48 : Int) ≤ (((s.getD i 0).toNat : Nat) : Int); omega)) ?_
      refine go ?_
      refine Sx.pv rfl ⟨by omega, by omega⟩ ?_
      refine go ?_
      by_cases h3 : (s.getD i 0).toNat ≤ 57
      · refine Cx.cyes rfl (decide_eq_true (by show (((s.getD i 0).toNat : Nat) : Int) ≤ 57; omega)) ?_
        rw [if_pos ⟨h1, h2, h3⟩] at stp
        refine go ?_
        refine Sx.pv rfl ⟨by omega, by omega⟩ ?_
        refine go ?_
        rw [hgd, wu8 (n := (((s.getD i 0).toNat : Nat) : Int) - 48) (by omega) (by omega), show (((s.getD i 0).toNat : Nat) : Int) - 48 = ((dig (s.getD i 0) : Nat) : Int) by unfold dig; omega]
        have hd9 : dig (s.getD i 0) ≤ 9 := by unfold dig; omega
        generalize dig (s.getD i 0) = d at hd9 stp
        rw [wu64 (n := ((d : Nat) : Int)) (by omega) (by omega)]
        refine go ?_
        rw [wu64 (n := 18446744073709551615 - ((d : Nat) : Int)) (by omega) (by omega), show (18446744073709551615 : Int) - (d : Nat) = ((18446744073709551615 - d : Nat) : Int) by omega]
        refine Sx.pv rfl (by omega) ?_
        rw [hdiv, wu64 (n := (((18446744073709551615 - d) / 10 : Nat) : Int)) (by omega) (by omega)]
        refine go ?_
        by_cases h4 : (18446744073709551615 - d) / 10 < v
        · rw [if_pos (.inl h4)] at stp
          refine Sx.gno rfl (decide_eq_true (by omega)) ?_
          refine go ?_
          exact Kr.three (.inr rfl) rfl rfl rfl (Ent.refl _) ⟨by rw [stp]; rfl, rfl⟩
        · refine Sx.gyes rfl (decide_eq_false (by omega)) ?_
          refine go ?_
          by_cases h5 : at_ < i
          · refine Sx.gyes rfl (decide_eq_true (by omega)) ?_
            refine go ?_
            refine Sx.pv rfl ⟨by omega, by omega⟩ ?_
            refine go ?_
            by_cases h6 : (s.getD at_ 0).toNat = 48
            · rw [if_pos (.inr ⟨h5, h6⟩)] at stp
              refine Cx.cyes rfl (decide_eq_true (by show (((s.getD at_ 0).toNat : Nat) : Int) = 48; omega)) ?_
              refine go ?_
              exact Kr.three (.inr rfl) rfl rfl rfl (Ent.refl _) ⟨by rw [stp]; rfl, rfl⟩
            · rw [if_neg (by rintro (h | h); exact h4 h; exact h6 h.2)] at stp
              refine Cx.cno rfl (decide_eq_false (by show ¬ (((s.getD at_ 0).toNat : Nat) : Int) = 48; omega)) ?_
              refine go ?_
              rw [wu64 (n := 10 * ((v : Nat) : Int)) (by omega) (by omega), wu64 (n := 10 * ((v : Nat) : Int) + (d : Nat)) (by omega) (by omega), w64 (n := ((i : Nat) : Int) + 1) (by omega) (by omega)]
              exact Klp.nm ⟨(i + 1, 10 * v + d), by dsimp only; omega, by dsimp only; omega, by dsimp only; omega, stp.symm⟩ (sub.cons rfl (sub.cons rfl (sub.cons (by show some (Value.int .i64 ((i : Int) + 1)) = some (Value.int .i64 ((i + 1 : Nat) : Int)); rw [Int.natCast_add]; rfl) (sub.cons (by show some (Value.int .u64 (10 * (v : Int) + (d : Int))) = some (Value.int .u64 ((10 * v + d : Nat) : Int)); rw [Int.natCast_add, Int.natCast_mul]; rfl) sub.nil)))) (Ent.refl _) (by dsimp only; omega)
          · rw [if_neg (by rintro (h | h); exact h4 h; exact h5 h.1)] at stp
            refine Sx.gno rfl (decide_eq_false (by omega)) ?_
            refine go ?_
            rw [wu64 (n := 10 * ((v : Nat) : Int)) (by omega) (by omega), wu64 (n := 10 * ((v : Nat) : Int) + (d : Nat)) (by omega) (by omega), w64 (n := ((i : Nat) : Int) + 1) (by omega) (by omega)]
            exact Klp.nm ⟨(i + 1, 10 * v + d), by dsimp only; omega, by dsimp only; omega, by dsimp only; omega, stp.symm⟩ (sub.cons rfl (sub.cons rfl (sub.cons (by show some (Value.int .i64 ((i : Int) + 1)) = some (Value.int .i64 ((i + 1 : Nat) : Int)); rw [Int.natCast_add]; rfl) (sub.cons (by show some (Value.int .u64 (10 * (v : Int) + (d : Int))) = some (Value.int .u64 ((10 * v + d : Nat) : Int)); rw [Int.natCast_add, Int.natCast_mul]; rfl) sub.nil)))) (Ent.refl _) (by dsimp only; omega)
      · refine Cx.cno rfl (decide_eq_false (by show ¬ (((s.getD i 0).toNat : Nat) : Int) ≤ 57; omega)) ?_
        have e0 : decide ((at_ : Int) < (i : Int)) = decide (at_ < i) := decide_eq_decide.2 Int.ofNat_lt
        rw [if_neg (by rintro ⟨h1', h2', h3'⟩; omega)] at stp
        refine go ?_
        exact Kr.three (.inr rfl) rfl rfl rfl (Ent.refl _) ⟨by rw [stp, e0], rfl⟩
    · refine Sx.gno rfl (decide_eq_false (by show ¬ (48 : Int) ≤ (((s.getD i 0).toNat : Nat) : Int); omega)) ?_
      have e0 : decide ((at_ : Int) < (i : Int)) = decide (at_ < i) := decide_eq_decide.2 Int.ofNat_lt
      rw [if_neg (by rintro ⟨h1', h2', h3'⟩; omega)] at stp
      refine go ?_
      exact Kr.three (.inr rfl) rfl rfl rfl (Ent.refl _) ⟨by rw [stp, e0], rfl⟩
  · refine Sx.gno rfl (decide_eq_false (by rw [hsz]; omega)) ?_
    have e0 : decide ((at_ : Int) < (i : Int)) = decide (at_ < i) := decide_eq_decide.2 Int.ofNat_lt
    rw [if_neg (by rintro ⟨h1', h2', h3'⟩; omega)] at stp
    refine go ?_
    exact Kr.three (.inr rfl) rfl rfl rfl (Ent.refl _) ⟨by rw [stp, e0], rfl⟩
theorem ref18Whole (s : List UInt8) (hs : s.length ≤ 1000) : Fx Tryd.prog 39 [str s] L
    (fun v L' => v = .tuple #[.int .u64 (numF s 0).1, .bool ((numF s 0).2.2 && decide ((numF s 0).2.1 = s.length))] ∧ L = L') := by
  have hsz : (⟨s.toArray⟩ : ByteArray).size = s.length := rfl
  refine Fx.mk Tryd.func39 k39 (Nat.le_of_ble_eq_true rfl) ?_
  dsimp only [c39, envOf, Nat.reduceAdd]
  refine go ?_
  refine Sx.ca (vs := [str s, .int .i64 (0 : Nat)]) rfl (ref18Number s 0 hs (Nat.zero_le _)) ?_
  rintro v L' ⟨rfl, rfl⟩
  refine go ?_
  have e0 : decide ((((numF s 0).2.1 : Nat) : Int) = (((⟨s.toArray⟩ : ByteArray).size : Nat) : Int)) = decide ((numF s 0).2.1 = s.length) := decide_eq_decide.2 (by rw [hsz]; omega)
  cases h : (numF s 0).2.2 with
  | false =>
    skip
    refine go ?_
    exact Kr.two (.inr rfl) rfl rfl (Ent.refl _) ⟨rfl, rfl⟩
  | true =>
    skip
    refine go ?_
    refine Kr.two (.inr rfl) rfl rfl (Ent.refl _) ⟨?_, rfl⟩
    rw [e0, Bool.true_and]
end
end Go.Proofs.YtlpikhdiiehcaaaDoor

/-
  The document's Words.
-/
set_option linter.unusedVariables false
set_option linter.unusedSimpArgs false
namespace Go.Proofs.YtlpikhdiiehcaaaDoor
open Go Go.RowKit
attribute [local irreducible] Sx Cx Rx Fx Krg Ksq Kbl Klp Kr
/-- How far the words are cut: all ahead of 'from', none of them cut between 'from' and i. -/
def WInv (s : List UInt8) (i from_ : Nat) (acc : List (List UInt8)) : Prop :=
  (i ≤ s.length ∧ from_ ≤ i ∧ words s = acc ++ words (s.drop from_) ∧ (32 : UInt8) ∉ (s.take i).drop from_) ∨ (i = s.length + 1 ∧ acc = words s)
theorem take_drop_cons {s : List UInt8} {i f : Nat} (h : i < s.length) (hf : f ≤ i) : (s.take (i + 1)).drop f = (s.take i).drop f ++ [s.getD i 0] := by
  rw [List.take_add_one, List.getElem?_eq_getElem h, List.getD_eq_getElem?_getD, List.getElem?_eq_getElem h]
  rw [List.drop_append_of_le_length (by rw [List.length_take]; omega)]
  rfl
theorem drop_split {s : List UInt8} {i f : Nat} (h : i < s.length) (hf : f ≤ i) : s.drop f = (s.take i).drop f ++ s.getD i 0 :: s.drop (i + 1) := by
  have e : s = s.take i ++ s.getD i 0 :: s.drop (i + 1) := by
    rw [List.getD_eq_getElem?_getD, List.getElem?_eq_getElem h]
    simp
  conv => lhs; rw [e]
  rw [List.drop_append_of_le_length (by rw [List.length_take]; omega)]
theorem WInv.skip {s : List UInt8} {i f : Nat} {acc : List (List UInt8)} (h : WInv s i f acc) (hi : i < s.length) (hc : s.getD i 0 ≠ 32) : WInv s (i + 1) f acc := by
  rcases h with ⟨h1, h2, h3, h4⟩ | ⟨h1, _⟩
  · refine .inl ⟨by omega, by omega, h3, ?_⟩
    rw [take_drop_cons hi h2]
    intro hm
    rcases List.mem_append.1 hm with hm | hm
    · exact h4 hm
    · simp only [List.mem_cons, List.not_mem_nil, or_false] at hm
      exact hc hm.symm
  · omega
theorem WInv.cut {s : List UInt8} {i f : Nat} {acc : List (List UInt8)} (h : WInv s i f acc) (hi : i ≤ s.length) (hc : i = s.length ∨ s.getD i 0 = 32) : WInv s (i + 1) (i + 1) (acc ++ [(s.take i).drop f]) := by
  rcases h with ⟨h1, h2, h3, h4⟩ | ⟨h1, _⟩
  · by_cases he : i = s.length
    · refine .inr ⟨by omega, ?_⟩
      have e : (s.take i).drop f = s.drop f := by rw [he, List.take_length]
      rw [e] at h4 ⊢
      rw [h3, words_one _ h4]
    · have hc : s.getD i 0 = 32 := hc.resolve_left he
      refine .inl ⟨by omega, Nat.le_refl _, ?_, ?_⟩
      · rw [h3, drop_split (by omega) h2, hc, words_app _ _ h4, List.append_assoc]; rfl
      · rw [List.drop_eq_nil_of_le (by rw [List.length_take]; omega)]; simp
  · omega
section
variable {L F G : St} {w : World}
theorem ref18Words (s : List UInt8) (hs : s.length ≤ 1000) : Fx Tryd.prog 37 [str s] L
    (fun v L' => ∃ ra cap, v = .slice ra (words s).length cap ∧ L' = pt ra (Row 9 1 (words s).length cap ((words s).map str)) :: L) := by
  have hmx : maxLen = 9223372036854775807 := rfl
  have hsz : (⟨s.toArray⟩ : ByteArray).size = s.length := rfl
  have hdl : (⟨s.toArray⟩ : ByteArray).data.toList.length = s.length := rfl
  have hwl := words_len s
  refine Fx.mk Tryd.func37 k37 (Nat.le_of_ble_eq_true rfl) ?_
  dsimp only [c37, envOf, Nat.reduceAdd]
  refine Cx.sq ?_
  refine Cx.rg ?_
  refine Sx.ent (Ent.rownil 9 1) ?_
  refine go ?_
  refine Cx.lp (α := {p : (Nat × Nat × List (List UInt8)) × (Option Addr × Nat) // WInv s p.1.1 p.1.2.1 p.1.2.2})
    (fun p => [(0, str s), (3, .slice p.1.2.1 p.1.1.2.2.length p.1.2.2), (4, .int .i64 (p.1.1.2.1 : Nat)), (5, .int .i64 (p.1.1.1 : Nat))])
    (fun p => pt p.1.2.1 (Row 9 1 p.1.1.2.2.length p.1.2.2 (p.1.1.2.2.map str)) :: L) (fun p => s.length + 2 - p.1.1.1)
    ⟨((0, 0, []), (none, 0)), .inl ⟨Nat.zero_le _, Nat.le_refl _, rfl, by simp⟩⟩ (sub.cons rfl (sub.cons rfl (sub.cons rfl (sub.cons rfl sub.nil)))) (Ent.refl _) ?_
  rintro ⟨⟨⟨i, f, acc⟩, ⟨ra, cap⟩⟩, hI⟩
  dsimp only at hI ⊢
  have hal : acc.length ≤ 1001 := by
    rcases hI with ⟨_, _, h, _⟩ | ⟨_, h⟩
    · have := congrArg List.length h
      rw [List.length_append] at this; omega
    · rw [h]; omega
  refine go ?_
  by_cases hi : i ≤ s.length
  · refine Cx.cyes rfl (decide_eq_true (by rw [hsz]; omega)) ?_
    have hf : f ≤ i := by
      rcases hI with ⟨_, h, _⟩ | ⟨h, _⟩
      · exact h
      · omega
    refine go ?_
    by_cases he : i = s.length
    · refine Sx.gno rfl (decide_eq_true (by rw [hsz]; omega)) ?_
      refine go ?_
      refine Sx.pv rfl ⟨by omega, by omega, by omega⟩ ?_
      refine go ?_
      refine Sx.bs (sz := 1) (cs := [str ((s.take i).drop f)]) rfl rfl fun g1 => ?_
      refine Sx.ap (ra := ra) (ys := [str ((s.take i).drop f)]) rfl rfl (Rd.row (b := g1) (E := 9) (cap := 1) rfl) rfl (by omega) (by omega) fun rb cb hc => ?_
      refine go ?_
      rw [w64 (n := ((i : Nat) : Int) + 1) (by omega) (by omega)]
      exact Klp.nm ⟨((i + 1, i + 1, acc ++ [(s.take i).drop f]), (rb, cb)), hI.cut hi (.inl he)⟩ (sub.cons rfl (sub.cons (by rw [List.length_append]; rfl) (sub.cons rfl (sub.cons rfl sub.nil)))) (by rw [List.length_append, List.map_append]; exact ent) (by dsimp only; omega)
    · refine Sx.gyes rfl (decide_eq_false (by rw [hsz]; omega)) ?_
      refine go ?_
      refine Sx.pv rfl ⟨by omega, by omega⟩ ?_
      refine go ?_
      by_cases hc : s.getD i 0 = 32
      · refine Cx.cyes rfl (decide_eq_true (by show (((s.getD i 0).toNat : Nat) : Int) = 32; rw [hc]; rfl)) ?_
        refine go ?_
        refine Sx.pv rfl ⟨by omega, by omega, by omega⟩ ?_
        refine go ?_
        refine Sx.bs (sz := 1) (cs := [str ((s.take i).drop f)]) rfl rfl fun g1 => ?_
        refine Sx.ap (ra := ra) (ys := [str ((s.take i).drop f)]) rfl rfl (Rd.row (b := g1) (E := 9) (cap := 1) rfl) rfl (by omega) (by omega) fun rb cb hc => ?_
        refine go ?_
        rw [w64 (n := ((i : Nat) : Int) + 1) (by omega) (by omega)]
        exact Klp.nm ⟨((i + 1, i + 1, acc ++ [(s.take i).drop f]), (rb, cb)), hI.cut hi (.inr (by assumption))⟩ (sub.cons rfl (sub.cons (by rw [List.length_append]; rfl) (sub.cons rfl (sub.cons rfl sub.nil)))) (by rw [List.length_append, List.map_append]; exact ent) (by dsimp only; omega)
      · refine Cx.cno rfl (decide_eq_false (by
          show ¬ (((s.getD i 0).toNat : Nat) : Int) = 32
          intro e
          exact hc (UInt8.toNat_inj.1 (by show (s.getD i 0).toNat = 32; omega)))) ?_
        refine go ?_
        rw [w64 (n := ((i : Nat) : Int) + 1) (by omega) (by omega)]
        exact Klp.nm ⟨((i + 1, f, acc), (ra, cap)), hI.skip (by omega) hc⟩ (sub.cons rfl (sub.cons rfl (sub.cons rfl (sub.cons rfl sub.nil)))) (Ent.refl _) (by dsimp only; omega)
  · have ha : acc = words s := by
      rcases hI with ⟨h, _⟩ | ⟨_, h⟩
      · omega
      · exact h
    refine Cx.cno rfl (decide_eq_false (by rw [hsz]; omega)) ?_
    refine go ?_
    exact Kr.one (.inr rfl) rfl (Ent.refl _) ⟨ra, cap, by rw [ha], by rw [ha]⟩
end
end Go.Proofs.YtlpikhdiiehcaaaDoor

/-
  The document's operation of a text (Get), and OpReads.
-/
set_option linter.unusedVariables false
set_option linter.unusedSimpArgs false
namespace Go.Proofs.YtlpikhdiiehcaaaDoor
open Go Go.RowKit
attribute [local irreducible] Sx Cx Rx Fx Krg Ksq Kbl Klp Kr
/-- An operation that may be, of that text. -/
def Good (s : List UInt8) (o : Opn) : Prop := mayO o = true ∧ o.v < 18446744073709551616 ∧ o.w < 18446744073709551616 ∧ printO o = s
theorem getO_yes {s : List UInt8} {o : Opn} (h : Good s o) : getO s = (o, 0) := by
  rw [← h.2.2.2]
  exact getO_print h.1 h.2.1 h.2.2.1
theorem getO_no {s : List UInt8} (h : ∀ o, ¬ Good s o) : getO s = (Opn.zero, 10) := by
  apply getO_none
  intro h0
  obtain ⟨h1, h2⟩ := getO_back h0
  refine h (getO s).1 ⟨h1, ?_, ?_, h2⟩
  · unfold getO; split
    · exact uintV_lt _
    · exact (by decide)
  · unfold getO; split
    · exact uintV_lt _
    · exact (by decide)
theorem Good.ws {s : List UInt8} {o : Opn} (h : Good s o) : words s = wsO o := by rw [← h.2.2.2]; exact words_print o (mayS h.1)
theorem Good.kind {s : List UInt8} {o : Opn} (h : Good s o) : ((kindW s : Nat) : Int) = o.kind := by
  have e := parse_print o (mayS h.1) h.2.1 h.2.2.1
  rw [h.2.2.2] at e
  exact congrArg Opn.kind e
theorem Good.frm {s : List UInt8} {o : Opn} (h : Good s o) : frmW s = formK o.kind := by
  rw [← h.kind, formK_nat0]; rfl
def tailW (o : Opn) : List (List UInt8) := if (formK o.kind).w then [dec o.w] else []
def tailV (o : Opn) : List (List UInt8) := (if (formK o.kind).v then [dec o.v] else []) ++ tailW o
def tailN (o : Opn) : List (List UInt8) := (if (formK o.kind).n then [dec o.n.toNat] else []) ++ tailV o
def tailI (o : Opn) : Nat → List (List UInt8)
  | 0 => tailN o
  | 1 => tailV o
  | 2 => tailW o
  | _ => []
theorem wsO_tail (o : Opn) : wsO o = (formK o.kind).name :: (partF o ++ tailN o) := by
  rw [wsO_cons]
  unfold tailN tailV tailW
  simp
def wd (s : List UInt8) (n : Nat) : List UInt8 := (words s).getD n []
theorem wd_len (s : List UInt8) (n : Nat) : (wd s n).length ≤ s.length := by
  unfold wd
  rw [List.getD_eq_getElem?_getD]
  cases e : (words s)[n]? with
  | none => simp
  | some x => exact words_mem (List.mem_of_getElem? e)
theorem wd_at {s : List UInt8} {n : Nat} (h : n < (words s).length) : ((words s).map str)[0 + (n : Int).toNat * 1]? = some (str (wd s n)) := by
  rw [show 0 + (n : Int).toNat * 1 = n by omega, List.getElem?_map, List.getElem?_eq_getElem h]
  unfold wd
  rw [List.getD_eq_getElem?_getD, List.getElem?_eq_getElem h]
  rfl
/-- What stands of an operation that is of something. -/
theorem Good.of {s : List UInt8} {o : Opn} (h : Good s o) (hf : (frmW s).of_ ≠ 0) : ∃ fr a : Nat, o.from_ = fr ∧ o.at_ = a ∧ fr < 64 ∧ a < 1000 ∧ 2 ≤ (words s).length ∧ (words s).drop 2 = tailN o ∧
    numF (wd s 1) 0 = (fr, (dec fr).length, true) ∧ (dec fr).length < (wd s 1).length ∧ (wd s 1).getD (dec fr).length 0 = 46 ∧ numF (wd s 1) ((dec fr).length + 1) = (a, (wd s 1).length, true) := by
  have hS := mayS h.1
  have hF : hasF o = true := by unfold hasF; rw [← h.frm]; simpa using hf
  have h1 := hS.f
  have h2 := hS.a
  have b1 := mostF_le o
  have b2 := mostA_le o
  obtain ⟨fr, hfr⟩ : ∃ fr : Nat, o.from_ = fr := ⟨o.from_.toNat, by omega⟩
  obtain ⟨a, ha⟩ : ∃ a : Nat, o.at_ = a := ⟨o.at_.toNat, by omega⟩
  have hw : words s = (formK o.kind).name :: ([dec fr ++ 46 :: dec a] ++ tailN o) := by
    rw [h.ws, wsO_tail]
    unfold partF
    rw [hF, hfr, ha]
    rfl
  have hwd : wd s 1 = dec fr ++ 46 :: dec a := by unfold wd; rw [hw]; rfl
  refine ⟨fr, a, hfr, ha, by omega, by omega, by rw [hw]; simp, by rw [hw]; rfl, ?_, ?_, ?_, ?_⟩
  · have := numF_dec [] (46 :: dec a) fr (by omega) (fun c r e => by cases e; decide)
    rw [hwd]
    simpa using this
  · rw [hwd]; simp
  · rw [hwd, List.getD_eq_getElem?_getD, List.getElem?_append_right (Nat.le_refl _), Nat.sub_self]; rfl
  · have := numF_dec (dec fr ++ [46]) [] a (by omega) (fun c r e => by cases e)
    rw [hwd]
    simp only [List.length_append, List.length_cons, List.length_nil, List.append_nil, List.append_assoc, List.cons_append, List.nil_append] at this ⊢
    rw [this, show (dec fr).length + (0 + 1) + (dec a).length = (dec fr).length + ((dec a).length + 1) by omega]
theorem Good.notof {s : List UInt8} {o : Opn} (h : Good s o) (hf : (frmW s).of_ = 0) : o.from_ = 0 ∧ o.at_ = 0 ∧ (words s).drop 1 = tailN o := by
  have hS := mayS h.1
  rw [h.frm] at hf
  have h1 := hS.f
  have h2 := hS.a
  have e1 : mostF o = 0 := by unfold mostF; rw [if_neg (by simpa using hf)]
  have e2 : mostA o = 0 := by unfold mostA; rw [if_neg (by simpa using hf)]
  refine ⟨by omega, by omega, ?_⟩
  rw [h.ws, wsO_tail]
  have : hasF o = false := by unfold hasF; simp [hf]
  unfold partF
  rw [this]; rfl
def valI (o : Opn) : Nat → Nat
  | 0 => o.n.toNat
  | 1 => o.v
  | _ => o.w
def flagI (f : Frm) : Nat → Bool
  | 0 => f.n
  | 1 => f.v
  | _ => f.w
theorem tailI_step (o : Opn) (i : Nat) (hi : i < 3) : tailI o i = (if flagI (formK o.kind) i then [dec (valI o i)] else []) ++ tailI o (i + 1) := by
  rcases (show i = 0 ∨ i = 1 ∨ i = 2 by omega) with rfl | rfl | rfl
  · rfl
  · rfl
  · show tailW o = _ ++ []
    rw [List.append_nil]; rfl
theorem valI_zero {o : Opn} (h : MayS o) (i : Nat) (hi : i < 3) (hf : flagI (formK o.kind) i = false) : valI o i = 0 := by
  rcases (show i = 0 ∨ i = 1 ∨ i = 2 by omega) with rfl | rfl | rfl
  · have hn := h.n
    have : mostN o = 0 := by
      have hf : (formK o.kind).n = false := hf
      unfold mostN
      split
      · rename_i h1; rw [h1] at hf; revert hf; decide
      · rw [hf]; rfl
    show o.n.toNat = 0
    omega
  · exact h.v hf
  · exact h.w hf
theorem valI_lt {o : Opn} (h : MayS o) (hv : o.v < 18446744073709551616) (hw : o.w < 18446744073709551616) (i : Nat) (hi : i < 3) : valI o i < 18446744073709551616 ∧ (i = 0 → valI o i ≤ 65535) := by
  rcases (show i = 0 ∨ i = 1 ∨ i = 2 by omega) with rfl | rfl | rfl
  · have hn := h.n
    have := mostN_le o
    refine ⟨?_, fun _ => ?_⟩
    · show o.n.toNat < _; omega
    · show o.n.toNat ≤ _; omega
  · exact ⟨hv, fun e => by cases e⟩
  · exact ⟨hw, fun e => by cases e⟩
/-- What is known behind i of the three numbers: n words are behind; the numbers so far. -/
structure LI (s : List UInt8) (i n : Nat) (v : Nat → Nat) : Prop where
  ile : i ≤ 3
  nle : n ≤ 2 + i
  b0 : v 0 ≤ 65535
  bd : ∀ j, v j < 18446744073709551616
  zr : ∀ j, i ≤ j → v j = 0
  gd : ∀ o, Good s o → n ≤ (words s).length ∧ (words s).drop n = tailI o i ∧ ∀ j, j < i → v j = valI o j
def setV (v : Nat → Nat) (i x : Nat) : Nat → Nat := fun j => if j = i then x else v j
theorem LI.skip {s : List UInt8} {i n : Nat} {v : Nat → Nat} (h : LI s i n v) (hi : i < 3) (hf : flagI (frmW s) i = false) : LI s (i + 1) n v := by
  refine ⟨by omega, by have := h.nle; omega, h.b0, h.bd, fun j hj => h.zr j (by omega), fun o ho => ?_⟩
  obtain ⟨h1, h2, h3⟩ := h.gd o ho
  have hf' : flagI (formK o.kind) i = false := by rw [← ho.frm]; exact hf
  refine ⟨h1, ?_, fun j hj => ?_⟩
  · rw [h2, tailI_step o i hi, hf']; rfl
  · by_cases e : j = i
    · rw [e, h.zr i (Nat.le_refl _), valI_zero (mayS ho.1) i hi hf']
    · exact h3 j (by omega)
theorem LI.has {s : List UInt8} {i n : Nat} {v : Nat → Nat} (h : LI s i n v) (hi : i < 3) (hf : flagI (frmW s) i = true) {o : Opn} (ho : Good s o) :
    n < (words s).length ∧ wd s n = dec (valI o i) ∧ numF (wd s n) 0 = (valI o i, (wd s n).length, true) ∧ (words s).drop (n + 1) = tailI o (i + 1) := by
  obtain ⟨h1, h2, h3⟩ := h.gd o ho
  have hf' : flagI (formK o.kind) i = true := by rw [← ho.frm]; exact hf
  rw [tailI_step o i hi, hf'] at h2
  have h2' : (words s).drop n = dec (valI o i) :: tailI o (i + 1) := h2
  have hlt : n < (words s).length := by
    have := congrArg List.length h2'
    rw [List.length_drop, List.length_cons] at this; omega
  have hwd : wd s n = dec (valI o i) := by
    have := congrArg (fun l => l[0]?) h2'
    simp only [List.getElem?_drop, Nat.add_zero, List.getElem?_cons_zero] at this
    unfold wd
    rw [List.getD_eq_getElem?_getD, this]; rfl
  refine ⟨hlt, hwd, ?_, ?_⟩
  · have := numF_dec [] [] (valI o i) (valI_lt (mayS ho.1) ho.2.1 ho.2.2.1 i hi).1 (fun c r e => by cases e)
    rw [hwd]
    simpa using this
  · have := congrArg List.tail h2'
    rw [List.tail_drop] at this
    exact this
theorem LI.put {s : List UInt8} {i n x : Nat} {v : Nat → Nat} (h : LI s i n v) (hi : i < 3) (hf : flagI (frmW s) i = true) (hn : n < (words s).length) (hx : x < 18446744073709551616) (h0 : i = 0 → x ≤ 65535)
    (hg : ∀ o, Good s o → x = valI o i) : LI s (i + 1) (n + 1) (setV v i x) := by
  refine ⟨by omega, by have := h.nle; omega, ?_, fun j => ?_, fun j hj => ?_, fun o ho => ?_⟩
  · unfold setV; split
    · exact h0 (by omega)
    · exact h.b0
  · unfold setV; split
    · exact hx
    · exact h.bd j
  · unfold setV; rw [if_neg (by omega)]; exact h.zr j (by omega)
  · obtain ⟨_, _, h3⟩ := h.gd o ho
    obtain ⟨_, _, _, h4⟩ := h.has hi hf ho
    refine ⟨by omega, h4, fun j hj => ?_⟩
    unfold setV
    split
    · rename_i e; rw [e]; exact hg o ho
    · exact h3 j (by omega)
end Go.Proofs.YtlpikhdiiehcaaaDoor

/-
  Regions that draw their order in which many new blocks are taken, with no order between them.
-/
set_option linter.unusedVariables false
set_option linter.unusedSimpArgs false
namespace Go.Proofs.YtlpikhdiiehcaaaDoor
open Go
section
variable {P : Program} {N : Nat} {L F : St} {Kt : En → St → Prop} {Φ : St → Prop}
def tgt (x : It) : Nat := x.g.d.getD 0
structure Als (E : TypeId) (z : List Value) (als rest : List It) : Prop where
  shape : ∀ x ∈ als, x.g = ⟨some (tgt x), none, .al E z⟩
  dep : ∀ y ∈ rest, ∀ x ∈ als, bit y.ds x.i = true ∧ y.i ≠ x.i
  one : ∀ x ∈ als, ∀ y ∈ als, (x.i = y.i → x = y) ∧ (tgt x = tgt y → x = y)
  nd : als.Nodup
theorem Als.less {E : TypeId} {z : List Value} {als rest : List It} (h : Als E z als rest) (i : Nat) : Als E z (without als i) rest :=
  ⟨fun x hx => h.shape x (mem_without.1 hx).1, fun y hy x hx => h.dep y hy x (mem_without.1 hx).1, fun x hx y hy => h.one x (mem_without.1 hx).1 y (mem_without.1 hy).1, h.nd.sublist List.filter_sublist⟩
end
end Go.Proofs.YtlpikhdiiehcaaaDoor

/-
  The laws of layer 18: OpEdges.
-/
set_option linter.unusedVariables false
set_option linter.unusedSimpArgs false
namespace Go.Proofs.YtlpikhdiiehcaaaDoor
open Go Go.RowKit
attribute [local irreducible] Sx Cx Rx Fx Krg Ksq Kbl Klp Kr
section
variable {k d : Int} (hk : 1 ≤ k ∧ k ≤ 12) (hd : 1 ≤ d ∧ d ≤ 1000)
include hk
end
section
variable {L F G : St} {w : World}
end
end Go.Proofs.YtlpikhdiiehcaaaDoor

/-
  The document's operation of a text: the walk of Get.
-/
set_option linter.unusedVariables false
set_option linter.unusedSimpArgs false
namespace Go.Proofs.YtlpikhdiiehcaaaDoor
open Go Go.RowKit
attribute [local irreducible] Sx Cx Rx Fx Krg Ksq Kbl Klp Kr
theorem names_at {i : Nat} (h : i < 12) : namesRow[0 + ((i : Int) + 1).toNat * 1]? = some (str (formN (i + 1)).name) := by
  rcases (show i = 0 ∨ i = 1 ∨ i = 2 ∨ i = 3 ∨ i = 4 ∨ i = 5 ∨ i = 6 ∨ i = 7 ∨ i = 8 ∨ i = 9 ∨ i = 10 ∨ i = 11 by omega) with rfl | rfl | rfl | rfl | rfl | rfl | rfl | rfl | rfl | rfl | rfl | rfl <;> rfl
/-- What is known behind what the operation is of. -/
def PF (s : List UInt8) (p : Nat × Nat × Nat) : Prop := p.1 < 64 ∧ p.2.1 < 1000 ∧ 1 ≤ p.2.2 ∧ p.2.2 ≤ 2 ∧ ∀ o, Good s o → o.from_ = p.1 ∧ o.at_ = p.2.1 ∧ p.2.2 ≤ (words s).length ∧ (words s).drop p.2.2 = tailN o
section
variable {L F G : St} {w : World}
theorem ref18HasNs (s : List UInt8) : Fx Tryd.prog 21 [.int .i64 (kindW s : Nat)] L (fun v L' => v = .bool (frmW s).n ∧ L = L') := by
  have h := ref18HasN (L := L) ((kindW s : Nat) : Int)
  rw [formK_nat0] at h
  exact h
theorem ref18HasVs (s : List UInt8) : Fx Tryd.prog 23 [.int .i64 (kindW s : Nat)] L (fun v L' => v = .bool (frmW s).v ∧ L = L') := by
  have h := ref18HasV (L := L) ((kindW s : Nat) : Int)
  rw [formK_nat0] at h
  exact h
theorem ref18NumP {s : List UInt8} {at_ a i : Nat} {ok : Bool} (hp : numF s at_ = (a, i, ok)) (hs : s.length ≤ 1000) (ha : at_ ≤ s.length) : Fx Tryd.prog 38 [str s, .int .i64 at_] L
    (fun v L' => v = .tuple #[.int .u64 a, .int .i64 i, .bool ok] ∧ L = L') := by
  have h := ref18Number (L := L) s at_ hs ha
  rw [hp] at h
  exact h
theorem ref18WholeP {s : List UInt8} {a i : Nat} {ok : Bool} (hp : numF s 0 = (a, i, ok)) (hs : s.length ≤ 1000) : Fx Tryd.prog 39 [str s] L
    (fun v L' => v = .tuple #[.int .u64 a, .bool (ok && decide (i = s.length))] ∧ L = L') := by
  have h := ref18Whole (L := L) s hs
  rw [hp] at h
  exact h
set_option maxHeartbeats 4000000 in
theorem ref18Get (s : List UInt8) (hs : s.length ≤ 1000) : Fx Tryd.prog 18 [str s] L
    (fun v L' => v = .tuple #[.agg (getO s).1.l.toArray, .bool (decide ((getO s).2 = 0))] ∧ L = L') := by
  have hmx : maxLen = 9223372036854775807 := rfl
  have hwl := words_len s
  refine Fx.mk Tryd.func18 k18 (Nat.le_of_ble_eq_true rfl) ?_
  dsimp only [c18, envOf, Nat.reduceAdd]
  refine Cx.sq ?_
  refine Cx.rg ?_
  refine Sx.al fun g2 => ?_
  refine go ?_
  refine Sx.ca rfl (ref18Words s hs) ?_
  rintro v L' ⟨ra, cap, rfl, rfl⟩
  obtain ⟨x0, r0, hw0⟩ : ∃ x0 r0, words s = x0 :: r0 := by
    cases e : words s with
    | nil => exact absurd e (words_ne s)
    | cons x0 r0 => exact ⟨x0, r0, rfl⟩
  have hN1 : 1 ≤ (words s).length := by rw [hw0]; simp
  refine Sx.rowsome (a := ra) (n := (words s).length) (by omega) fun gw e => ?_
  subst e
  refine go ?_
  refine Sx.al fun g5 => ?_
  refine go ?_
  refine Cx.lp (α := {i : Nat // i ≤ 12}) (fun i => [(0, str s), (2, .pointer (some ⟨g2, 0, none⟩)), (4, .slice (some ⟨gw, 0, none⟩) (words s).length cap), (5, .pointer (some ⟨g5, 0, none⟩)), (6, .int .i64 ((i.1 : Int) + 1))])
    (fun i => pt (some ⟨g5, 0, none⟩) (Blk 24 [.int .i64 (kindTo x0 i.1), .int .i64 0, .int .i64 0, .int .i64 0, .int .u64 0, .int .u64 0]) :: pt (some ⟨gw, 0, none⟩) (Row 9 1 (words s).length cap ((words s).map str)) :: pt (some ⟨g2, 0, none⟩) (Blk 24 Opn.zero.l) :: L)
    (fun i => 12 - i.1) ⟨0, by omega⟩ (sub.cons rfl (sub.cons rfl (sub.cons rfl (sub.cons rfl (sub.cons rfl sub.nil))))) ent ?_
  rintro ⟨i, hi⟩
  dsimp only
  refine go ?_
  by_cases h12 : i = 12
  · refine Cx.cno rfl (decide_eq_false (by omega)) ?_
    have hk : kindTo x0 i = kindW s := by unfold kindW; rw [hw0, h12]; rfl
    rw [hk]
    refine go ?_
    by_cases hk0 : kindW s = 0
    · refine Cx.cyes rfl (decide_eq_true (by omega)) ?_
      refine go ?_
      refine Sx.st (b := g2) (vs := Opn.zero.l) rfl rfl rfl rfl rfl rfl ?_
      refine Sx.reb Opn.zero.l rfl ?_
      refine go ?_
      exact Kr_ct (b := g2) (.inr rfl) rfl rfl rfl (L' := L) ent ⟨by rw [getO_no (s := s) (fun o ho => by have h1 := ho.kind; have h2 := (mayS ho.1).k; omega)]; rfl, rfl⟩
    · refine Cx.cno rfl (decide_eq_false (by omega)) ?_
      refine go ?_
      refine Sx.ca (vs := [.int .i64 (kindW s : Nat)]) rfl (ref18Of (kindW s : Nat)) ?_
      rintro v L' ⟨rfl, rfl⟩
      rw [show formK ((kindW s : Nat) : Int) = frmW s from formK_nat0 _]
      refine go ?_
      refine Cx.jn (β := {p : Nat × Nat × Nat // PF s p}) (fun p => [(0, str s), (2, .pointer (some ⟨g2, 0, none⟩)), (4, .slice (some ⟨gw, 0, none⟩) (words s).length cap), (5, .pointer (some ⟨g5, 0, none⟩)), (7, .int .i64 (p.1.2.2 : Nat))])
        (fun p => pt (some ⟨g5, 0, none⟩) (Blk 24 [.int .i64 (kindW s : Nat), .int .i64 (p.1.1 : Nat), .int .i64 (p.1.2.1 : Nat), .int .i64 0, .int .u64 0, .int .u64 0]) :: pt (some ⟨gw, 0, none⟩) (Row 9 1 (words s).length cap ((words s).map str)) :: pt (some ⟨g2, 0, none⟩) (Blk 24 Opn.zero.l) :: L) ?_ ?_
      · by_cases hof : (frmW s).of_ = 0
        · refine Cx.cno rfl (by rw [decide_eq_true hof]; rfl) ?_
          refine go ?_
          exact Kjn.nm ⟨(0, 0, 1), by decide, by decide, Nat.le_refl _, by decide, fun o ho => ⟨(ho.notof hof).1, (ho.notof hof).2.1, hN1, (ho.notof hof).2.2⟩⟩ (sub.cons rfl (sub.cons rfl (sub.cons rfl (sub.cons rfl (sub.cons rfl sub.nil))))) ent
        · refine Cx.cyes rfl (by rw [decide_eq_false hof]; rfl) ?_
          refine go ?_
          have hwd := wd_len s 1
          have hws : (⟨(wd s 1).toArray⟩ : ByteArray).size = (wd s 1).length := rfl
          have hwd2 : (⟨(wd s 1).toArray⟩ : ByteArray).data.toList.length = (wd s 1).length := rfl
          by_cases hN : (words s).length ≤ 1
          · refine Cx.cyes rfl (decide_eq_true (by omega)) ?_
            refine go ?_
            refine Sx.st (b := g2) (vs := Opn.zero.l) rfl rfl rfl rfl rfl rfl ?_
            refine Sx.reb Opn.zero.l rfl ?_
            refine go ?_
            exact Kr_ct (b := g2) (.inr rfl) rfl rfl rfl (L' := L) ent ⟨by rw [getO_no (s := s) (fun o ho => by obtain ⟨fr, a', e1, e2, l1, l2, h2, h3, q1, q2, q3, q4⟩ := ho.of hof; omega)]; rfl, rfl⟩
          · refine Cx.cno rfl (decide_eq_false (by omega)) ?_
            refine go ?_
            refine Sx.pv rfl ⟨by omega, by omega⟩ ?_
            refine go ?_
            refine Sx.ldr rfl (wd_at (n := 1) (by omega)) ?_
            refine go ?_
            rcases hp : numF (wd s 1) 0 with ⟨a, i1, ok⟩
            have hb := numF_bounds (wd s 1) 0 (Nat.zero_le _)
            rw [hp] at hb
            simp only at hb
            refine Sx.ca (vs := [str (wd s 1), .int .i64 (0 : Nat)]) rfl (ref18NumP hp (by omega) (Nat.zero_le _)) ?_
            rintro v L' ⟨rfl, rfl⟩
            refine go ?_
            cases ok with
            | false =>
              skip
              refine go ?_
              refine Sx.st (b := g2) (vs := Opn.zero.l) rfl rfl rfl rfl rfl rfl ?_
              refine Sx.reb Opn.zero.l rfl ?_
              refine go ?_
              exact Kr_ct (b := g2) (.inr rfl) rfl rfl rfl (L' := L) ent ⟨by rw [getO_no (s := s) (fun o ho => by obtain ⟨fr, a', e1, e2, l1, l2, h2, h3, q1, q2, q3, q4⟩ := ho.of hof; rw [hp] at q1; simp only [Prod.mk.injEq] at q1; obtain ⟨_, _, h⟩ := q1; cases h)]; rfl, rfl⟩
            | true =>
            skip
            refine go ?_
            refine Sx.pv rfl ⟨by omega, by omega⟩ ?_
            refine go ?_
            refine Sx.ldr rfl (wd_at (n := 1) (by omega)) ?_
            refine go ?_
            by_cases hil : (wd s 1).length ≤ i1
            · refine Sx.gno rfl (decide_eq_true (by rw [hws]; omega)) ?_
              refine go ?_
              refine Sx.st (b := g2) (vs := Opn.zero.l) rfl rfl rfl rfl rfl rfl ?_
              refine Sx.reb Opn.zero.l rfl ?_
              refine go ?_
              exact Kr_ct (b := g2) (.inr rfl) rfl rfl rfl (L' := L) ent ⟨by rw [getO_no (s := s) (fun o ho => by obtain ⟨fr, a', e1, e2, l1, l2, h2, h3, q1, q2, q3, q4⟩ := ho.of hof; rw [hp] at q1; simp only [Prod.mk.injEq] at q1; obtain ⟨rfl, rfl, -⟩ := q1; omega)]; rfl, rfl⟩
            · refine Sx.gyes rfl (decide_eq_false (by rw [hws]; omega)) ?_
              refine go ?_
              refine Sx.pv rfl ⟨by omega, by omega⟩ ?_
              refine go ?_
              refine Sx.ldr rfl (wd_at (n := 1) (by omega)) ?_
              refine go ?_
              refine Sx.pv rfl ⟨by omega, by omega⟩ ?_
              refine go ?_
              by_cases hdot : (wd s 1).getD i1 0 = 46
              · refine Sx.gyes rfl (by show (!decide (((((wd s 1).getD i1 0).toNat : Nat) : Int) = 46)) = false; rw [hdot]; rfl) ?_
                refine go ?_
                by_cases ha : 64 ≤ a
                · refine Cx.cyes rfl (decide_eq_true (by omega)) ?_
                  refine go ?_
                  refine Sx.st (b := g2) (vs := Opn.zero.l) rfl rfl rfl rfl rfl rfl ?_
                  refine Sx.reb Opn.zero.l rfl ?_
                  refine go ?_
                  exact Kr_ct (b := g2) (.inr rfl) rfl rfl rfl (L' := L) ent ⟨by rw [getO_no (s := s) (fun o ho => by obtain ⟨fr, a', e1, e2, l1, l2, h2, h3, q1, q2, q3, q4⟩ := ho.of hof; rw [hp] at q1; simp only [Prod.mk.injEq] at q1; obtain ⟨rfl, rfl, -⟩ := q1; omega)]; rfl, rfl⟩
                · refine Cx.cno rfl (decide_eq_false (by omega)) ?_
                  refine go ?_
                  refine Sx.pv rfl ⟨by omega, by omega⟩ ?_
                  refine go ?_
                  refine Sx.ldr rfl (wd_at (n := 1) (by omega)) ?_
                  refine go ?_
                  rw [w64 (n := ((i1 : Nat) : Int) + 1) (by omega) (by omega)]
                  rcases hq : numF (wd s 1) (i1 + 1) with ⟨b, j1, ok⟩
                  have hc := numF_bounds (wd s 1) (i1 + 1) (by omega)
                  rw [hq] at hc
                  simp only at hc
                  refine Sx.ca (vs := [str (wd s 1), .int .i64 ((i1 + 1 : Nat) : Int)]) rfl (ref18NumP hq (by omega) (by omega)) ?_
                  rintro v L' ⟨rfl, rfl⟩
                  refine go ?_
                  cases ok with
                  | false =>
                    skip
                    refine go ?_
                    refine Sx.st (b := g2) (vs := Opn.zero.l) rfl rfl rfl rfl rfl rfl ?_
                    refine Sx.reb Opn.zero.l rfl ?_
                    refine go ?_
                    exact Kr_ct (b := g2) (.inr rfl) rfl rfl rfl (L' := L) ent ⟨by rw [getO_no (s := s) (fun o ho => by obtain ⟨fr, a', e1, e2, l1, l2, h2, h3, q1, q2, q3, q4⟩ := ho.of hof; rw [hp] at q1; simp only [Prod.mk.injEq] at q1; obtain ⟨rfl, rfl, -⟩ := q1; rw [hq] at q4; simp only [Prod.mk.injEq] at q4; obtain ⟨_, _, h⟩ := q4; cases h)]; rfl, rfl⟩
                  | true =>
                  skip
                  refine go ?_
                  refine Sx.pv rfl ⟨by omega, by omega⟩ ?_
                  refine go ?_
                  refine Sx.ldr rfl (wd_at (n := 1) (by omega)) ?_
                  refine go ?_
                  by_cases hj : j1 = (wd s 1).length
                  · refine Sx.gyes rfl (by show (!decide (((j1 : Nat) : Int) = (((⟨(wd s 1).toArray⟩ : ByteArray).size : Nat) : Int))) = false; rw [decide_eq_true (by rw [hws]; omega)]; rfl) ?_
                    refine go ?_
                    by_cases hb1 : 1000 ≤ b
                    · refine Cx.cyes rfl (decide_eq_true (by omega)) ?_
                      refine go ?_
                      refine Sx.st (b := g2) (vs := Opn.zero.l) rfl rfl rfl rfl rfl rfl ?_
                      refine Sx.reb Opn.zero.l rfl ?_
                      refine go ?_
                      exact Kr_ct (b := g2) (.inr rfl) rfl rfl rfl (L' := L) ent ⟨by rw [getO_no (s := s) (fun o ho => by obtain ⟨fr, a', e1, e2, l1, l2, h2, h3, q1, q2, q3, q4⟩ := ho.of hof; rw [hp] at q1; simp only [Prod.mk.injEq] at q1; obtain ⟨rfl, rfl, -⟩ := q1; rw [hq] at q4; simp only [Prod.mk.injEq] at q4; obtain ⟨rfl, rfl, -⟩ := q4; omega)]; rfl, rfl⟩
                    · refine Cx.cno rfl (decide_eq_false (by omega)) ?_
                      refine go ?_
                      rw [w64 (n := ((a : Nat) : Int)) (by omega) (by omega), w64 (n := ((b : Nat) : Int)) (by omega) (by omega)]
                      exact Kjn.nm ⟨(a, b, 2), by show a < 64; omega, by show b < 1000; omega, by show 1 ≤ 2; decide, Nat.le_refl _, (fun o ho => by obtain ⟨fr, a', e1, e2, l1, l2, h2, h3, q1, q2, q3, q4⟩ := ho.of hof; rw [hp] at q1; simp only [Prod.mk.injEq] at q1; obtain ⟨rfl, rfl, -⟩ := q1; rw [hq] at q4; simp only [Prod.mk.injEq] at q4; obtain ⟨rfl, rfl, -⟩ := q4; exact ⟨e1, e2, h2, h3⟩)⟩ (sub.cons rfl (sub.cons rfl (sub.cons rfl (sub.cons rfl (sub.cons rfl sub.nil))))) ent
                  · refine Sx.gno rfl (by show (!decide (((j1 : Nat) : Int) = (((⟨(wd s 1).toArray⟩ : ByteArray).size : Nat) : Int))) = true; rw [decide_eq_false (by rw [hws]; omega)]; rfl) ?_
                    refine go ?_
                    refine Sx.st (b := g2) (vs := Opn.zero.l) rfl rfl rfl rfl rfl rfl ?_
                    refine Sx.reb Opn.zero.l rfl ?_
                    refine go ?_
                    exact Kr_ct (b := g2) (.inr rfl) rfl rfl rfl (L' := L) ent ⟨by rw [getO_no (s := s) (fun o ho => by obtain ⟨fr, a', e1, e2, l1, l2, h2, h3, q1, q2, q3, q4⟩ := ho.of hof; rw [hp] at q1; simp only [Prod.mk.injEq] at q1; obtain ⟨rfl, rfl, -⟩ := q1; rw [hq] at q4; simp only [Prod.mk.injEq] at q4; omega)]; rfl, rfl⟩
              · refine Sx.gno rfl (by
                  show (!decide (((((wd s 1).getD i1 0).toNat : Nat) : Int) = 46)) = true
                  rw [decide_eq_false (fun e => hdot (UInt8.toNat_inj.1 (by show ((wd s 1).getD i1 0).toNat = 46; omega)))]
                  rfl) ?_
                refine go ?_
                refine Sx.st (b := g2) (vs := Opn.zero.l) rfl rfl rfl rfl rfl rfl ?_
                refine Sx.reb Opn.zero.l rfl ?_
                refine go ?_
                exact Kr_ct (b := g2) (.inr rfl) rfl rfl rfl (L' := L) ent ⟨by rw [getO_no (s := s) (fun o ho => by obtain ⟨fr, a', e1, e2, l1, l2, h2, h3, q1, q2, q3, q4⟩ := ho.of hof; rw [hp] at q1; simp only [Prod.mk.injEq] at q1; obtain ⟨rfl, rfl, -⟩ := q1; exact hdot q3)]; rfl, rfl⟩
      rintro ⟨⟨fr, at_, n0⟩, hPF⟩
      obtain ⟨p1, p2, p3, p4, p5⟩ := hPF
      dsimp only at p1 p2 p3 p4 p5 ⊢
      refine go ?_
      refine Sx.al fun g14 => ?_
      refine go ?_
      refine Cx.ordc rfl (by kernel_rfl) ?_
      refine ge ?_
      refine Ev.cakH (vs := [.int .i64 (kindW s : Nat)]) (by kernel_rfl) rfl rfl (ref18HasNs s) ?_
      refine ge ?_
      refine Ev.cakH (vs := [.int .i64 (kindW s : Nat)]) (by kernel_rfl) rfl rfl (ref18HasVs s) ?_
      refine ge ?_
      refine Ev.alH (by kernel_rfl) rfl (.keep (fun v L' h => by obtain ⟨q, _, e⟩ := h; subst e; exact Has.cell rfl) (.keep (fun v L' h => ref18HasVs s) (.keep (fun v L' h => by obtain ⟨q, _, e⟩ := h; subst e; exact Has.cell rfl) (.keep (fun v L' h => ref18HasNs s) (.keep (fun v L' h => by obtain ⟨q, _, e⟩ := h; subst e; exact Has.cell rfl) .nil))))) fun g15 => ?_
      rw [show decide (((kindW s : Nat) : Int) = 9) = (frmW s).w by rw [← w_nine, formK_nat0]; rfl]
      refine Ev.stnH [.bool (frmW s).n, .bool (frmW s).v, .bool (frmW s).w] (by kernel_rfl) rfl rfl rfl rfl rfl rfl rfl rfl (Pres.deps (by kernel_rfl)) ?_
      refine ge ?_
      refine go ?_
      refine Cx.lp (α := {p : Nat × Nat × (Nat → Nat) // LI s p.1 p.2.1 p.2.2}) (fun p => [(0, str s), (2, .pointer (some ⟨g2, 0, none⟩)), (4, .slice (some ⟨gw, 0, none⟩) (words s).length cap), (5, .pointer (some ⟨g5, 0, none⟩)), (7, .int .i64 (p.1.2.1 : Nat)), (14, .pointer (some ⟨g14, 0, none⟩)), (15, .pointer (some ⟨g15, 0, none⟩)), (16, .int .i64 (p.1.1 : Nat))])
        (fun p => pt (some ⟨g14, 0, none⟩) (Blk 67 [.int .u64 (p.1.2.2 0 : Nat), .int .u64 (p.1.2.2 1 : Nat), .int .u64 (p.1.2.2 2 : Nat)]) :: pt (some ⟨g15, 0, none⟩) (Blk 68 [.bool (frmW s).n, .bool (frmW s).v, .bool (frmW s).w]) :: pt (some ⟨g5, 0, none⟩) (Blk 24 [.int .i64 (kindW s : Nat), .int .i64 (fr : Nat), .int .i64 (at_ : Nat), .int .i64 0, .int .u64 0, .int .u64 0]) :: pt (some ⟨gw, 0, none⟩) (Row 9 1 (words s).length cap ((words s).map str)) :: pt (some ⟨g2, 0, none⟩) (Blk 24 Opn.zero.l) :: L) (fun p => 3 - p.1.1)
        ⟨(0, n0, fun _ => 0), Nat.zero_le _, by show n0 ≤ 2 + 0; omega, Nat.zero_le _, fun _ => by show (0 : Nat) < 18446744073709551616; decide, fun _ _ => rfl, fun o ho => ⟨(p5 o ho).2.2.1, (p5 o ho).2.2.2, fun j hj => absurd hj (Nat.not_lt_zero j)⟩⟩ (sub.cons rfl (sub.cons rfl (sub.cons rfl (sub.cons rfl (sub.cons rfl (sub.cons rfl (sub.cons rfl (sub.cons rfl sub.nil)))))))) ent ?_
      rintro ⟨⟨j, n, v⟩, hLI⟩
      dsimp only at hLI ⊢
      have hj3 := hLI.ile
      have hn5 := hLI.nle
      have hwdn := wd_len s n
      have hwsn : (⟨(wd s n).toArray⟩ : ByteArray).size = (wd s n).length := rfl
      rcases (show j = 0 ∨ j = 1 ∨ j = 2 ∨ j = 3 by omega) with rfl | rfl | rfl | rfl
      · refine go ?_
        refine Sx.pv rfl ⟨by omega, by omega⟩ ?_
        refine go ?_
        cases hfl : (frmW s).n with
        | false =>
          skip
          refine go ?_
          exact Klp.nm ⟨(1, n, v), hLI.skip (by decide) hfl⟩ (sub.cons rfl (sub.cons rfl (sub.cons rfl (sub.cons rfl (sub.cons rfl (sub.cons rfl (sub.cons rfl (sub.cons rfl sub.nil)))))))) (by dsimp only; exact ent) (by dsimp only; omega)
        | true =>
          skip
          refine go ?_
          by_cases hnN : (words s).length ≤ n
          · refine Cx.cyes rfl (decide_eq_true (by omega)) ?_
            refine go ?_
            refine Sx.st (b := g2) (vs := Opn.zero.l) rfl rfl rfl rfl rfl rfl ?_
            refine Sx.reb Opn.zero.l rfl ?_
            refine go ?_
            exact Kr_ct (b := g2) (.inr rfl) rfl rfl rfl (L' := L) ent ⟨by rw [getO_no (s := s) (fun o ho => by obtain ⟨h1, _⟩ := hLI.has (by decide) hfl ho; omega)]; rfl, rfl⟩
          · refine Cx.cno rfl (decide_eq_false (by omega)) ?_
            refine go ?_
            refine Sx.pv rfl ⟨by omega, by omega⟩ ?_
            refine go ?_
            refine Sx.ldr rfl (wd_at (n := n) (by omega)) ?_
            refine go ?_
            rcases hp : numF (wd s n) 0 with ⟨x, j1, ok⟩
            have hb := numF_bounds (wd s n) 0 (Nat.zero_le _)
            rw [hp] at hb
            simp only at hb
            refine Sx.ca (vs := [str (wd s n)]) rfl (ref18WholeP hp (by omega)) ?_
            rintro v' L' ⟨rfl, rfl⟩
            have hgx : ∀ o, Good s o → x = valI o 0 ∧ (ok && decide (j1 = (wd s n).length)) = true := fun o ho => by
              obtain ⟨_, _, h3, _⟩ := hLI.has (by decide) hfl ho
              rw [hp] at h3
              simp only [Prod.mk.injEq] at h3
              obtain ⟨e1, e2, e3⟩ := h3
              exact ⟨e1, by rw [e2, e3]; simp⟩
            generalize (ok && decide (j1 = (wd s n).length)) = ok2 at hgx
            refine go ?_
            cases ok2 with
            | false =>
              skip
              refine go ?_
              refine Sx.st (b := g2) (vs := Opn.zero.l) rfl rfl rfl rfl rfl rfl ?_
              refine Sx.reb Opn.zero.l rfl ?_
              refine go ?_
              exact Kr_ct (b := g2) (.inr rfl) rfl rfl rfl (L' := L) ent ⟨by rw [getO_no (s := s) (fun o ho => by have := (hgx o ho).2; cases this)]; rfl, rfl⟩
            | true =>
              skip
              refine go ?_
              by_cases hx : 65535 < x
              · refine Cx.cyes rfl (decide_eq_true (by omega)) ?_
                refine go ?_
                refine Sx.st (b := g2) (vs := Opn.zero.l) rfl rfl rfl rfl rfl rfl ?_
                refine Sx.reb Opn.zero.l rfl ?_
                refine go ?_
                exact Kr_ct (b := g2) (.inr rfl) rfl rfl rfl (L' := L) ent ⟨by rw [getO_no (s := s) (fun o ho => by have h1 := (hgx o ho).1; have h2 := (valI_lt (mayS ho.1) ho.2.1 ho.2.2.1 0 (by decide)).2 rfl; omega)]; rfl, rfl⟩
              · refine Cx.cno rfl (decide_eq_false (by omega)) ?_
                refine go ?_
                refine Sx.pv rfl ⟨by omega, by omega⟩ ?_
                refine go ?_
                rw [w64 (n := ((n : Nat) : Int) + 1) (by omega) (by omega)]
                exact Klp.nm ⟨(1, n + 1, setV v 0 x), hLI.put (by decide) hfl (by omega) hb.1 (fun _ => by omega) fun o ho => (hgx o ho).1⟩ (sub.cons rfl (sub.cons rfl (sub.cons rfl (sub.cons rfl (sub.cons rfl (sub.cons rfl (sub.cons rfl (sub.cons rfl sub.nil)))))))) (by have e0 : setV v 0 x 0 = x := rfl; have e1 : setV v 0 x 1 = v 1 := rfl; have e2 : setV v 0 x 2 = v 2 := rfl; dsimp only; rw [e0, e1, e2]; exact ent) (by dsimp only; omega)
      · refine go ?_
        refine Sx.pv rfl ⟨by omega, by omega⟩ ?_
        refine go ?_
        cases hfl : (frmW s).v with
        | false =>
          skip
          refine go ?_
          exact Klp.nm ⟨(2, n, v), hLI.skip (by decide) hfl⟩ (sub.cons rfl (sub.cons rfl (sub.cons rfl (sub.cons rfl (sub.cons rfl (sub.cons rfl (sub.cons rfl (sub.cons rfl sub.nil)))))))) (by dsimp only; exact ent) (by dsimp only; omega)
        | true =>
          skip
          refine go ?_
          by_cases hnN : (words s).length ≤ n
          · refine Cx.cyes rfl (decide_eq_true (by omega)) ?_
            refine go ?_
            refine Sx.st (b := g2) (vs := Opn.zero.l) rfl rfl rfl rfl rfl rfl ?_
            refine Sx.reb Opn.zero.l rfl ?_
            refine go ?_
            exact Kr_ct (b := g2) (.inr rfl) rfl rfl rfl (L' := L) ent ⟨by rw [getO_no (s := s) (fun o ho => by obtain ⟨h1, _⟩ := hLI.has (by decide) hfl ho; omega)]; rfl, rfl⟩
          · refine Cx.cno rfl (decide_eq_false (by omega)) ?_
            refine go ?_
            refine Sx.pv rfl ⟨by omega, by omega⟩ ?_
            refine go ?_
            refine Sx.ldr rfl (wd_at (n := n) (by omega)) ?_
            refine go ?_
            rcases hp : numF (wd s n) 0 with ⟨x, j1, ok⟩
            have hb := numF_bounds (wd s n) 0 (Nat.zero_le _)
            rw [hp] at hb
            simp only at hb
            refine Sx.ca (vs := [str (wd s n)]) rfl (ref18WholeP hp (by omega)) ?_
            rintro v' L' ⟨rfl, rfl⟩
            have hgx : ∀ o, Good s o → x = valI o 1 ∧ (ok && decide (j1 = (wd s n).length)) = true := fun o ho => by
              obtain ⟨_, _, h3, _⟩ := hLI.has (by decide) hfl ho
              rw [hp] at h3
              simp only [Prod.mk.injEq] at h3
              obtain ⟨e1, e2, e3⟩ := h3
              exact ⟨e1, by rw [e2, e3]; simp⟩
            generalize (ok && decide (j1 = (wd s n).length)) = ok2 at hgx
            refine go ?_
            cases ok2 with
            | false =>
              skip
              refine go ?_
              refine Sx.st (b := g2) (vs := Opn.zero.l) rfl rfl rfl rfl rfl rfl ?_
              refine Sx.reb Opn.zero.l rfl ?_
              refine go ?_
              exact Kr_ct (b := g2) (.inr rfl) rfl rfl rfl (L' := L) ent ⟨by rw [getO_no (s := s) (fun o ho => by have := (hgx o ho).2; cases this)]; rfl, rfl⟩
            | true =>
              skip
              refine go ?_
              refine go ?_
              refine Sx.pv rfl ⟨by omega, by omega⟩ ?_
              refine go ?_
              rw [w64 (n := ((n : Nat) : Int) + 1) (by omega) (by omega)]
              exact Klp.nm ⟨(2, n + 1, setV v 1 x), hLI.put (by decide) hfl (by omega) hb.1 (fun h => by cases h) fun o ho => (hgx o ho).1⟩ (sub.cons rfl (sub.cons rfl (sub.cons rfl (sub.cons rfl (sub.cons rfl (sub.cons rfl (sub.cons rfl (sub.cons rfl sub.nil)))))))) (by have e0 : setV v 1 x 0 = v 0 := rfl; have e1 : setV v 1 x 1 = x := rfl; have e2 : setV v 1 x 2 = v 2 := rfl; dsimp only; rw [e0, e1, e2]; exact ent) (by dsimp only; omega)
      · refine go ?_
        refine Sx.pv rfl ⟨by omega, by omega⟩ ?_
        refine go ?_
        cases hfl : (frmW s).w with
        | false =>
          skip
          refine go ?_
          exact Klp.nm ⟨(3, n, v), hLI.skip (by decide) hfl⟩ (sub.cons rfl (sub.cons rfl (sub.cons rfl (sub.cons rfl (sub.cons rfl (sub.cons rfl (sub.cons rfl (sub.cons rfl sub.nil)))))))) (by dsimp only; exact ent) (by dsimp only; omega)
        | true =>
          skip
          refine go ?_
          by_cases hnN : (words s).length ≤ n
          · refine Cx.cyes rfl (decide_eq_true (by omega)) ?_
            refine go ?_
            refine Sx.st (b := g2) (vs := Opn.zero.l) rfl rfl rfl rfl rfl rfl ?_
            refine Sx.reb Opn.zero.l rfl ?_
            refine go ?_
            exact Kr_ct (b := g2) (.inr rfl) rfl rfl rfl (L' := L) ent ⟨by rw [getO_no (s := s) (fun o ho => by obtain ⟨h1, _⟩ := hLI.has (by decide) hfl ho; omega)]; rfl, rfl⟩
          · refine Cx.cno rfl (decide_eq_false (by omega)) ?_
            refine go ?_
            refine Sx.pv rfl ⟨by omega, by omega⟩ ?_
            refine go ?_
            refine Sx.ldr rfl (wd_at (n := n) (by omega)) ?_
            refine go ?_
            rcases hp : numF (wd s n) 0 with ⟨x, j1, ok⟩
            have hb := numF_bounds (wd s n) 0 (Nat.zero_le _)
            rw [hp] at hb
            simp only at hb
            refine Sx.ca (vs := [str (wd s n)]) rfl (ref18WholeP hp (by omega)) ?_
            rintro v' L' ⟨rfl, rfl⟩
            have hgx : ∀ o, Good s o → x = valI o 2 ∧ (ok && decide (j1 = (wd s n).length)) = true := fun o ho => by
              obtain ⟨_, _, h3, _⟩ := hLI.has (by decide) hfl ho
              rw [hp] at h3
              simp only [Prod.mk.injEq] at h3
              obtain ⟨e1, e2, e3⟩ := h3
              exact ⟨e1, by rw [e2, e3]; simp⟩
            generalize (ok && decide (j1 = (wd s n).length)) = ok2 at hgx
            refine go ?_
            cases ok2 with
            | false =>
              skip
              refine go ?_
              refine Sx.st (b := g2) (vs := Opn.zero.l) rfl rfl rfl rfl rfl rfl ?_
              refine Sx.reb Opn.zero.l rfl ?_
              refine go ?_
              exact Kr_ct (b := g2) (.inr rfl) rfl rfl rfl (L' := L) ent ⟨by rw [getO_no (s := s) (fun o ho => by have := (hgx o ho).2; cases this)]; rfl, rfl⟩
            | true =>
              skip
              refine go ?_
              refine go ?_
              refine Sx.pv rfl ⟨by omega, by omega⟩ ?_
              refine go ?_
              rw [w64 (n := ((n : Nat) : Int) + 1) (by omega) (by omega)]
              exact Klp.nm ⟨(3, n + 1, setV v 2 x), hLI.put (by decide) hfl (by omega) hb.1 (fun h => by cases h) fun o ho => (hgx o ho).1⟩ (sub.cons rfl (sub.cons rfl (sub.cons rfl (sub.cons rfl (sub.cons rfl (sub.cons rfl (sub.cons rfl (sub.cons rfl sub.nil)))))))) (by have e0 : setV v 2 x 0 = v 0 := rfl; have e1 : setV v 2 x 1 = v 1 := rfl; have e2 : setV v 2 x 2 = x := rfl; dsimp only; rw [e0, e1, e2]; exact ent) (by dsimp only; omega)
      · refine go ?_
        have hsame : ∀ o, Good s o → o = (⟨((kindW s : Nat) : Int), ((fr : Nat) : Int), ((at_ : Nat) : Int), ((v 0 : Nat) : Int), v 1, v 2⟩ : Opn) ∧ n = (words s).length := fun o ho => by
          obtain ⟨q1, q2, q3, q4⟩ := p5 o ho
          obtain ⟨h1, h2, h3⟩ := hLI.gd o ho
          have r0 := h3 0 (by decide)
          have r1 := h3 1 (by decide)
          have r2 := h3 2 (by decide)
          have hk1 := ho.kind
          have hn0 := (mayS ho.1).n.1
          refine ⟨?_, ?_⟩
          · have r0' : v 0 = o.n.toNat := r0
            have r1' : v 1 = o.v := r1
            have r2' : v 2 = o.w := r2
            rw [hk1, ← q1, ← q2, r1', r2', r0', Int.toNat_of_nonneg hn0]
          · have h2' : List.drop n (words s) = [] := h2
            have := congrArg List.length h2'
            rw [List.length_drop] at this
            simp only [List.length_nil] at this
            omega
        have b0 := hLI.b0
        have b1 := hLI.bd 1
        have b2 := hLI.bd 2
        refine Cx.ordc rfl (by kernel_rfl) ?_
        refine ge ?_
        rw [w64 (n := ((v 0 : Nat) : Int)) (by omega) (by omega)]
        refine Ev.stbH (by kernel_rfl) rfl rfl rfl rfl rfl rfl rfl (.keep (fun v L' h => by obtain ⟨_, e⟩ := h; subst e; exact Has.cell rfl) (.keep (fun v L' h => by obtain ⟨_, e⟩ := h; subst e; exact Has.cell rfl) (.dep rfl .nil))) ?_
        refine ge ?_
        refine Ev.stbH (by kernel_rfl) rfl rfl rfl rfl rfl rfl rfl (.keep (fun v L' h => by obtain ⟨_, e⟩ := h; subst e; exact Has.cell rfl) (.dep rfl (.dep rfl .nil))) ?_
        refine ge ?_
        refine Ev.stbH (by kernel_rfl) rfl rfl rfl rfl rfl rfl rfl (Pres.deps (by kernel_rfl)) ?_
        refine ge ?_
        refine go ?_
        by_cases hnN : n = (words s).length
        · refine Sx.gyes rfl (by rw [decide_eq_true (by omega)]; rfl) ?_
          refine go ?_
          refine Sx.ca (vs := [.agg (⟨((kindW s : Nat) : Int), ((fr : Nat) : Int), ((at_ : Nat) : Int), ((v 0 : Nat) : Int), v 1, v 2⟩ : Opn).l.toArray]) rfl (ref18May (⟨((kindW s : Nat) : Int), ((fr : Nat) : Int), ((at_ : Nat) : Int), ((v 0 : Nat) : Int), v 1, v 2⟩ : Opn)) ?_
          rintro v' L' ⟨rfl, rfl⟩
          cases hm : mayO (⟨((kindW s : Nat) : Int), ((fr : Nat) : Int), ((at_ : Nat) : Int), ((v 0 : Nat) : Int), v 1, v 2⟩ : Opn) with
          | false =>
            skip
            refine go ?_
            refine Sx.st (b := g2) (vs := Opn.zero.l) rfl rfl rfl rfl rfl rfl ?_
            refine Sx.reb Opn.zero.l rfl ?_
            refine go ?_
            exact Kr_ct (b := g2) (.inr rfl) rfl rfl rfl (L' := L) ent ⟨by rw [getO_no (s := s) (fun o ho => by have h1 := ho.1; rw [(hsame o ho).1, hm] at h1; cases h1)]; rfl, rfl⟩
          | true =>
            skip
            refine go ?_
            refine Sx.ca (vs := [.agg (⟨((kindW s : Nat) : Int), ((fr : Nat) : Int), ((at_ : Nat) : Int), ((v 0 : Nat) : Int), v 1, v 2⟩ : Opn).l.toArray]) rfl (ref18Put (⟨((kindW s : Nat) : Int), ((fr : Nat) : Int), ((at_ : Nat) : Int), ((v 0 : Nat) : Int), v 1, v 2⟩ : Opn) (mayS hm) b1 b2) ?_
            rintro v' L' ⟨rfl, rfl⟩
            refine go ?_
            by_cases hpr : printO (⟨((kindW s : Nat) : Int), ((fr : Nat) : Int), ((at_ : Nat) : Int), ((v 0 : Nat) : Int), v 1, v 2⟩ : Opn) = s
            · refine Cx.cno rfl (by rw [show decide (printO (⟨((kindW s : Nat) : Int), ((fr : Nat) : Int), ((at_ : Nat) : Int), ((v 0 : Nat) : Int), v 1, v 2⟩ : Opn) = s) = true from decide_eq_true hpr]; rfl) ?_
              refine go ?_
              refine Sx.st (b := g2) (vs := (⟨((kindW s : Nat) : Int), ((fr : Nat) : Int), ((at_ : Nat) : Int), ((v 0 : Nat) : Int), v 1, v 2⟩ : Opn).l) rfl rfl rfl rfl rfl rfl ?_
              refine Sx.reb (⟨((kindW s : Nat) : Int), ((fr : Nat) : Int), ((at_ : Nat) : Int), ((v 0 : Nat) : Int), v 1, v 2⟩ : Opn).l rfl ?_
              refine go ?_
              exact Kr_ct (b := g2) (.inr rfl) rfl rfl rfl (L' := L) ent ⟨by rw [getO_yes (s := s) (o := (⟨((kindW s : Nat) : Int), ((fr : Nat) : Int), ((at_ : Nat) : Int), ((v 0 : Nat) : Int), v 1, v 2⟩ : Opn)) ⟨hm, b1, b2, hpr⟩]; rfl, rfl⟩
            · refine Cx.cyes rfl (by rw [show decide (printO (⟨((kindW s : Nat) : Int), ((fr : Nat) : Int), ((at_ : Nat) : Int), ((v 0 : Nat) : Int), v 1, v 2⟩ : Opn) = s) = false from decide_eq_false hpr]; rfl) ?_
              refine go ?_
              refine Sx.st (b := g2) (vs := Opn.zero.l) rfl rfl rfl rfl rfl rfl ?_
              refine Sx.reb Opn.zero.l rfl ?_
              refine go ?_
              exact Kr_ct (b := g2) (.inr rfl) rfl rfl rfl (L' := L) ent ⟨by rw [getO_no (s := s) (fun o ho => by have h1 := ho.2.2.2; rw [(hsame o ho).1] at h1; exact hpr h1)]; rfl, rfl⟩
        · refine Sx.gno rfl (by rw [decide_eq_false (by omega)]) ?_
          refine go ?_
          refine Sx.st (b := g2) (vs := Opn.zero.l) rfl rfl rfl rfl rfl rfl ?_
          refine Sx.reb Opn.zero.l rfl ?_
          refine go ?_
          exact Kr_ct (b := g2) (.inr rfl) rfl rfl rfl (L' := L) ent ⟨by rw [getO_no (s := s) (fun o ho => hnN (hsame o ho).2)]; rfl, rfl⟩
  · refine Cx.cyes rfl (decide_eq_true (by omega)) ?_
    refine go ?_
    refine Cx.ordc rfl (by kernel_rfl) ?_
    refine Ev.bring 1 rfl ?_
    refine ge ?_
    iterate 2 (refine Ev.bring 3 rfl ?_; refine ge ?_)
    refine Ev.bring 3 rfl ?_
    refine Ev.ldrH (by kernel_rfl) rfl rfl (show ((words s).map str)[0 + (0 : Int).toNat * 1]? = some (str x0) by rw [hw0]; rfl) ?_
    refine Ev.caH (by kernel_rfl) rfl rfl ref18Names (.keep (fun v L' h => by obtain ⟨q, _, e⟩ := h; subst e; exact (Has.row (b := gw) (m := 1)).one (take_one (show ((words s).map str)[0 + (0 : Int).toNat * 1]? = some (str x0) by rw [hw0]; rfl))) .nil) ?_
    rintro v L' ⟨q, rfl, rfl⟩
    refine ge ?_
    refine Ev.ldrH (by kernel_rfl) rfl rfl (names_at (by omega)) ?_
    refine ge ?_
    by_cases hx : (formN (i + 1)).name = x0
    · refine Cx.cyes rfl (decide_eq_true hx) ?_
      have hk : kindTo x0 (i + 1) = i + 1 := by unfold kindTo; rw [if_pos hx]
      refine go ?_
      rw [w64 (by omega) (by omega)]
      refine Klp.nm ⟨i + 1, by omega⟩ (sub.cons rfl (sub.cons rfl (sub.cons rfl (sub.cons rfl (sub.cons rfl sub.nil))))) ?_ (by dsimp only; omega)
      dsimp only
      rw [hk]
      exact ent
    · refine Cx.cno rfl (decide_eq_false hx) ?_
      have hk : kindTo x0 (i + 1) = kindTo x0 i := by unfold kindTo; rw [if_neg hx]; cases i <;> rfl
      refine go ?_
      rw [w64 (by omega) (by omega)]
      refine Klp.nm ⟨i + 1, by omega⟩ (sub.cons rfl (sub.cons rfl (sub.cons rfl (sub.cons rfl (sub.cons rfl sub.nil))))) ?_ (by dsimp only; omega)
      dsimp only
      rw [hk]
      exact ent
end
end Go.Proofs.YtlpikhdiiehcaaaDoor

/-
  The laws of layer 18: OpReads.
-/
set_option linter.unusedVariables false
set_option linter.unusedSimpArgs false
namespace Go.Proofs.YtlpikhdiiehcaaaDoor
open Go Go.RowKit
attribute [local irreducible] Sx Cx Rx Fx Krg Ksq Kbl Klp Kr
section
variable {L F G : St} {w : World}
theorem getO_two (s : List UInt8) : (∃ o, getO s = (o, 0)) ∨ getO s = (Opn.zero, 10) := by
  by_cases h0 : (getO s).2 = 0
  · exact .inl ⟨(getO s).1, Prod.ext rfl h0⟩
  · exact .inr (getO_none h0)
theorem opReads (l : LibOk w) (hL : Ent L [Old w]) (s : List UInt8) : Fx Tryd.prog 4 [str s] L (fun v L' => v = .bool true ∧ L = L') := by
  have hsz : (⟨s.toArray⟩ : ByteArray).size = s.length := rfl
  refine Fx.mk Tryd.func4 k4 (Nat.le_of_ble_eq_true rfl) ?_
  dsimp only [c4, envOf, Nat.reduceAdd]
  refine go ?_
  refine Sx.ca rfl (opFirst (w := w) l (Ent.trans (M := L) ent hL)) ?_
  rintro v L' ⟨rfl, rfl⟩
  refine go ?_
  by_cases h : 100 < s.length
  · refine Cx.cyes rfl (decide_eq_true (by rw [hsz]; omega)) ?_
    refine go ?_
    exact Kr.one (.inr rfl) rfl (L' := L) ent ⟨rfl, rfl⟩
  · refine Cx.cno rfl (decide_eq_false (by rw [hsz]; omega)) ?_
    refine go ?_
    have h1 := opGet (L := L) (w := w) l hL s (by omega)
    have h2 := fun (M : St) => ref18Get (L := M) s (by omega)
    rcases getO_two s with ⟨o, e⟩ | e
    · rw [e] at h1
      simp only [e] at h2
      refine Sx.ca (vs := [str s]) rfl h1 ?_
      rintro v L' ⟨rfl, rfl⟩
      refine go ?_
      refine Sx.al fun g4 => ?_
      refine Sx.st (b := g4) (vs := o.l) rfl rfl rfl rfl rfl rfl ?_
      refine Sx.reb o.l rfl ?_
      refine go ?_
      refine Sx.ca (vs := [str s]) rfl (h2 _) ?_
      rintro v L' ⟨rfl, rfl⟩
      refine go ?_
      refine Sx.al fun g6 => ?_
      refine Sx.st (b := g6) (vs := o.l) rfl rfl rfl rfl rfl rfl ?_
      refine Sx.reb o.l rfl ?_
      refine go ?_
      refine Sx.gyes rfl (decide_eq_true rfl) ?_
      refine go ?_
      exact Kr.one (.inr rfl) rfl (L' := L) ent ⟨rfl, rfl⟩
    · rw [e] at h1
      simp only [e] at h2
      refine Sx.ca (vs := [str s]) rfl h1 ?_
      rintro v L' ⟨rfl, rfl⟩
      refine go ?_
      refine Sx.al fun g4 => ?_
      refine Sx.st (b := g4) (vs := Opn.zero.l) rfl rfl rfl rfl rfl rfl ?_
      refine Sx.reb Opn.zero.l rfl ?_
      refine go ?_
      refine Sx.ca (vs := [str s]) rfl (h2 _) ?_
      rintro v L' ⟨rfl, rfl⟩
      refine go ?_
      refine Sx.al fun g6 => ?_
      refine Sx.st (b := g6) (vs := Opn.zero.l) rfl rfl rfl rfl rfl rfl ?_
      refine Sx.reb Opn.zero.l rfl ?_
      refine go ?_
      exact Kr.one (.inr rfl) rfl (L' := L) ent ⟨rfl, rfl⟩
end
end Go.Proofs.YtlpikhdiiehcaaaDoor
