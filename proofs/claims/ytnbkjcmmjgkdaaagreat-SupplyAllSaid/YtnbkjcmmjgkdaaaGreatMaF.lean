/-
  run's Machine: one access a step; what its next access is, is a function it holds.
-/
import Derived.Test.YtnbkjcmmjgkdaaaGreatSlN
import Derived.Test.YtnbkjcmmjgkdaaaGreatCo
set_option linter.unusedVariables false
set_option linter.unusedSimpArgs false
namespace Go.Proofs.YtnbkjcmmjgkdaaaGreat
open Go
attribute [local irreducible] Sx Cx Rx Fx Krg Ksq Kbl Klp Kr

section
variable {L F : St}
/-- A method of a pointer, as a value. -/
abbrev mth (f : FuncId) (b : Nat) : Value := .func (.func f) #[.pointer (some ⟨b, 0, none⟩)] #[]
theorem machGo {b : Nat} {T : TypeId} {nx : Value} {f : FuncId} {w : Value} {rest : List Value} [t : Take L (some ⟨b, 0, none⟩) (Blk T (nx :: rest)) F] :
    Fx Tryz.prog 114 [.pointer (some ⟨b, 0, none⟩), .func (.func f) #[w] #[]] L (fun v L' => v = .tuple #[] ∧ L' = pt (some ⟨b, 0, none⟩) (Blk T (.func (.func f) #[w] #[] :: rest)) :: F) := by
  refine Fx.mk Tryz.func114 k114 (Nat.le_of_ble_eq_true rfl) ?_
  dsimp only [c114, envOf, Nat.reduceAdd]
  repeat' (first|refine Zo0 rfl ?_|refine Zo1 ?_|refine Zo2 ?_|refine Zo3 ?_|refine Zo4 ?_|refine Zo5 ?_|refine Zo6 ?_|refine Zo7 ?_|refine Zo8 rfl ?_|refine Zo9 rfl ?_|refine Zoa ?_|refine Zob ?_|refine Zoc ?_|refine Zod ?_|refine Zoe ?_|refine Zof ?_|refine Zog ?_|refine Zoh ?_|refine Zoi rfl ?_|refine Zoj rfl ?_|refine Zok rfl ?_|refine Zol rfl ?_|refine Zom rfl (by rfl) ?_|refine Zon rfl rfl ?_|refine Zoo rfl rfl rfl rfl (by rfl) (by rfl) ?_|refine Zop rfl trivial ?_|refine Zoq rfl rfl rfl ?_)
  exact Kr.none (.inl rfl) (Ent.refl _) ⟨rfl, rfl⟩
theorem machDoneYes {b : Nat} {T : TypeId} {rest : List Value} [t : Take L (some ⟨b, 0, none⟩) (Blk T (.nilFunc :: rest)) F] : Fx Tryz.prog 97 [.pointer (some ⟨b, 0, none⟩)] L (fun v L' => v = .bool true ∧ L = L') := by
  refine Fx.mk Tryz.func97 k97 (Nat.le_of_ble_eq_true rfl) ?_
  dsimp only [c97, envOf, Nat.reduceAdd]
  repeat' (first|refine Zo0 rfl ?_|refine Zo1 ?_|refine Zo2 ?_|refine Zo3 ?_|refine Zo4 ?_|refine Zo5 ?_|refine Zo6 ?_|refine Zo7 ?_|refine Zo8 rfl ?_|refine Zo9 rfl ?_|refine Zoa ?_|refine Zob ?_|refine Zoc ?_|refine Zod ?_|refine Zoe ?_|refine Zof ?_|refine Zog ?_|refine Zoh ?_|refine Zoi rfl ?_|refine Zoj rfl ?_|refine Zok rfl ?_|refine Zol rfl ?_|refine Zom rfl (by rfl) ?_|refine Zon rfl rfl ?_|refine Zoo rfl rfl rfl rfl (by rfl) (by rfl) ?_|refine Zop rfl trivial ?_|refine Zoq rfl rfl rfl ?_)
  exact Kr.one (.inr rfl) rfl (Ent.refl _) ⟨rfl, rfl⟩
theorem machDoneNo {b : Nat} {T : TypeId} {f : FuncId} {w : Value} {rest : List Value} [t : Take L (some ⟨b, 0, none⟩) (Blk T (.func (.func f) #[w] #[] :: rest)) F] : Fx Tryz.prog 97 [.pointer (some ⟨b, 0, none⟩)] L (fun v L' => v = .bool false ∧ L = L') := by
  refine Fx.mk Tryz.func97 k97 (Nat.le_of_ble_eq_true rfl) ?_
  dsimp only [c97, envOf, Nat.reduceAdd]
  repeat' (first|refine Zo0 rfl ?_|refine Zo1 ?_|refine Zo2 ?_|refine Zo3 ?_|refine Zo4 ?_|refine Zo5 ?_|refine Zo6 ?_|refine Zo7 ?_|refine Zo8 rfl ?_|refine Zo9 rfl ?_|refine Zoa ?_|refine Zob ?_|refine Zoc ?_|refine Zod ?_|refine Zoe ?_|refine Zof ?_|refine Zog ?_|refine Zoh ?_|refine Zoi rfl ?_|refine Zoj rfl ?_|refine Zok rfl ?_|refine Zol rfl ?_|refine Zom rfl (by rfl) ?_|refine Zon rfl rfl ?_|refine Zoo rfl rfl rfl rfl (by rfl) (by rfl) ?_|refine Zop rfl trivial ?_|refine Zoq rfl rfl rfl ?_)
  exact Kr.one (.inr rfl) rfl (Ent.refl _) ⟨rfl, rfl⟩
theorem machStepDone {b : Nat} {T : TypeId} {rest : List Value} [t : Take L (some ⟨b, 0, none⟩) (Blk T (.nilFunc :: rest)) F] : Fx Tryz.prog 93 [.pointer (some ⟨b, 0, none⟩)] L (fun v L' => v = .bool false ∧ L = L') := by
  refine Fx.mk Tryz.func93 k93 (Nat.le_of_ble_eq_true rfl) ?_
  dsimp only [c93, envOf, Nat.reduceAdd]
  repeat' (first|refine Zo0 rfl ?_|refine Zo1 ?_|refine Zo2 ?_|refine Zo3 ?_|refine Zo4 ?_|refine Zo5 ?_|refine Zo6 ?_|refine Zo7 ?_|refine Zo8 rfl ?_|refine Zo9 rfl ?_|refine Zoa ?_|refine Zob ?_|refine Zoc ?_|refine Zod ?_|refine Zoe ?_|refine Zof ?_|refine Zog ?_|refine Zoh ?_|refine Zoi rfl ?_|refine Zoj rfl ?_|refine Zok rfl ?_|refine Zol rfl ?_|refine Zom rfl (by rfl) ?_|refine Zon rfl rfl ?_|refine Zoo rfl rfl rfl rfl (by rfl) (by rfl) ?_|refine Zop rfl trivial ?_|refine Zoq rfl rfl rfl ?_)
  exact Kr.one (.inr rfl) rfl (Ent.refl _) ⟨rfl, rfl⟩
theorem machStep {b : Nat} {T : TypeId} {f : FuncId} {w z1 z2 z3 : Value} {cnt : Int} {rest : List Value} {R : Value → St → Prop} [t : Take L (some ⟨b, 0, none⟩) (Blk T (.func (.func f) #[w] #[] :: z1 :: z2 :: z3 :: .int .i64 cnt :: rest)) F]
    (hc : callable Tryz.prog f = true) (hf : Fx Tryz.prog f [w] (pt (some ⟨b, 0, none⟩) (Blk T (.nilFunc :: z1 :: z2 :: z3 :: .int .i64 (IntKind.i64.wrap (cnt + 1)) :: rest)) :: F) R) :
    Fx Tryz.prog 93 [.pointer (some ⟨b, 0, none⟩)] L (fun v L' => v = .bool true ∧ ∃ u, R u L') := by
  refine Fx.mk Tryz.func93 k93 (Nat.le_of_ble_eq_true rfl) ?_
  dsimp only [c93, envOf, Nat.reduceAdd]
  repeat' (first|refine Zo0 rfl ?_|refine Zo1 ?_|refine Zo2 ?_|refine Zo3 ?_|refine Zo4 ?_|refine Zo5 ?_|refine Zo6 ?_|refine Zo7 ?_|refine Zo8 rfl ?_|refine Zo9 rfl ?_|refine Zoa ?_|refine Zob ?_|refine Zoc ?_|refine Zod ?_|refine Zoe ?_|refine Zof ?_|refine Zog ?_|refine Zoh ?_|refine Zoi rfl ?_|refine Zoj rfl ?_|refine Zok rfl ?_|refine Zol rfl ?_|refine Zom rfl (by rfl) ?_|refine Zon rfl rfl ?_|refine Zoo rfl rfl rfl rfl (by rfl) (by rfl) ?_|refine Zop rfl trivial ?_|refine Zoq rfl rfl rfl ?_)
  refine Sx.cl (p := [w]) (q := []) (vs := []) rfl hc rfl hf ?_
  intro u L' hR
  repeat' (first|refine Zo0 rfl ?_|refine Zo1 ?_|refine Zo2 ?_|refine Zo3 ?_|refine Zo4 ?_|refine Zo5 ?_|refine Zo6 ?_|refine Zo7 ?_|refine Zo8 rfl ?_|refine Zo9 rfl ?_|refine Zoa ?_|refine Zob ?_|refine Zoc ?_|refine Zod ?_|refine Zoe ?_|refine Zof ?_|refine Zog ?_|refine Zoh ?_|refine Zoi rfl ?_|refine Zoj rfl ?_|refine Zok rfl ?_|refine Zol rfl ?_|refine Zom rfl (by rfl) ?_|refine Zon rfl rfl ?_|refine Zoo rfl rfl rfl rfl (by rfl) (by rfl) ?_|refine Zop rfl trivial ?_|refine Zoq rfl rfl rfl ?_)
  exact Kr.one (.inr rfl) rfl (Ent.refl _) ⟨rfl, u, hR⟩
/-- The other machine is not done: the next access is through it. -/
theorem machOnNo {b : Nat} {T : TypeId} {fd : FuncId} {w nx z1 z3 : Value} {rest : List Value} [t : Take L (some ⟨b, 0, none⟩) (Blk T (nx :: z1 :: .func (.func fd) #[w] #[] :: z3 :: rest)) F]
    (hc : callable Tryz.prog fd = true) (hd : Fx Tryz.prog fd [w] L (fun v L' => v = .bool false ∧ L = L')) :
    Fx Tryz.prog 157 [.pointer (some ⟨b, 0, none⟩)] L (fun v L' => v = .tuple #[] ∧ L' = pt (some ⟨b, 0, none⟩) (Blk T (mth 183 b :: z1 :: .func (.func fd) #[w] #[] :: z3 :: rest)) :: F) := by
  refine Fx.mk Tryz.func157 k157 (Nat.le_of_ble_eq_true rfl) ?_
  dsimp only [c157, envOf, Nat.reduceAdd]
  repeat' (first|refine Zo0 rfl ?_|refine Zo1 ?_|refine Zo2 ?_|refine Zo3 ?_|refine Zo4 ?_|refine Zo5 ?_|refine Zo6 ?_|refine Zo7 ?_|refine Zo8 rfl ?_|refine Zo9 rfl ?_|refine Zoa ?_|refine Zob ?_|refine Zoc ?_|refine Zod ?_|refine Zoe ?_|refine Zof ?_|refine Zog ?_|refine Zoh ?_|refine Zoi rfl ?_|refine Zoj rfl ?_|refine Zok rfl ?_|refine Zol rfl ?_|refine Zom rfl (by rfl) ?_|refine Zon rfl rfl ?_|refine Zoo rfl rfl rfl rfl (by rfl) (by rfl) ?_|refine Zop rfl trivial ?_|refine Zoq rfl rfl rfl ?_)
  refine Sx.cl (p := [w]) (q := []) (vs := []) rfl hc rfl hd ?_
  rintro v L' ⟨rfl, rfl⟩
  repeat' (first|refine Zo0 rfl ?_|refine Zo1 ?_|refine Zo2 ?_|refine Zo3 ?_|refine Zo4 ?_|refine Zo5 ?_|refine Zo6 ?_|refine Zo7 ?_|refine Zo8 rfl ?_|refine Zo9 rfl ?_|refine Zoa ?_|refine Zob ?_|refine Zoc ?_|refine Zod ?_|refine Zoe ?_|refine Zof ?_|refine Zog ?_|refine Zoh ?_|refine Zoi rfl ?_|refine Zoj rfl ?_|refine Zok rfl ?_|refine Zol rfl ?_|refine Zom rfl (by rfl) ?_|refine Zon rfl rfl ?_|refine Zoo rfl rfl rfl rfl (by rfl) (by rfl) ?_|refine Zop rfl trivial ?_|refine Zoq rfl rfl rfl ?_)
  exact Kr.none (.inl rfl) (Ent.refl _) ⟨rfl, rfl⟩
/-- It is done: this one goes on. -/
theorem machOnYes {b : Nat} {T : TypeId} {fd ft : FuncId} {w u nx z1 : Value} {rest : List Value} {R : Value → St → Prop} [t : Take L (some ⟨b, 0, none⟩) (Blk T (nx :: z1 :: .func (.func fd) #[w] #[] :: .func (.func ft) #[u] #[] :: rest)) F]
    (hc : callable Tryz.prog fd = true) (hd : Fx Tryz.prog fd [w] L (fun v L' => v = .bool true ∧ L = L')) (hct : callable Tryz.prog ft = true) (ht : Fx Tryz.prog ft [u] L R) :
    Fx Tryz.prog 157 [.pointer (some ⟨b, 0, none⟩)] L (fun v L' => v = .tuple #[] ∧ ∃ x, R x L') := by
  refine Fx.mk Tryz.func157 k157 (Nat.le_of_ble_eq_true rfl) ?_
  dsimp only [c157, envOf, Nat.reduceAdd]
  repeat' (first|refine Zo0 rfl ?_|refine Zo1 ?_|refine Zo2 ?_|refine Zo3 ?_|refine Zo4 ?_|refine Zo5 ?_|refine Zo6 ?_|refine Zo7 ?_|refine Zo8 rfl ?_|refine Zo9 rfl ?_|refine Zoa ?_|refine Zob ?_|refine Zoc ?_|refine Zod ?_|refine Zoe ?_|refine Zof ?_|refine Zog ?_|refine Zoh ?_|refine Zoi rfl ?_|refine Zoj rfl ?_|refine Zok rfl ?_|refine Zol rfl ?_|refine Zom rfl (by rfl) ?_|refine Zon rfl rfl ?_|refine Zoo rfl rfl rfl rfl (by rfl) (by rfl) ?_|refine Zop rfl trivial ?_|refine Zoq rfl rfl rfl ?_)
  refine Sx.cl (p := [w]) (q := []) (vs := []) rfl hc rfl hd ?_
  rintro v L' ⟨rfl, rfl⟩
  repeat' (first|refine Zo0 rfl ?_|refine Zo1 ?_|refine Zo2 ?_|refine Zo3 ?_|refine Zo4 ?_|refine Zo5 ?_|refine Zo6 ?_|refine Zo7 ?_|refine Zo8 rfl ?_|refine Zo9 rfl ?_|refine Zoa ?_|refine Zob ?_|refine Zoc ?_|refine Zod ?_|refine Zoe ?_|refine Zof ?_|refine Zog ?_|refine Zoh ?_|refine Zoi rfl ?_|refine Zoj rfl ?_|refine Zok rfl ?_|refine Zol rfl ?_|refine Zom rfl (by rfl) ?_|refine Zon rfl rfl ?_|refine Zoo rfl rfl rfl rfl (by rfl) (by rfl) ?_|refine Zop rfl trivial ?_|refine Zoq rfl rfl rfl ?_)
  refine Sx.cl (p := [u]) (q := []) (vs := []) rfl hct rfl ht ?_
  intro x L' hR
  repeat' (first|refine Zo0 rfl ?_|refine Zo1 ?_|refine Zo2 ?_|refine Zo3 ?_|refine Zo4 ?_|refine Zo5 ?_|refine Zo6 ?_|refine Zo7 ?_|refine Zo8 rfl ?_|refine Zo9 rfl ?_|refine Zoa ?_|refine Zob ?_|refine Zoc ?_|refine Zod ?_|refine Zoe ?_|refine Zof ?_|refine Zog ?_|refine Zoh ?_|refine Zoi rfl ?_|refine Zoj rfl ?_|refine Zok rfl ?_|refine Zol rfl ?_|refine Zom rfl (by rfl) ?_|refine Zon rfl rfl ?_|refine Zoo rfl rfl rfl rfl (by rfl) (by rfl) ?_|refine Zop rfl trivial ?_|refine Zoq rfl rfl rfl ?_)
  exact Kr.none (.inr rfl) (Ent.refl _) ⟨rfl, x, hR⟩
theorem machThrough {b : Nat} {T : TypeId} {fs fd ft : FuncId} {ws w u nx z1 z2 z3 : Value} {rest : List Value} {R : Value → St → Prop} [t : Take L (some ⟨b, 0, none⟩) (Blk T (nx :: z1 :: z2 :: z3 :: rest)) F]
    (hon : Fx Tryz.prog 157 [.pointer (some ⟨b, 0, none⟩)] (pt (some ⟨b, 0, none⟩) (Blk T (nx :: .func (.func fs) #[ws] #[] :: .func (.func fd) #[w] #[] :: .func (.func ft) #[u] #[] :: rest)) :: F) R) :
    Fx Tryz.prog 102 [.pointer (some ⟨b, 0, none⟩), .func (.func fs) #[ws] #[], .func (.func fd) #[w] #[], .func (.func ft) #[u] #[]] L (fun v L' => v = .tuple #[] ∧ ∃ x, R x L') := by
  refine Fx.mk Tryz.func102 k102 (Nat.le_of_ble_eq_true rfl) ?_
  dsimp only [c102, envOf, Nat.reduceAdd]
  repeat' (first|refine Zo0 rfl ?_|refine Zo1 ?_|refine Zo2 ?_|refine Zo3 ?_|refine Zo4 ?_|refine Zo5 ?_|refine Zo6 ?_|refine Zo7 ?_|refine Zo8 rfl ?_|refine Zo9 rfl ?_|refine Zoa ?_|refine Zob ?_|refine Zoc ?_|refine Zod ?_|refine Zoe ?_|refine Zof ?_|refine Zog ?_|refine Zoh ?_|refine Zoi rfl ?_|refine Zoj rfl ?_|refine Zok rfl ?_|refine Zol rfl ?_|refine Zom rfl (by rfl) ?_|refine Zon rfl rfl ?_|refine Zoo rfl rfl rfl rfl (by rfl) (by rfl) ?_|refine Zop rfl trivial ?_|refine Zoq rfl rfl rfl ?_)
  refine Sx.ca rfl hon ?_
  intro x L' hR
  repeat' (first|refine Zo0 rfl ?_|refine Zo1 ?_|refine Zo2 ?_|refine Zo3 ?_|refine Zo4 ?_|refine Zo5 ?_|refine Zo6 ?_|refine Zo7 ?_|refine Zo8 rfl ?_|refine Zo9 rfl ?_|refine Zoa ?_|refine Zob ?_|refine Zoc ?_|refine Zod ?_|refine Zoe ?_|refine Zof ?_|refine Zog ?_|refine Zoh ?_|refine Zoi rfl ?_|refine Zoj rfl ?_|refine Zok rfl ?_|refine Zol rfl ?_|refine Zom rfl (by rfl) ?_|refine Zon rfl rfl ?_|refine Zoo rfl rfl rfl rfl (by rfl) (by rfl) ?_|refine Zop rfl trivial ?_|refine Zoq rfl rfl rfl ?_)
  exact Kr.none (.inl rfl) (Ent.refl _) ⟨rfl, x, hR⟩
theorem machGoes {b : Nat} {T : TypeId} {fs : FuncId} {ws nx : Value} {rest : List Value} {R1 R2 : Value → St → Prop} [t : Take L (some ⟨b, 0, none⟩) (Blk T (nx :: .func (.func fs) #[ws] #[] :: rest)) F]
    (hc : callable Tryz.prog fs = true) (hs : Fx Tryz.prog fs [ws] L R1) (hon : ∀ x L1, R1 x L1 → Fx Tryz.prog 157 [.pointer (some ⟨b, 0, none⟩)] L1 R2) :
    Fx Tryz.prog 183 [.pointer (some ⟨b, 0, none⟩)] L (fun v L' => v = .tuple #[] ∧ ∃ x, R2 x L') := by
  refine Fx.mk Tryz.func183 k183 (Nat.le_of_ble_eq_true rfl) ?_
  dsimp only [c183, envOf, Nat.reduceAdd]
  repeat' (first|refine Zo0 rfl ?_|refine Zo1 ?_|refine Zo2 ?_|refine Zo3 ?_|refine Zo4 ?_|refine Zo5 ?_|refine Zo6 ?_|refine Zo7 ?_|refine Zo8 rfl ?_|refine Zo9 rfl ?_|refine Zoa ?_|refine Zob ?_|refine Zoc ?_|refine Zod ?_|refine Zoe ?_|refine Zof ?_|refine Zog ?_|refine Zoh ?_|refine Zoi rfl ?_|refine Zoj rfl ?_|refine Zok rfl ?_|refine Zol rfl ?_|refine Zom rfl (by rfl) ?_|refine Zon rfl rfl ?_|refine Zoo rfl rfl rfl rfl (by rfl) (by rfl) ?_|refine Zop rfl trivial ?_|refine Zoq rfl rfl rfl ?_)
  refine Sx.cl (p := [ws]) (q := []) (vs := []) rfl hc rfl hs ?_
  intro x L1 hR1
  repeat' (first|refine Zo0 rfl ?_|refine Zo1 ?_|refine Zo2 ?_|refine Zo3 ?_|refine Zo4 ?_|refine Zo5 ?_|refine Zo6 ?_|refine Zo7 ?_|refine Zo8 rfl ?_|refine Zo9 rfl ?_|refine Zoa ?_|refine Zob ?_|refine Zoc ?_|refine Zod ?_|refine Zoe ?_|refine Zof ?_|refine Zog ?_|refine Zoh ?_|refine Zoi rfl ?_|refine Zoj rfl ?_|refine Zok rfl ?_|refine Zol rfl ?_|refine Zom rfl (by rfl) ?_|refine Zon rfl rfl ?_|refine Zoo rfl rfl rfl rfl (by rfl) (by rfl) ?_|refine Zop rfl trivial ?_|refine Zoq rfl rfl rfl ?_)
  refine Sx.ca rfl (hon x L1 hR1) ?_
  intro y L2 hR2
  repeat' (first|refine Zo0 rfl ?_|refine Zo1 ?_|refine Zo2 ?_|refine Zo3 ?_|refine Zo4 ?_|refine Zo5 ?_|refine Zo6 ?_|refine Zo7 ?_|refine Zo8 rfl ?_|refine Zo9 rfl ?_|refine Zoa ?_|refine Zob ?_|refine Zoc ?_|refine Zod ?_|refine Zoe ?_|refine Zof ?_|refine Zog ?_|refine Zoh ?_|refine Zoi rfl ?_|refine Zoj rfl ?_|refine Zok rfl ?_|refine Zol rfl ?_|refine Zom rfl (by rfl) ?_|refine Zon rfl rfl ?_|refine Zoo rfl rfl rfl rfl (by rfl) (by rfl) ?_|refine Zop rfl trivial ?_|refine Zoq rfl rfl rfl ?_)
  exact Kr.none (.inl rfl) (Ent.refl _) ⟨rfl, y, hR2⟩
end
end Go.Proofs.YtnbkjcmmjgkdaaaGreat
