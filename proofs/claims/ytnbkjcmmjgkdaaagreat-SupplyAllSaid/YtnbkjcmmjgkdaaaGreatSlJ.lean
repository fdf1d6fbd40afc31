/-
  Two ways that come together: what both reach is walked once.
-/
import Derived.Test.YtnbkjcmmjgkdaaaGreatSlI
set_option linter.unusedVariables false
namespace Go.Proofs.YtnbkjcmmjgkdaaaGreat
open Go
section
variable {P : Program} {N : Nat} {e : En} {K : Kx} {L M F : St} {β : Type _}
/-- A way that goes on ends in one of the states named; any other is as it was. -/
def Kjn (K : Kx) (T : β → En) (S : β → St) : Kx
  | .nm, e, L => ∃ y, sub (T y) e ∧ Ent L (S y)
  | .rt, e, L => K .rt e L
  | .ex i, e, L => K (.ex i) e L
theorem Kjn.nm {T : β → En} {S : β → St} (y : β) (h1 : sub (T y) e) (h2 : Ent L (S y)) : Kjn K T S .nm e L := ⟨y, h1, h2⟩
theorem Kjn.rt {T : β → En} {S : β → St} (h : K .rt e L) : Kjn K T S .rt e L := h
theorem Kjn.ex {T : β → En} {S : β → St} {i : Nat} (h : K (.ex i) e L) : Kjn K T S (.ex i) e L := h
theorem Cx.jn {c d : C} (T : β → En) (S : β → St) (hc : Cx P N c e (Kjn (Ksq P N d K) T S) L) (hd : ∀ y, Cx P N d (T y) K (S y)) : Cx P N c e (Ksq P N d K) L := by
  intro code Q a w0 w hx ok s k
  refine hc code Q a w0 w hx ok s fun z a' w' e' L' hk ok' s' => ?_
  cases z with
  | nm =>
    obtain ⟨y, su, en⟩ := hk
    exact k .nm a' w' (T y) (S y) (hd y) (ok'.sub su) (s'.ent en)
  | rt => exact k .rt a' w' e' L' hk ok' s'
  | ex i => exact k (.ex i) a' w' e' L' hk ok' s'
/-- A function that answers true, and leaves what it was given. -/
def True_ (P : Program) (f : FuncId) (vs : List Value) (L : St) : Prop := Fx P f vs L (fun v L' => v = .bool true ∧ Ent L' L)
end
end Go.Proofs.YtnbkjcmmjgkdaaaGreat
