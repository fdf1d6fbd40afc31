/-
  More rules of regions that draw: a store into a row.
-/
import Derived.Test.YtnbkjcmmjgkdaaaGreatSlN
set_option linter.unusedVariables false
set_option linter.unusedSimpArgs false
namespace Go.Proofs.YtnbkjcmmjgkdaaaGreat
open Go
theorem lay1 {cs : List Value} {off : Nat} {u : Value} (h : off < cs.length) : lay cs off [u] = cs.set off u := by
  have := lay_cons cs off u [] (by simp; omega)
  rw [← this, lay_nil]
section
variable {P : Program} {N : Nat} {L F : St} {Kf : En → St → Prop} {e : En} {r : List It} {ms : List (Nat × (St → Prop))} {i ds sz : Nat} {rs : List Nat} {d : Option Nat} {g : Option (Nat × Bool)}
/-- A store of one cell into a row. -/
theorem Ev.strH {x v : X} {b off E n cap : Nat} {xs ys : List Value} {u : Value} [t : Take L (some ⟨b, 0, none⟩) (Row E sz n cap xs) F] (hd : lastly i r = true) (hg : gon (e.only rs) g = true)
    (hx : x.get (e.only rs) = some (.pointer (some ⟨b, off, none⟩))) (hv : v.get (e.only rs) = some u) (hu : cellsOf u = some [u]) (h1 : u.oneCell' = true) (hl : off < xs.length) (hy : xs.set off u = ys)
    (hp : Pres ds (fun v L' => v = undef ∧ L' = pt (some ⟨b, 0, none⟩) (Row E sz n cap ys) :: F) ms)
    (k : Ev P N Kf r ms (e.put d undef) (pt (some ⟨b, 0, none⟩) (Row E sz n cap ys) :: F)) : Ev P N Kf (⟨i, ds, rs, ⟨d, g, .st x v 1⟩⟩ :: r) ms e L :=
  .genH hd hp hg (fun e' hs K kk => Sx.str (t := t) (X.get_sub hx hs) (X.get_sub hv hs) hu rfl (by simp [ones, h1]) hl (by rw [lay1 hl, hy]) (Sx.nil (kk _ _ ⟨rfl, rfl⟩)))
    (fun v L' ⟨e1, e2⟩ => by subst e1; subst e2; exact k)
/-- The same, by one access. -/
theorem Sx.str1 {l : List G} {K : En → St → Prop} {x v : X} {b off E n cap : Nat} {xs ys : List Value} {u : Value} [t : Take L (some ⟨b, 0, none⟩) (Row E sz n cap xs) F] (hx : x.get e = some (.pointer (some ⟨b, off, none⟩))) (hv : v.get e = some u)
    (hu : cellsOf u = some [u]) (h1 : u.oneCell' = true) (hl : off < xs.length) (hy : xs.set off u = ys) (k : Sx P N l (e.put d undef) K (pt (some ⟨b, 0, none⟩) (Row E sz n cap ys) :: F)) :
    Sx P N (⟨d, none, .st x v 1⟩ :: l) e K L := Sx.str hx hv hu rfl (by simp [ones, h1]) hl (by rw [lay1 hl, hy]) k
end
end Go.Proofs.YtnbkjcmmjgkdaaaGreat
