/-
  Supplies in plain words: stash and limbo; Take, Give, one access at a time.
-/
import Derived.Test.YtnbkjcmmjgkdaaaGreatPuA
import Derived.Test.YtnbkjcmmjgkdaaaGreatPuL
set_option linter.unusedVariables false
set_option linter.unusedSimpArgs false
namespace Go.Proofs.YtnbkjcmmjgkdaaaGreat

/-- A cell's epoch. -/
def cutE (w : Nat) : Int := min (w : Int) 4611686018427387903
/-- A supply: the greatest number that the stash keeps, the stash, the limbo. -/
structure SupS where
  most : Int
  xs : List Int
  lm : Lm
def SupS.nil (most : Int) : SupS := ⟨min (max most 0) 64, [], Lm.nil⟩
def SupS.give (s : SupS) (l : List Int) : SupS := { s with xs := s.xs ++ l }
def SupS.ready (s : SupS) (now : Int) : SupS := ⟨s.most, s.xs ++ (readyAll now s.lm).1, (readyAll now s.lm).2⟩
/-- One out of the stash. -/
def SupS.kept (s : SupS) : SupS := { s with xs := s.xs.dropLast }
def overI (most : Int) (xs : List Int) : Nat := ((xs.length : Int) - most).toNat
/-- A Take: at: 0: the Load of the epoch, 1: the Pop. -/
structure TakeS where
  at_ : Nat
  chunk : Int
  is_ : Bool
  seen : Int
  q : PopS
  done : Bool
def TakeS.none_ : TakeS := ⟨0, 0, false, -1, PopS.init 1, false⟩
/-- Kept, or not. -/
def keepT (s : SupS) (t : TakeS) : Option (SupS × TakeS) := if s.xs = [] then none else some (s.kept, { t with chunk := lastI s.xs, is_ := true, done := true })
def takeInit (batch : Int) (s : SupS) : SupS × TakeS :=
  match keepT s TakeS.none_ with
  | some r => r
  | none => if 0 < s.lm.size then (s, TakeS.none_) else (s, { TakeS.none_ with at_ := 1, q := PopS.init batch })
def popped (s : SupS) (t : TakeS) : SupS × TakeS :=
  match t.q.got with
  | [] => (s, { t with done := true })
  | x :: l => (s.give l, { t with chunk := x, is_ := true, done := true })
/-- The cell of the epoch is 2. -/
def takeStep (k : Sk) (batch : Int) (m : Mm) (s : SupS) (t : TakeS) : Mm × SupS × TakeS :=
  if t.done then (m, s, t) else
  match t.at_ with
  | 0 =>
    let t1 : TakeS := { t with seen := cutE (m.at_ 2) }
    let s1 := s.ready (cutE (m.at_ 2))
    match keepT s1 t1 with
    | some r => (m.tick, r)
    | none => (m.tick, s1, { t1 with at_ := 1, q := PopS.init batch })
  | _ =>
    let r := popStep k m t.q
    let t1 : TakeS := { t with q := r.1 }
    if r.1.done then (r.2, popped s t1) else (r.2, s, t1)
/-- A Give is a Push. -/
def giveValid (k : Sk) (l : List Int) : Prop := l.Nodup ∧ ∀ x ∈ l, 0 ≤ x ∧ x < k.n
end Go.Proofs.YtnbkjcmmjgkdaaaGreat
