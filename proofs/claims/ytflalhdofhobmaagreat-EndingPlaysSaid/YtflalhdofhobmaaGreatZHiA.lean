/-
  Parts of the proof, merged: what the statement leans on.
-/
import Derived.WalkKit
import Derived.Laws.StructEq
import Derived.Laws.Slices
import Derived.Laws.Strings2
import Derived.Laws.Strings
import Derived.Below
set_option linter.unusedVariables false
set_option linter.unusedSimpArgs false

namespace Go.Proofs.YtflalhdofhobmaaGreat
theorem lc {α : Type _} {a : α} {as bs : List α} : a :: as ++ bs = a :: (as ++ bs) := rfl
theorem ln {α : Type _} {as : List α} : [] ++ as = as := rfl
theorem bf : (false = true) = False := Bool.false_eq_true
theorem dt {p : Prop} [Decidable p] (h : p) : decide p = true := decide_eq_true h
theorem bq {a b : Nat} (h : Nat.beq a b = true) : a = b := Nat.eq_of_beq_eq_true h
theorem nz_ {α : Type _} {l : List α} (h : l.length = 0) : l = [] := List.eq_nil_of_length_eq_zero h
theorem tn (n : Nat) : (n : Int).toNat = n := Int.toNat_natCast n
theorem dz {p : Prop} [Decidable p] (h : ¬ p) : decide p = false := decide_eq_false h
abbrev ad (b : Nat) : Option Go.Addr := some ⟨b, 0, none⟩
abbrev OA := Option Go.Addr
section
open Go
def Hp := Nat → Option Obj
def Hp.no : Hp := fun _ => Option.none
def Hp.one (b : Nat) (o : Obj) : Hp := fun k => if k = b then some o else Option.none
def Hp.join (g h : Hp) : Hp := fun k => (g k).or (h k)
def Hp.apart (g h : Hp) : Prop := ∀ k, g k = Option.none ∨ h k = Option.none
def Hp.le (g h : Hp) : Prop := ∀ k o, g k = some o → h k = some o
abbrev As := Hp → Prop
abbrev St := List As
def holds : St → Hp → Prop
 | [], h => h = Hp.no
 | P :: l, h => ∃ g k, Hp.apart g k ∧ h = Hp.join g k ∧ P g ∧ holds l k
theorem Hp.ext {g h : Hp} (e : ∀ k, g k = h k) : g = h := funext e
theorem Hp.apart_symm {g h : Hp} (d : g.apart h) : h.apart g := fun k => (d k).symm
theorem Hp.join_comm {g h : Hp} (d : g.apart h) : g.join h = h.join g := by
 funext k; unfold Hp.join; rcases d k with e | e <;> simp [e]
theorem Hp.join_assoc (g h k : Hp) : (g.join h).join k = g.join (h.join k) := by
 funext i; unfold Hp.join; cases g i <;> simp
theorem Hp.join_left {g h : Hp} {i : Nat} {o : Obj} (e : g i = some o) : (g.join h) i = some o := by simp [Hp.join, e]
theorem Hp.join_right {g h : Hp} (d : g.apart h) {i : Nat} {o : Obj} (e : h i = some o) : (g.join h) i = some o := by
 rcases d i with f | f
 ·simp [Hp.join, f, e]
 ·rw [e] at f; cases f
theorem Hp.join_some {g h : Hp} {i : Nat} {o : Obj} (e : (g.join h) i = some o) : g i = some o ∨ h i = some o := by
 unfold Hp.join at e; cases hg : g i <;> simp_all
theorem Hp.apart_join {g h k : Hp} : g.apart (h.join k) ↔ g.apart h ∧ g.apart k := by
 constructor
 ·intro d
  constructor <;> intro i <;> rcases d i with e | e
  ·exact .inl e
  ·right; unfold Hp.join at e; cases hh : h i <;> simp_all
  ·exact .inl e
  ·right; unfold Hp.join at e; cases hh : h i <;> simp_all
 ·rintro ⟨a, b⟩ i
  rcases a i with e | e
  ·exact .inl e
  ·rcases b i with f | f
   ·exact .inl f
   ·right; simp [Hp.join, e, f]
theorem Hp.join_apart {g h k : Hp} : (g.join h).apart k ↔ g.apart k ∧ h.apart k := by
 constructor
 ·intro d; have := Hp.apart_join.1 (Hp.apart_symm d); exact ⟨Hp.apart_symm this.1, Hp.apart_symm this.2⟩
 ·rintro ⟨a, b⟩; exact Hp.apart_symm (Hp.apart_join.2 ⟨Hp.apart_symm a, Hp.apart_symm b⟩)
theorem holds_swap {P Q : As} {l : St} {h : Hp} (H : holds (P :: Q :: l) h) : holds (Q :: P :: l) h := by
 obtain ⟨g, k, d, rfl, hp, g', k', d', rfl, hq, hl⟩ := H
 have ⟨d1, d2⟩ := Hp.apart_join.1 d
 refine ⟨g', g.join k', Hp.apart_join.2 ⟨Hp.apart_symm d1, d'⟩, ?_, hq, g, k', d2, rfl, hp, hl⟩
 rw [← Hp.join_assoc, ← Hp.join_assoc, Hp.join_comm d1]
theorem holds_cons {P : As} {l m : St} {h : Hp} (e : ∀ h, holds l h → holds m h) (H : holds (P :: l) h) : holds (P :: m) h := by
 obtain ⟨g, k, d, rfl, hp, hl⟩ := H
 exact ⟨g, k, d, rfl, hp, e _ hl⟩
def pt (a : Option Addr) (R : Option Addr → As) : As := R a
class Take (L : St) (a : Option Addr) (R : outParam (Option Addr → As)) (F : outParam St) : Prop where
 out : ∀ h, holds L h → holds (pt a R :: F) h
 back : ∀ h, holds (pt a R :: F) h → holds L h
instance (priority := high) Take.here (a : Option Addr) (R : Option Addr → As) (F : St) : Take (pt a R :: F) a R F := ⟨fun _ h => h, fun _ h => h⟩
instance Take.there (P : As) (L : St) (a : Option Addr) (R : Option Addr → As) (F : St) [t : Take L a R F] : Take (P :: L) a R (P :: F) :=
 ⟨fun _ h => holds_swap (holds_cons t.out h), fun _ h => holds_cons t.back (holds_swap h)⟩
structure Sat (w0 w : World) (L : St) : Prop where
 os : w.os = w0.os
 tape : w.tape = w0.tape
 output : w.output = w0.output
 size : w0.heap.size ≤ w.heap.size
 heap : ∃ h, holds L h ∧ ∀ k o, h k = some o → w.heap[k]? = some o
def Ent (L M : St) : Prop := ∀ h, holds L h → ∃ g, Hp.le g h ∧ holds M g
theorem Ent.of {L M : St} (e : ∀ h, holds L h → holds M h) : Ent L M := fun h H => ⟨h, fun _ _ x => x, e h H⟩
abbrev Eo := @Ent.of
theorem Ent.refl (L : St) : Ent L L := .of fun _ H => H
abbrev Er := @Ent.refl
theorem Ent.trans {L M N : St} (a : Ent L M) (b : Ent M N) : Ent L N := fun h H =>
 let ⟨g, l, G⟩ := a h H; let ⟨k, m, K⟩ := b g G; ⟨k, fun i o x => l i o (m i o x), K⟩
abbrev Et := @Ent.trans
theorem Hp.apart_le {g h k : Hp} (l : Hp.le k h) (d : g.apart h) : g.apart k := by
 intro i
 rcases d i with e | e
 ·exact .inl e
 ·right
  cases hk : k i with
  | none => rfl
  | some o => rw [l i o hk] at e; cases e
theorem Hp.le_join {g h k : Hp} (l : Hp.le k h) (d : g.apart h) : Hp.le (g.join k) (g.join h) := by
 intro i o e
 rcases Hp.join_some e with e | e
 ·exact Hp.join_left e
 ·exact Hp.join_right d (l i o e)
theorem Ent.cons {P : As} {L M : St} (a : Ent L M) : Ent (P :: L) (P :: M) := by
 rintro h ⟨g, k, d, rfl, hp, hl⟩
 obtain ⟨k', l, hm⟩ := a k hl
 exact ⟨g.join k', Hp.le_join l d, g, k', Hp.apart_le l d, rfl, hp, hm⟩
abbrev Ec := @Ent.cons
theorem Ent.drop {P : As} {L : St} : Ent (P :: L) L := by
 rintro h ⟨g, k, d, rfl, _, hl⟩
 exact ⟨k, fun i o e => Hp.join_right d e, hl⟩
abbrev Ed := @Ent.drop
theorem Ent.take {L : St} {a : Option Addr} {R : Option Addr → As} {F : St} [t : Take L a R F] : Ent L (pt a R :: F) := .of t.out
abbrev Ek := @Ent.take
theorem Ent.put {L : St} {a : Option Addr} {R : Option Addr → As} {F : St} [t : Take L a R F] : Ent (pt a R :: F) L := .of t.back
theorem Ent.swap {P Q : As} {L : St} : Ent (P :: Q :: L) (Q :: P :: L) := .of fun _ H => holds_swap H
theorem Ent.head {P Q : As} {L : St} (e : ∀ g, P g → Q g) : Ent (P :: L) (Q :: L) :=
 .of fun _ ⟨g, k, d, hj, hp, hl⟩ => ⟨g, k, d, hj, e g hp, hl⟩
theorem Sat.ent {w0 w : World} {L M : St} (s : Sat w0 w L) (e : Ent L M) : Sat w0 w M := by
 obtain ⟨h, H, hw⟩ := s.heap
 obtain ⟨g, l, G⟩ := e h H
 exact ⟨s.os, s.tape, s.output, s.size, g, G, fun k o x => hw k o (l k o x)⟩
def lift (p : Prop) : As := fun h => p ∧ h = Hp.no
def exs {α : Sort _} (f : α → St) : As := fun h => ∃ x, holds (f x) h
theorem holds_append {L M : St} {h : Hp} : holds (L ++ M) h ↔ ∃ g k, Hp.apart g k ∧ h = Hp.join g k ∧ holds L g ∧ holds M k := by
 induction L generalizing h with
 | nil =>
   constructor
   ·intro H
    exact ⟨Hp.no, h, fun _ => .inl rfl, by funext k; simp [Hp.join, Hp.no], rfl, H⟩
   ·rintro ⟨g, k, d, rfl, rfl, H⟩
    have e : Hp.join Hp.no k = k := by funext i; simp [Hp.join, Hp.no]
    rw [e]; exact H
 | cons P L ih =>
   constructor
   ·rintro ⟨g, k, d, rfl, hp, hl⟩
    obtain ⟨g', k', d', rfl, h1, h2⟩ := ih.1 hl
    have ⟨d1, d2⟩ := Hp.apart_join.1 d
    exact ⟨g.join g', k', Hp.join_apart.2 ⟨d2, d'⟩, (Hp.join_assoc _ _ _).symm, ⟨g, g', d1, rfl, hp, h1⟩, h2⟩
   ·rintro ⟨g, k, d, rfl, ⟨g1, g2, d1, rfl, hp, hl⟩, hm⟩
    have ⟨d2, d3⟩ := Hp.join_apart.1 d
    exact ⟨g1, g2.join k, Hp.apart_join.2 ⟨d1, d2⟩, Hp.join_assoc _ _ _, hp, ih.2 ⟨g2, k, d3, rfl, hl, hm⟩⟩
theorem holds_ex {α : Sort _} {f : α → St} {L : St} {h : Hp} : holds (exs f :: L) h ↔ ∃ x, holds (f x ++ L) h := by
 constructor
 ·rintro ⟨g, k, d, rfl, ⟨x, hx⟩, hl⟩
  exact ⟨x, holds_append.2 ⟨g, k, d, rfl, hx, hl⟩⟩
 ·rintro ⟨x, H⟩
  obtain ⟨g, k, d, rfl, hx, hl⟩ := holds_append.1 H
  exact ⟨g, k, d, rfl, ⟨x, hx⟩, hl⟩
theorem holds_lift {p : Prop} {L : St} {h : Hp} : holds (lift p :: L) h ↔ p ∧ holds L h := by
 constructor
 ·rintro ⟨g, k, d, rfl, ⟨hp, rfl⟩, hl⟩
  have e : Hp.join Hp.no k = k := by funext i; simp [Hp.join, Hp.no]
  rw [e]; exact ⟨hp, hl⟩
 ·rintro ⟨hp, hl⟩
  exact ⟨Hp.no, h, fun _ => .inl rfl, by funext k; simp [Hp.join, Hp.no], ⟨hp, rfl⟩, hl⟩
def Blk (T : TypeId) (cs : List Value) : Option Addr → As := fun a h => ∃ g, a = some ⟨g, 0, none⟩ ∧ h = Hp.one g (.cells cs.toArray T (0, 0))
def Row (E sz n cap : Nat) (xs : List Value) : Option Addr → As := fun a h =>
 xs.length = n * sz ∧ ((a = none ∧ n = 0 ∧ cap = 0 ∧ h = Hp.no) ∨
  ∃ g cur, a = some ⟨g, 0, none⟩ ∧ h = Hp.one g (.cells cur E (0, 0)) ∧ n ≤ cap ∧ cap ≤ maxLen ∧ cur.size = cap * sz ∧ cur.toList.take (n * sz) = xs)
def Old (w0 : World) : As := fun h => ∀ k, h k = if k < w0.heap.size then w0.heap[k]? else none
theorem Sat.head {w0 w : World} {P : As} {L : St} (s : Sat w0 w (P :: L)) : ∃ g k, Hp.apart g k ∧ P g ∧ holds L k ∧ (∀ i o, g i = some o → w.heap[i]? = some o) ∧ (∀ i o, k i = some o → w.heap[i]? = some o) := by
 obtain ⟨h, ⟨g, k, d, rfl, hp, hl⟩, hw⟩ := s.heap
 exact ⟨g, k, d, hp, hl, fun i o e => hw i o (Hp.join_left e), fun i o e => hw i o (Hp.join_right d e)⟩
theorem Hp.one_same (b : Nat) (o : Obj) : Hp.one b o b = some o := by simp [Hp.one]
theorem Hp.one_some {b i : Nat} {o x : Obj} (e : Hp.one b o i = some x) : i = b ∧ o = x := by
 unfold Hp.one at e; split at e <;> simp_all
theorem Hp.one_apart {b : Nat} {o : Obj} {k : Hp} : (Hp.one b o).apart k ↔ k b = none := by
 constructor
 ·intro d; rcases d b with e | e
  ·simp [Hp.one] at e
  ·exact e
 ·intro e i
  by_cases h : i = b
  ·subst h; exact .inr e
  ·left; simp [Hp.one, h]
theorem Sat.lt {w : World} {k : Hp} (hw : ∀ i o, k i = some o → w.heap[i]? = some o) : k w.heap.size = none := by
 cases h : k w.heap.size with
 | none => rfl
 | some o => have := hw _ _ h; simp at this
theorem Sat.blk {w0 w : World} {L : St} {g : Nat} {T : TypeId} {cs : List Value} {F : St} [t : Take L (some ⟨g, 0, none⟩) (Blk T cs) F] (s : Sat w0 w L) :
  w.heap[g]? = some (.cells cs.toArray T (0, 0)) := by
 obtain ⟨g', k, d, ⟨g1, e1, rfl⟩, hl, h1, h2⟩ := (s.ent (Eo t.out)).head
 cases e1
 exact h1 _ _ (Hp.one_same _ _)
theorem Sat.alloc {w0 w : World} {L : St} (s : Sat w0 w L) (T : TypeId) (cs : List Value) :
  Sat w0 (w.alloc (.cells cs.toArray T)) (pt (some ⟨w.heap.size, 0, none⟩) (Blk T cs) :: L) := by
 obtain ⟨h, H, hw⟩ := s.heap
 have hn := Sat.lt hw
 refine ⟨s.os, s.tape, s.output, by have := s.size; simp; omega, (Hp.one w.heap.size (.cells cs.toArray T (0, 0))).join h,
  ⟨_, h, Hp.one_apart.2 hn, rfl, ⟨_, rfl, rfl⟩, H⟩, fun i o e => ?_⟩
 rcases Hp.join_some e with e | e
 ·obtain ⟨rfl, rfl⟩ := Hp.one_some e
  exact heap_alloc_new _ _
 ·have := hw _ _ e
  rw [heap_alloc_old]
  ·exact this
  ·exact (Array.getElem?_eq_some_iff.1 this).1
theorem Sat.drew {w0 w : World} {L : St} (s : Sat w0 w L) : Sat w0 w.drew L := ⟨s.os, s.tape, s.output, s.size, s.heap⟩
theorem Sat.turn {w0 w w' : World} {L : St} {g : Nat} {T : TypeId} {cs : List Value} {F : St} [t : Take L (some ⟨g, 0, none⟩) (Blk T cs) F] (s : Sat w0 w L) (ds : List Value)
  (ho : w'.os = w.os) (ht : w'.tape = w.tape) (hu : w'.output = w.output) (hz : w'.heap.size = w.heap.size) (hg : w'.heap[g]? = some (.cells ds.toArray T (0, 0))) (hk : ∀ k, k ≠ g → w'.heap[k]? = w.heap[k]?) :
  Sat w0 w' (pt (some ⟨g, 0, none⟩) (Blk T ds) :: F) := by
 obtain ⟨g', k, d, ⟨g1, e1, rfl⟩, hl, h1, h2⟩ := (s.ent (Eo t.out)).head
 cases e1
 have dk := Hp.one_apart.1 d
 refine ⟨ho.trans s.os, ht.trans s.tape, hu.trans s.output, by rw [hz]; exact s.size, (Hp.one g (.cells ds.toArray T (0, 0))).join k, ⟨_, k, Hp.one_apart.2 dk, rfl, ⟨_, rfl, rfl⟩, hl⟩, fun i o e => ?_⟩
 rcases Hp.join_some e with e1 | e1
 ·obtain ⟨rfl, rfl⟩ := Hp.one_some e1
  exact hg
 ·have : i ≠ g := fun h => by subst h; rw [dk] at e1; cases e1
  rw [hk i this]
  exact h2 _ _ e1
theorem nb_ {a b : Nat} (h : Nat.ble a b = true := by rfl) : a ≤ b := Nat.le_of_ble_eq_true h
theorem kr_ {α : Sort _} {a b : α} (h : a = b := by kernel_rfl) : a = b := h
inductive X
 | t (i : Nat)
 | c (v : Value)
inductive S
 | mv (x : X)
 | pk (c a b : X)
 | ib (o : BinOp) (x y : X)
 | bb (neg : Bool) (x y : X)
 | en (t : Nat) (neg : Bool) (x y : X)
 | sb (o : BinOp) (x y : X)
 | es (n : Nat) (neg : Bool) (x y : X)
 | em (n : Nat) (neg : Bool) (x y : X)
 | cs (x : X)
 | nt (x : X)
 | ng (x : X)
 | cv (k : IntKind) (x : X)
 | nc (x : X)
 | fa (x : X) (off : Nat)
 | fv (x : X) (off n : Nat) (agg : Bool)
 | ia (x i : X) (sz : Nat)
 | iaa (x i : X) (len sz : Nat)
 | iv (x i : X) (len sz : Nat) (agg : Bool)
 | is (x i : X)
 | ld (x : X) (n : Nat) (agg : Bool)
 | st (x v : X) (n : Nat)
 | al (E : TypeId) (z : List Value)
 | bx (E : TypeId) (x : X)
 | bd (z : List Value) (parts : List (Nat × Nat × X))
 | bs (E : TypeId) (len : Nat) (z : List Value) (parts : List (Nat × Nat × X))
 | mk (E sz by_ : Nat) (z : List Value) (l c : X)
 | sl (sz : Nat) (x : X) (lo hi mx : Option X)
 | sa (len sz : Nat) (x : X) (lo hi mx : Option X)
 | ss (x : X) (lo hi : Option X)
 | ex (x : X) (i : Nat)
 | mf (fn : Fn) (a b : List X)
 | len (x : X)
 | cap (x : X)
 | lens (x : X)
 | mm (big : Bool) (x y : X)
 | ap (T E sz by_ : Nat) (z : List Value) (x y : X)
 | ca (f : FuncId) (xs : List X)
 | cl (f : X) (xs : List X)
structure G where
 d : Option Nat
 g : Option (Nat × Bool)
 s : S
def bit (m n : Nat) : Bool := Nat.beq (Nat.land (Nat.shiftRight m n) 1) 1
structure It where
 i : Nat
 ds : Nat
 rs : List Nat
 g : G
inductive C
 | sk
 | rg (l : List G)
 | rd (l : List It)
 | sq (a b : C)
 | cd (x : X) (a b : C)
 | bl (id : Nat) (c : C)
 | lp (c : C)
 | ex (id : Nat)
 | rt
abbrev En := List (Nat × Value)
def En.get : En → Nat → Option Value
 | [], _ => none
 | (i, v) :: e, j => bif Nat.beq i j then some v else En.get e j
def En.put (e : En) (d : Option Nat) (v : Value) : En := match d with | some i => (i, v) :: e | none => e
def X.get (e : En) : X → Option Value
 | .t i => e.get i
 | .c v => some v
def gets (e : En) : List X → Option (List Value)
 | [] => some []
 | x :: l => match x.get e with
   | some v => match gets e l with
     | some vs => some (v :: vs)
     | none => none
   | none => none
def bitsOf (o : BinOp) (k : IntKind) (x y : Int) : Int :=
 match o with
 | .and => k.wrap ((BitVec.ofInt k.bits x &&& BitVec.ofInt k.bits y).toNat)
 | .or => k.wrap ((BitVec.ofInt k.bits x ||| BitVec.ofInt k.bits y).toNat)
 | .xor => k.wrap ((BitVec.ofInt k.bits x ^^^ BitVec.ofInt k.bits y).toNat)
 | _ => k.wrap ((BitVec.ofInt k.bits x &&& ~~~ (BitVec.ofInt k.bits y)).toNat)
def iop (o : BinOp) (k : IntKind) (x y : Int) : Option (Prop × Value) :=
 match o with
 | .add => some (True, .int k (k.wrap (x + y)))
 | .sub => some (True, .int k (k.wrap (x - y)))
 | .mul => some (True, .int k (k.wrap (x * y)))
 | .quo => some (y ≠ 0, .int k (k.wrap (x.tdiv y)))
 | .rem => some (y ≠ 0, .int k (x.tmod y))
 | .eql => some (True, .bool (decide (x = y)))
 | .neq => some (True, .bool (!decide (x = y)))
 | .lss => some (True, .bool (decide (x < y)))
 | .leq => some (True, .bool (decide (x ≤ y)))
 | .gtr => some (True, .bool (decide (y < x)))
 | .geq => some (True, .bool (decide (y ≤ x)))
 | .and => some (True, .int k (bitsOf .and k x y))
 | .or => some (True, .int k (bitsOf .or k x y))
 | .xor => some (True, .int k (bitsOf .xor k x y))
 | .andNot => some (True, .int k (bitsOf .andNot k x y))
 | _ => none
def shop (o : BinOp) (k : IntKind) (x y : Int) : Option (Prop × Value) :=
 match o with
 | .shl => some (0 ≤ y, .int k (k.wrap (x * 2 ^ (min y.toNat k.bits))))
 | .shr => some (0 ≤ y, .int k (x.fdiv (2 ^ (min y.toNat k.bits))))
 | _ => none
def skp (m l sz : Nat) : Nat := if m = l then 0 else l * sz
def lay (cs : List Value) (off : Nat) (vs : List Value) : List Value := cs.take off ++ vs ++ cs.drop (off + vs.length)
def cellsOf (v : Value) : Option (List Value) :=
 match v with
 | .agg cs => some cs.toList
 | .tuple _ => none
 | .bool b => some [.bool b]
 | .int k n => some [.int k n]
 | .float k n => some [.float k n]
 | .complex k a b => some [.complex k a b]
 | .string s => some [.string s]
 | .pointer a => some [.pointer a]
 | .slice a n c => some [.slice a n c]
 | .map r => some [.map r]
 | .chan r => some [.chan r]
 | .func f a b => some [.func f a b]
 | .nilFunc => some [.nilFunc]
 | .iface t v => some [.iface t v]
 | .nilIface => some [.nilIface]
def fills (e : En) (cs : List Value) : List (Nat × Nat × X) → Option (List Value)
 | [] => some cs
 | (off, sz, x) :: l => match x.get e with
   | some v => match cellsOf v with
     | some vs => bif (Nat.beq vs.length sz && Nat.ble (off + sz) cs.length) then fills e (lay cs off vs) l else none
     | none => none
   | none => none
def intX (e : En) (x : X) : Option Int := match x.get e with | some (.int _ n) => some n | _ => none
def eqNil (t : Nat) (x y : Value) : Option Bool :=
 match t, x, y with
 | 0, .pointer a, .pointer none => some a.isNone
 | 0, .pointer none, .pointer a => some a.isNone
 | 1, .slice a _ _, .slice none _ _ => some a.isNone
 | 1, .slice none _ _, .slice a _ _ => some a.isNone
 | 2, .nilFunc, .nilFunc => some true
 | 2, .func _ _ _, .nilFunc => some false
 | 2, .nilFunc, .func _ _ _ => some false
 | _, _, _ => none
def intsOf : List Value → Option (List Int)
 | [] => some []
 | .int .i64 a :: l => match intsOf l with | some as => some (a :: as) | none => none
 | _ => none
def pairsOf : List Value → Option (List (IntKind × Int))
 | [] => some []
 | .int k a :: l => match pairsOf l with | some as => some ((k, a) :: as) | none => none
 | _ => none
abbrev str (l : List UInt8) : Value := .string ⟨l.toArray⟩
def pv (e : En) : S → Option (Prop × Value)
 | .mv x => match x.get e with | some v => some (True, v) | none => none
 | .pk c a b => match c.get e with
   | some (.bool true) => match a.get e with | some v => some (True, v) | none => none
   | some (.bool false) => match b.get e with | some v => some (True, v) | none => none
   | _ => none
 | .ib o x y => match x.get e, y.get e with
   | some (.int k a), some (.int k' b) => match o with
     | .shl => shop .shl k a b
     | .shr => shop .shr k a b
     | o => bif decide (k = k') then iop o k a b else none
   | _, _ => none
 | .bb neg x y => match x.get e, y.get e with
   | some (.bool a), some (.bool b) => some (True, .bool (if neg then !(a == b) else a == b))
   | _, _ => none
 | .en t neg x y => match x.get e, y.get e with
   | some a, some b => match eqNil t a b with
     | some r => some (True, .bool (bif neg then !r else r))
     | none => none
   | _, _ => none
 | .sb neg x y => match neg, x.get e, y.get e with
   | .eql, some (.string a), some (.string b) => some (True, .bool (decide (a.data.toList = b.data.toList)))
   | .neq, some (.string a), some (.string b) => some (True, .bool (!decide (a.data.toList = b.data.toList)))
   | .add, some (.string a), some (.string b) => some (a.data.toList.length + b.data.toList.length ≤ 9223372036854775807, str (a.data.toList ++ b.data.toList))
   | _, _, _ => none
 | .es n neg x y => match x.get e, y.get e with
   | some (.agg a), some (.agg b) => match intsOf a.toList, intsOf b.toList with
     | some as, some bs => bif (Nat.beq as.length n && Nat.beq bs.length n) then some (True, .bool (bif neg then !decide (as = bs) else decide (as = bs))) else none
     | _, _ => none
   | _, _ => none
 | .em n neg x y => match x.get e, y.get e with
   | some (.agg a), some (.agg b) => match pairsOf a.toList, pairsOf b.toList with
     | some as, some bs => bif (Nat.beq as.length n && Nat.beq bs.length n && decide (as.map (·.1) = bs.map (·.1))) then some (True, .bool (bif neg then !decide (as = bs) else decide (as = bs))) else none
     | _, _ => none
   | _, _ => none
 | .nt x => match x.get e with | some (.bool b) => some (True, .bool (!b)) | _ => none
 | .ng x => match x.get e with | some (.int k n) => some (True, .int k (k.wrap (0 - n))) | _ => none
 | .cv k x => match x.get e with | some (.int _ n) => some (True, .int k (k.wrap n)) | _ => none
 | .nc x => match x.get e with
   | some (.pointer (some a)) => some (True, .pointer (some a))
   | some (.func (.func f) a b) => some (True, .func (.func f) a b)
   | _ => none
 | .fa x off => match x.get e with | some (.pointer (some ⟨b, o, none⟩)) => some (True, .pointer (some ⟨b, o + off, none⟩)) | _ => none
 | .fv x off n agg => match x.get e with
   | some (.agg cs) => bif agg then some (True, .agg ((cs.toList.drop off).take n).toArray) else match cs.toList[off]? with | some v => some (True, v) | none => none
   | _ => none
 | .ia x i sz => match x.get e, intX e i with
   | some (.slice (some ⟨b, o, none⟩) len _), some n => some (0 ≤ n ∧ n < len, .pointer (some ⟨b, o + n.toNat * sz, none⟩))
   | _, _ => none
 | .iaa x i len sz => match x.get e, intX e i with
   | some (.pointer (some ⟨b, o, none⟩)), some n => some (0 ≤ n ∧ n < len, .pointer (some ⟨b, o + n.toNat * sz, none⟩))
   | _, _ => none
 | .iv x i len sz agg => match x.get e, intX e i with
   | some (.agg cs), some n => bif agg then some (0 ≤ n ∧ n < len, .agg ((cs.toList.drop (n.toNat * sz)).take sz).toArray) else
     match cs.toList[n.toNat * sz]? with | some v => some (0 ≤ n ∧ n < len, v) | none => none
   | _, _ => none
 | .is x i => match x.get e, intX e i with
   | some (.string s), some n => some (0 ≤ n ∧ n < (s.data.toList.length : Nat), .int .u8 ((s.data.toList.getD n.toNat 0).toNat : Nat))
   | _, _ => none
 | .ss x lo hi => match x.get e with
   | some (.string s) => match lo, hi with
     | none, none => some (True, .string s)
     | none, some h => match intX e h with
       | some h => some (0 ≤ h ∧ h ≤ (s.data.toList.length : Nat), str (s.data.toList.take h.toNat))
       | none => none
     | some l, none => match intX e l with
       | some l => some (0 ≤ l ∧ l ≤ (s.data.toList.length : Nat), str (s.data.toList.drop l.toNat))
       | none => none
     | some l, some h => match intX e l, intX e h with
       | some l, some h => some (0 ≤ l ∧ l ≤ h ∧ h ≤ (s.data.toList.length : Nat), str ((s.data.toList.take h.toNat).drop l.toNat))
       | _, _ => none
   | _ => none
 | .sl sz x lo hi mx => match x.get e, mx with
   | some (.slice a len cap), none => match lo, hi with
     | none, none => some (True, .slice a len cap)
     | none, some h => match intX e h with
       | some h => some (0 ≤ h ∧ h ≤ cap, .slice a h.toNat cap)
       | none => none
     | some l, none => match intX e l, a with
       | some l, some ⟨b, o, none⟩ => some (0 ≤ l ∧ l ≤ len, .slice (some ⟨b, o + skp cap l.toNat sz, none⟩) (len - l.toNat) (cap - l.toNat))
       | some l, none => some (l = 0, .slice none len cap)
       | _, _ => none
     | some l, some h => match intX e l, intX e h, a with
       | some l, some h, some ⟨b, o, none⟩ => some (0 ≤ l ∧ l ≤ h ∧ h ≤ cap, .slice (some ⟨b, o + skp cap l.toNat sz, none⟩) (h.toNat - l.toNat) (cap - l.toNat))
       | some l, some h, none => some (l = 0 ∧ 0 ≤ h ∧ h ≤ cap, .slice none h.toNat cap)
       | _, _, _ => none
   | _, _ => none
 | .sa len _ x lo hi mx => match x.get e, lo, hi, mx with
   | some (.pointer (some ⟨b, o, none⟩)), none, none, none => some (True, .slice (some ⟨b, o, none⟩) len len)
   | some (.pointer (some ⟨b, o, none⟩)), none, some h, none => match intX e h with
     | some h => some (0 ≤ h ∧ h ≤ len, .slice (some ⟨b, o, none⟩) h.toNat len)
     | none => none
   | _, _, _, _ => none
 | .ex x i => match x.get e with
   | some (.tuple vs) => match vs.toList[i]? with | some v => some (True, v) | none => none
   | _ => none
 | .mf fn a b => match gets e a, gets e b with
   | some a, some b => some (True, .func fn a.toArray b.toArray)
   | _, _ => none
 | .bd z parts => match fills e z parts with | some cs => some (True, .agg cs.toArray) | none => none
 | .len x => match x.get e with | some (.slice _ n _) => some (True, .int .i64 n) | _ => none
 | .lens x => match x.get e with | some (.string s) => some (True, .int .i64 s.size) | _ => none
 | .cap x => match x.get e with | some (.slice _ _ n) => some (True, .int .i64 n) | _ => none
 | .mm big x y => match x.get e, y.get e with
   | some (.int k a), some (.int _ b) => some (True, .int k (bif big then (if a < b then b else a) else (if b < a then b else a)))
   | _, _ => none
 | _ => none
def plain : S → Bool
 | .mv _ => true
 | .ib o _ _ => match o with | .quo => false | .rem => false | .shl => false | .shr => false | _ => true
 | .bb _ _ _ => true
 | .en _ _ _ _ => true
 | .sb o _ _ => match o with | .add => false | _ => true
 | .es _ _ _ _ => true
 | .em _ _ _ _ => true
 | .nt _ => true
 | .ng _ => true
 | .cv _ _ => true
 | .nc _ => true
 | .fa _ _ => true
 | .fv _ _ _ _ => true
 | .sa _ _ _ _ hi _ => match hi with | none => true | some _ => false
 | .ex _ _ => true
 | .mf _ _ _ => true
 | .bd _ _ => true
 | .len _ => true
 | .lens _ => true
 | .cap _ => true
 | .mm _ _ _ => true
 | _ => false
def pvs : List G → En → Option (List G × En)
 | ⟨d, none, s⟩ :: l, e => bif plain s then match pv e s with
   | some (_, v) => match pvs l (e.put d v) with
     | some r => some r
     | none => some (l, e.put d v)
   | none => none
   else none
 | _, _ => none
def cX : Operand → X
 | .tmp t => .t t
 | .const v => .c v
 | .global g => .c (.pointer (some ⟨g, 0, none⟩))
 | .func f => .c (.func (.func f) #[] #[])
def isAggT (P : Program) (t : TypeId) : Option Bool := match P.underlying t with
 | some (.struct _) => some true
 | some (.array _ _) => some true
 | some _ => some false
 | none => none
def szT (P : Program) (t : TypeId) : Option Nat := (P.info? t).map (·.size)
def zeroT (P : Program) (t : TypeId) : Option (List Value) := match P.info? t with
 | some i => match i.zero with | some z => some z.cells.toList | none => none
 | none => none
def placesS (P : Program) : List Field → Option (List (Nat × Nat))
 | [] => some []
 | f :: l => match szT P f.type with
   | some n => match placesS P l with
     | some r => some ((f.offset, n) :: r)
     | none => none
   | none => none
def partsS (pl : Nat → Option (Nat × Nat)) (ps : List (Nat × Operand)) : Option (List (Nat × Nat × X)) :=
 ps.mapM fun p => match pl p.1 with | some q => some (q.1, q.2, cX p.2) | none => none
def callable (P : Program) (f : FuncId) : Bool := match P.funcs[f]? with
 | some fn => fn.body.isSome && !(fn.name == "runtime.NumGoroutine")
 | none => false
def cCall (P : Program) (c : Call) : Option S :=
 match c.callee with
 | .value (.func f) => if callable P f then some (.ca f (c.args.toList.map cX)) else none
 | .value (.tmp t) => some (.cl (.t t) (c.args.toList.map cX))
 | .builtin .len => match c.args.toList, c.argTypes.toList with
   | [x], [t] => match P.underlying t with
     | some (.slice _) => some (.len (cX x))
     | some .string => some (.lens (cX x))
     | some (.array n _) => some (.mv (.c (.int .i64 n)))
     | _ => none
   | _, _ => none
 | .builtin .cap => match c.args.toList, c.argTypes.toList with
   | [x], [t] => match P.underlying t with
     | some (.slice _) => some (.cap (cX x))
     | _ => none
   | _, _ => none
 | .builtin .max => match c.args.toList with | [x, y] => some (.mm true (cX x) (cX y)) | _ => none
 | .builtin .min => match c.args.toList with | [x, y] => some (.mm false (cX x) (cX y)) | _ => none
 | .builtin .append => match c.args.toList, c.argTypes.toList with
   | [x, y], [t, u] => if t = u then match P.underlying t with
     | some (.slice E) => match P.info? E with
       | some i => match i.zero with
         | some z => if z.cells.size = i.size ∧ 0 < i.size then some (.ap t E i.size i.bytes z.cells.toList (cX x) (cX y)) else none
         | none => none
       | none => none
     | _ => none
     else none
   | _, _ => none
 | _ => none
def intsS (P : Program) : Nat → List Field → Bool
 | _, [] => true
 | i, f :: l => !decide (f.name = "_") && (Nat.beq f.offset i && ((match P.underlying f.type with | some (.int _) => true | _ => false) && ((match szT P f.type with | some 1 => true | _ => false) && intsS P (i + 1) l)))
def structI (P : Program) (t : TypeId) (fs : Array Field) : Bool := intsS P 0 fs.toList && (!P.stoodInHeld t && !P.eqGuardType P.depth t)
def all64 (P : Program) (fs : Array Field) : Bool := fs.toList.all fun f => match P.underlying f.type with | some (.int .i64) => true | _ => false
def cS (P : Program) (o : Oper) : Option S :=
 match o.op with
 | .move x => some (.mv (cX x))
 | .assign x => some (.mv (cX x))
 | .pick c a b => some (.pk (cX c) (cX a) (cX b))
 | .alloc E => match zeroT P E with | some z => some (.al E z) | none => none
 | .box E x => some (.bx E (cX x))
 | .build t ps => match P.underlying t with
   | some (.struct fs) => match zeroT P t, placesS P fs.toList with
     | some z, some pl => match partsS (fun i => pl[i]?) ps.toList with
       | some l => some (.bd z l)
       | none => none
     | _, _ => none
   | some (.array _ E) => match zeroT P t, szT P E with
     | some z, some n => match partsS (fun i => some (i * n, n)) ps.toList with
       | some l => some (.bd z l)
       | none => none
     | _, _ => none
   | _ => none
 | .buildSlice t len ps => match P.underlying t with
   | some (.slice E) => match zeroT P E, szT P E with
     | some z, some n => if 0 < n ∧ len * n ≤ 65536 ∧ z.length = n then
       match partsS (fun i => some (i * n, n)) ps.toList with
       | some l => some (.bs E len ((List.range (len * n)).map fun i => z[i % z.length]!) l)
       | none => none
       else none
     | _, _ => none
   | _ => none
 | .load t a => match isAggT P t, szT P t with
   | some g, some n => some (.ld (cX a) n g)
   | _, _ => none
 | .store t a v => match szT P t with | some n => some (.st (cX a) (cX v) n) | none => none
 | .nilCheck x => some (.nc (cX x))
 | .binOp op t x y _ => match P.underlying t with
   | some (.int _) => some (.ib op (cX x) (cX y))
   | some .bool => match op with | .eql => some (.bb false (cX x) (cX y)) | .neq => some (.bb true (cX x) (cX y)) | _ => none
   | some (.pointer _) => match op with | .eql => some (.en 0 false (cX x) (cX y)) | .neq => some (.en 0 true (cX x) (cX y)) | _ => none
   | some (.slice _) => match op with | .eql => some (.en 1 false (cX x) (cX y)) | .neq => some (.en 1 true (cX x) (cX y)) | _ => none
   | some (.func ..) => match op with | .eql => some (.en 2 false (cX x) (cX y)) | .neq => some (.en 2 true (cX x) (cX y)) | _ => none
   | some .string => match op with | .eql => some (.sb .eql (cX x) (cX y)) | .neq => some (.sb .neq (cX x) (cX y)) | .add => some (.sb .add (cX x) (cX y)) | _ => none
   | some (.struct fs) => match op, structI P t fs, all64 P fs with | .eql, true, true => some (.es fs.size false (cX x) (cX y)) | .neq, true, true => some (.es fs.size true (cX x) (cX y)) | .eql, true, false => some (.em fs.size false (cX x) (cX y)) | .neq, true, false => some (.em fs.size true (cX x) (cX y)) | _, _, _ => none
   | _ => none
 | .unOp .not _ x => some (.nt (cX x))
 | .unOp .neg t x => match P.underlying t with | some (.int _) => some (.ng (cX x)) | _ => none
 | .convert src dst x => match P.underlying src, P.underlying dst with
   | some _, some (.int k) => some (.cv k (cX x))
   | some (.slice E), some .string => match P.underlying E with | some (.int .u8) => some (.cs (cX x)) | _ => none
   | _, _ => none
 | .makeFunc fn a b => some (.mf fn (a.toList.map cX) (b.toList.map cX))
 | .makeSlice t l c => match P.underlying t with
   | some (.slice E) => match P.info? E with
     | some i => match i.zero with
       | some z => if z.cells.size = i.size ∧ 0 < i.size then some (.mk E i.size i.bytes z.cells.toList (cX l) (cX c)) else none
       | none => none
     | none => none
   | _ => none
 | .slice t x lo hi mx => match P.underlying t with
   | some (.slice E) => match szT P E with | some n => some (.sl n (cX x) (lo.map cX) (hi.map cX) (mx.map cX)) | none => none
   | some (.array n E) => match szT P E with | some s => some (.sa n s (cX x) (lo.map cX) (hi.map cX) (mx.map cX)) | none => none
   | some .string => match mx with | none => some (.ss (cX x) (lo.map cX) (hi.map cX)) | some _ => none
   | _ => none
 | .fieldAddr t x i => match P.underlying t with
   | some (.struct fs) => match fs[i]? with
     | some f => match szT P f.type with
       | some n => if 0 < n then some (.fa (cX x) f.offset) else none
       | none => none
     | none => none
   | _ => none
 | .field t x i => match P.underlying t with
   | some (.struct fs) => match fs[i]? with
     | some f => match szT P f.type, isAggT P f.type with
       | some n, some g => some (.fv (cX x) f.offset n g)
       | _, _ => none
     | none => none
   | _ => none
 | .indexAddr t x i => match P.underlying t with
   | some (.slice E) => match szT P E with | some n => some (.ia (cX x) (cX i) n) | none => none
   | some (.array len E) => match szT P E with | some n => some (.iaa (cX x) (cX i) len n) | none => none
   | _ => none
 | .index t x i => match P.underlying t with
   | some (.array len E) => match szT P E, isAggT P E with | some n, some g => some (.iv (cX x) (cX i) len n g) | _, _ => none
   | some .string => some (.is (cX x) (cX i))
   | _ => none
 | .extract x i => some (.ex (cX x) i)
 | .call c => cCall P c
 | _ => none
def dstOk (N : Nat) (d : Option Nat) : Bool := match d with | some d => Nat.blt d N | none => true
def cG (P : Program) (N : Nat) (ops : Array Oper) (o : Oper) : Option G :=
 match cS P o with
 | none => none
 | some s => if dstOk N o.dst = true then
   match o.guard with
   | none => some ⟨o.dst, none, s⟩
   | some (j, want) => match ops[j]? with
     | some q => match q.dst with
       | some t => some ⟨o.dst, some (t, want), s⟩
       | none => none
     | none => none
   else none
def cL (P : Program) (N : Nat) (ops : Array Oper) : List Oper → Option (List G)
 | [] => some []
 | o :: os => match cG P N ops o with
   | some g => match cL P N ops os with
     | some l => some (g :: l)
     | none => none
   | none => none
def tmpsOf (xs : List Operand) : List Nat := xs.filterMap fun | .tmp t => some t | _ => none
def direct (o : Oper) : List Nat := (o.after.toList.filter (Region.binds .any)).map (·.on)
def clos (acc : List Nat) (l : List Nat) : Nat := l.foldr (fun d m => Nat.lor (Nat.lor m (acc.getD d 0)) (Nat.shiftLeft 1 d)) 0
def cIt (P : Program) (N : Nat) (ops : Array Oper) (acc : List Nat) (i : Nat) (o : Oper) : Option It :=
 match cG P N ops o with
 | some g => some ⟨i, clos acc (direct o), tmpsOf o.op.operands.toList ++ (match g.g with | some p => [p.1] | none => []), g⟩
 | none => none
def cIts (P : Program) (N : Nat) (ops : Array Oper) : List Nat → Nat → List Oper → Option (List It)
 | _, _, [] => some []
 | acc, i, o :: os => match cIt P N ops acc i o with
   | some x => match cIts P N ops (acc ++ [x.ds]) (i + 1) os with
     | some l => some (x :: l)
     | none => none
   | none => none
def cRg (P : Program) (N : Nat) (ops : Array Oper) (draw : Bool) : Option C :=
 match draw with
 | false => match cL P N ops ops.toList with
   | some l => some (.rg l)
   | none => none
 | true => match (P.follows .mixedOrders || !Region.departs ops), ops.toList.zipIdx.all (fun p => (direct p.1).all fun d => Nat.blt d p.2), cIts P N ops [] 0 ops.toList with
   | true, true, some l => some (.rd l)
   | _, _, _ => none
def cC (P : Program) (N : Nat) : Code → Option C
 | .skip => some .sk
 | .region _ ops draw => cRg P N ops draw
 | .seq a b => match cC P N a, cC P N b with
   | some a, some b => some (.sq a b)
   | _, _ => none
 | .cond x a b => match cC P N a, cC P N b with
   | some a, some b => some (.cd (cX x) a b)
   | _, _ => none
 | .block id c => match cC P N c with | some c => some (.bl id c) | none => none
 | .loop c => match cC P N c with | some c => some (.lp c) | none => none
 | .exit id => some (.ex id)
 | .ret => some .rt
 | _ => none
inductive RV
 | t (i : Nat)
 | c (i n : Nat) (agg : Bool)
def cR (P : Program) : ResultVar → Option RV
 | .tmp t => some (.t t)
 | .cell a t => match szT P t, isAggT P t with | some n, some g => some (.c a n g) | _, _ => none
structure Fu where
 n : Nat
 rs : List RV
 c : C
def cRs (P : Program) : List ResultVar → Option (List RV)
 | [] => some []
 | r :: l => match cR P r with
   | some r => match cRs P l with
     | some l => some (r :: l)
     | none => none
   | none => none
def cF (P : Program) (f : Func) : Option Fu :=
 match f.body with
 | some b => match cC P f.ntmps b, cRs P f.results.toList with
   | some c, some rs => some ⟨f.ntmps, rs, c⟩
   | _, _ => none
 | none => none
abbrev kG (d : Nat) (s : S) : G := ⟨some d, none, s⟩
abbrev kI (n : Int) : X := .c (.int .i64 n)
abbrev kP : X := .c (.pointer none)
abbrev kT : X := .c (.bool true)
abbrev kU : X := .c (.bool false)
abbrev jM (i ds d x : Nat) : It := ⟨i, ds, [x], ⟨some d, none, .mv (.t x)⟩⟩
abbrev jN (i ds d x : Nat) : It := ⟨i, ds, [x], ⟨some d, none, .nc (.t x)⟩⟩
abbrev jF (i ds d x k : Nat) : It := ⟨i, ds, [x], ⟨some d, none, .fa (.t x) k⟩⟩
abbrev jL (i ds d x : Nat) : It := ⟨i, ds, [x], ⟨some d, none, .ld (.t x) 1 false⟩⟩
abbrev jG (i ds : Nat) (rs : List Nat) (d : Nat) (s : S) : It := ⟨i, ds, rs, ⟨some d, none, s⟩⟩
abbrev kS (s : S) : G := ⟨none, none, s⟩
abbrev kH (d g : Nat) (b : Bool) (s : S) : G := ⟨some d, some (g, b), s⟩
abbrev kM (d x : Nat) : G := ⟨some d, none, .mv (.t x)⟩
abbrev kN (d x : Nat) : G := ⟨some d, none, .nc (.t x)⟩
abbrev kF (d x k : Nat) : G := ⟨some d, none, .fa (.t x) k⟩
abbrev kL (d x : Nat) : G := ⟨some d, none, .ld (.t x) 1 false⟩
section
structure Ok (N : Nat) (a : Act) (e : En) : Prop where
 size : a.tmps.size = N
 defers : a.defers = []
 get : ∀ i v, e.get i = some v → a.tmps[i]? = some v
variable {P : Program} {N : Nat} {a : Act} {e : En} {w : World}
theorem En.get_put (e : En) (d i : Nat) (v : Value) : (e.put (some d) v).get i = if d = i then some v else e.get i := by
 simp only [En.put, En.get]
 by_cases h : d = i
 ·subst h; simp
 ·have : Nat.beq d i = false := by cases hb : Nat.beq d i with | false => rfl | true => exact absurd (bq hb) h
  simp [this, h]
theorem Ok.put (o : Ok N a e) (d : Option Nat) (v : Value) (hd : ∀ i, d = some i → i < N) : Ok N (a.put d v) (e.put d v) := by
 cases d with
 | none => exact o
 | some d =>
   have hd := hd d rfl
   refine ⟨by simp [Act.put, o.size], o.defers, fun i u h => ?_⟩
   rw [En.get_put] at h
   by_cases hi : d = i
   ·subst hi
    rw [if_pos rfl] at h; cases h
    simp [Act.put, Array.getElem?_setIfInBounds, o.size, hd]
   ·rw [if_neg hi] at h
    have := o.get i u h
    simp only [Act.put, Array.getElem?_setIfInBounds]
    rw [if_neg hi]; exact this
theorem Ok.eval (o : Ok N a e) {x : Operand} {v : Value} (h : (cX x).get e = some v) : a.eval x = v := by
 cases x with
 | tmp t =>
   have := o.get t v (by simpa [cX, X.get] using h)
   simp [Act.eval, this]
 | const u => simpa [cX, X.get, Act.eval] using h
 | global g => simpa [cX, X.get, Act.eval] using h
 | func f => simpa [cX, X.get, Act.eval] using h
theorem Ok.evals (o : Ok N a e) : ∀ {l : List Operand} {vs : List Value}, gets e (l.map cX) = some vs → l.map a.eval = vs
 | [], vs, h => by simp [gets] at h; simp [h]
 | x :: l, vs, h => by
   simp only [List.map_cons, gets] at h
   split at h
   ·rename_i v hv
    split at h
    ·rename_i us hu
     cases h
     simp [o.eval hv, o.evals hu]
    ·cases h
   ·cases h
theorem Ok.intX (o : Ok N a e) {x : Operand} {n : Int} (h : intX e (cX x) = some n) : ∃ k, a.eval x = .int k n := by
 unfold Proofs.YtflalhdofhobmaaGreat.intX at h
 split at h
 ·rename_i k m hv; cases h; exact ⟨k, o.eval hv⟩
 ·cases h
theorem szT_eq {t : TypeId} {n : Nat} (h : szT P t = some n) (w : World) : (sizeOf t).run P w = .ok n w := by
 unfold szT at h
 cases hi : P.info? t with
 | none => simp [hi] at h
 | some i => simp [hi] at h; simp [sizeOf, typeInfo, hi, h]
theorem isAggT_eq {t : TypeId} {g : Bool} (h : isAggT P t = some g) (w : World) : (isAgg t).run P w = .ok g w := by
 unfold isAggT at h
 cases hu : P.underlying t with
 | none => simp [hu] at h
 | some d =>
   rw [hu] at h
   unfold isAgg
   cases d <;> simp_all [run_underlying hu]
theorem zeroT_eq {t : TypeId} {z : List Value} (h : zeroT P t = some z) : ∃ i v, P.info? t = some i ∧ i.zero = some v ∧ v.cells.toList = z := by
 unfold zeroT at h
 split at h
 ·rename_i i hi
  split at h
  ·rename_i v hv; cases h; exact ⟨i, v, hi, hv, rfl⟩
  ·cases h
 ·cases h
theorem zeroValue_eq {t : TypeId} {i : TypeInfo} {v : Value} (h : P.info? t = some i) (hz : i.zero = some v) (w : World) : (zeroValue t).run P w = .ok v w := by
 simp [zeroValue, typeInfo, h, hz]
theorem cellsOf_eq {v : Value} {vs : List Value} (h : cellsOf v = some vs) : v.cells.toList = vs := by
 cases v <;> simp_all [cellsOf, Value.cells]
theorem iop_run {op : BinOp} {t : TypeId} {k : IntKind} {x y : Int} {φ : Prop} {v : Value} (h : iop op k x y = some (φ, v)) (hφ : φ) : (binOp op t (.int k x) (.int k y)).run P w = .ok v w := by
 cases op <;> simp only [iop, Option.some.injEq, Prod.mk.injEq, reduceCtorEq] at h
 all_goals (obtain ⟨rfl, rfl⟩ := h)
 all_goals first | (simp [binOp, Op.intArith, Op.intDiv, Op.intBits, Op.intCmp, bitsOf, bne, hφ]; done) | (simp [binOp, Op.intArith, Op.intDiv, Op.intBits, Op.intCmp, bitsOf, bne, hφ]; rfl)
theorem shop_run {op : BinOp} {t : TypeId} {k yk : IntKind} {x y : Int} {φ : Prop} {v : Value} (h : shop op k x y = some (φ, v)) (hφ : φ) : (binOp op t (.int k x) (.int yk y)).run P w = .ok v w := by
 cases op <;> simp only [shop, Option.some.injEq, Prod.mk.injEq, reduceCtorEq] at h
 all_goals (obtain ⟨rfl, rfl⟩ := h)
 all_goals (have : ¬ y < 0 := by omega)
 all_goals simp [binOp, Op.shift, this]
theorem equalIn_p1 (n : Nat) {t E : TypeId} (hu : P.underlying t = some (.pointer E)) (q : Option Addr) : (Op.equalIn (n + 1) t (.pointer q) (.pointer none)).run P w = .ok q.isNone w := by
 cases q <;> simp [Op.equalIn, run_underlying hu]
theorem equalIn_p2 (n : Nat) {t E : TypeId} (hu : P.underlying t = some (.pointer E)) (q : Option Addr) : (Op.equalIn (n + 1) t (.pointer none) (.pointer q)).run P w = .ok q.isNone w := by
 simp [Op.equalIn, run_underlying hu]
theorem equalIn_s1 (n : Nat) {t E : TypeId} (hu : P.underlying t = some (.slice E)) (q : Option Addr) (l c l' c' : Nat) : (Op.equalIn (n + 1) t (.slice q l c) (.slice none l' c')).run P w = .ok q.isNone w := by
 cases q <;> simp [Op.equalIn, run_underlying hu]
theorem equalIn_s2 (n : Nat) {t E : TypeId} (hu : P.underlying t = some (.slice E)) (q : Option Addr) (l c l' c' : Nat) : (Op.equalIn (n + 1) t (.slice none l c) (.slice q l' c')).run P w = .ok q.isNone w := by
 simp [Op.equalIn, run_underlying hu]
theorem equalIn_nil (n : Nat) {t : TypeId} {x y : Value} {d : TypeDesc} {i : Nat} {r : Bool} (hu : P.underlying t = some d) (hd : (match d with | .pointer _ => some 0 | .slice _ => some 1 | .func .. => some 2 | _ => none) = some i) (h : eqNil i x y = some r) :
  (Op.equalIn (n + 1) t x y).run P w = .ok r w := by
 unfold eqNil at h
 split at h <;> cases h
 all_goals (cases d <;> simp at hd)
 ·exact equalIn_p1 n hu _
 ·exact equalIn_p2 n hu _
 ·exact equalIn_s1 n hu _ _ _ _ _
 ·exact equalIn_s2 n hu _ _ _ _ _
 all_goals simp [Op.equalIn, run_underlying hu]
theorem equal_nil {t : TypeId} {x y : Value} {d : TypeDesc} {i : Nat} {r : Bool} (hu : P.underlying t = some d) (hd : (match d with | .pointer _ => some 0 | .slice _ => some 1 | .func .. => some 2 | _ => none) = some i) (h : eqNil i x y = some r) :
  (Op.equal t x y).run P w = .ok r w := equalIn_nil 9999 hu hd h
def Runs (P : Program) (a : Act) (o : Oper) (v : Value) : Prop := ∀ w, (execOp a.eval o).run P w = .ok (.value v) w
theorem Ok.runs_mv (ok : Ok N a e) {o : Oper} {x : Operand} (ho : o.op = .move x ∨ o.op = .assign x) {φ : Prop} {v : Value} (hp : pv e (.mv (cX x)) = some (φ, v)) : Runs P a o v := by
 intro w
 simp only [pv] at hp
 split at hp
 ·rename_i u hu; cases hp
  rcases ho with ho | ho <;> simp [execOp, ho, ok.eval hu]
 ·cases hp
theorem Ok.runs_pk (ok : Ok N a e) {o : Oper} {c x y : Operand} (ho : o.op = .pick c x y) {φ : Prop} {v : Value} (hp : pv e (.pk (cX c) (cX x) (cX y)) = some (φ, v)) : Runs P a o v := by
 intro w
 simp only [pv] at hp
 split at hp
 ·rename_i hc
  split at hp
  ·rename_i u hu; cases hp; simp [execOp, ho, asBool, ok.eval hc, ok.eval hu]
  ·cases hp
 ·rename_i hc
  split at hp
  ·rename_i u hu; cases hp; simp [execOp, ho, asBool, ok.eval hc, ok.eval hu]
  ·cases hp
 ·cases hp
theorem Ok.runs_ib (ok : Ok N a e) {o : Oper} {op : BinOp} {t u : TypeId} {x y : Operand} (ho : o.op = .binOp op t x y u) {φ : Prop} {v : Value} (hp : pv e (.ib op (cX x) (cX y)) = some (φ, v)) (hφ : φ) : Runs P a o v := by
 intro w
 simp only [pv] at hp
 split at hp
 ·rename_i k p k' q hx hy
  have key : (binOp op t (.int k p) (.int k' q)).run P w = .ok v w := by
   split at hp
   ·exact shop_run hp hφ
   ·exact shop_run hp hφ
   ·by_cases hk : k = k'
    ·subst hk; simp only [decide_true, cond_true] at hp; exact iop_run hp hφ
    ·simp only [hk, decide_false, cond_false] at hp; cases hp
  simp [execOp, ho, ok.eval hx, ok.eval hy, eqGuard_at_int, key]
 ·cases hp
theorem equalIn_bool (n : Nat) {t : TypeId} (hu : P.underlying t = some .bool) (x y : Bool) (w : World) : (Op.equalIn (n + 1) t (.bool x) (.bool y)).run P w = .ok (x == y) w := by
 simp [Op.equalIn, run_underlying hu]
theorem equal_bool {t : TypeId} (hu : P.underlying t = some .bool) (x y : Bool) (w : World) : (Op.equal t (.bool x) (.bool y)).run P w = .ok (x == y) w := by
 exact equalIn_bool 9999 hu x y w
theorem Ok.runs_bb (ok : Ok N a e) {o : Oper} {op : BinOp} {t u : TypeId} {x y : Operand} (ho : o.op = .binOp op t x y u) (hu : P.underlying t = some .bool) {neg : Bool} (hop : op = if neg then .neq else .eql) {φ : Prop} {v : Value}
  (hp : pv e (.bb neg (cX x) (cX y)) = some (φ, v)) : Runs P a o v := by
 intro w
 simp only [pv] at hp
 split at hp
 ·rename_i p q hx hy; cases hp
  subst hop
  cases neg <;> simp [execOp, ho, ok.eval hx, ok.eval hy, eqGuard_at_bool, binOp, equal_bool hu]
 ·cases hp
theorem eqNil_guard {i : Nat} {x y : Value} {r : Bool} (h : eqNil i x y = some r) (op : BinOp) (t : TypeId) (p q : Operand) : eqGuard op t p q x y = pure () := by
 unfold eqNil at h
 split at h <;> cases h <;> cases op <;> rfl
theorem eqNil_binOp {i : Nat} {x y : Value} {r : Bool} (h : eqNil i x y = some r) (t : TypeId) : binOp .eql t x y = (do pure (.bool (← Op.equal t x y))) ∧ binOp .neq t x y = (do pure (.bool (!(← Op.equal t x y)))) := by
 unfold eqNil at h
 split at h <;> cases h <;> exact ⟨rfl, rfl⟩
theorem Ok.runs_en (ok : Ok N a e) {o : Oper} {op : BinOp} {t u : TypeId} {x y : Operand} (ho : o.op = .binOp op t x y u) {d : TypeDesc} {i : Nat} (hu : P.underlying t = some d)
  (hd : (match d with | .pointer _ => some 0 | .slice _ => some 1 | .func .. => some 2 | _ => none) = some i) {neg : Bool} (hop : op = if neg then .neq else .eql) {φ : Prop} {v : Value}
  (hp : pv e (.en i neg (cX x) (cX y)) = some (φ, v)) : Runs P a o v := by
 intro w
 simp only [pv] at hp
 split at hp
 ·rename_i p q hx hy
  split at hp
  ·rename_i r hr; cases hp
   have h1 := equal_nil (w := w) hu hd hr
   have h2 := eqNil_binOp hr t
   subst hop
   cases neg <;> simp [execOp, ho, ok.eval hx, ok.eval hy, eqNil_guard hr, h2, h1]
  ·cases hp
 ·cases hp
theorem Ok.runs_sb (ok : Ok N a e) {o : Oper} {op : BinOp} {t u : TypeId} {x y : Operand} (ho : o.op = .binOp op t x y u) (hu : P.underlying t = some .string) {φ : Prop} {v : Value}
  (hp : pv e (.sb op (cX x) (cX y)) = some (φ, v)) (hφ : φ) : Runs P a o v := by
 intro w
 simp only [pv] at hp
 split at hp
 ·rename_i p q hx hy; cases hp
  have h5 : (p.toList == q.toList) = decide (p.data.toList = q.data.toList) := by rw [ByteArray.toList_eq, ByteArray.toList_eq]; exact Bool.beq_eq_decide_eq _ _
  simp only [execOp, ho, ok.eval hx, ok.eval hy, eqGuard_at_string, binOp, Op.stringOp, h5, Sem.run_bind, Sem.run_pure, Result.andThen_ok]
 ·rename_i p q hx hy; cases hp
  have h5 : (p.toList == q.toList) = decide (p.data.toList = q.data.toList) := by rw [ByteArray.toList_eq, ByteArray.toList_eq]; exact Bool.beq_eq_decide_eq _ _
  simp only [execOp, ho, ok.eval hx, ok.eval hy, eqGuard_at_string, binOp, Op.stringOp, h5, Sem.run_bind, Sem.run_pure, Result.andThen_ok]
 ·rename_i p q hx hy; cases hp
  have h1 : p.size = p.data.toList.length := Array.length_toList.symm
  have h2 : q.size = q.data.toList.length := Array.length_toList.symm
  have h3 : ¬ (((p.size + q.size : Nat) : Int) > IntKind.i64.max) := by
   have : IntKind.i64.max = 9223372036854775807 := rfl
   omega
  have h4 : (p ++ q : ByteArray) = ⟨(p.data.toList ++ q.data.toList).toArray⟩ := by
   apply ByteArray.ext
   apply Array.ext'
   simp
  simp only [execOp, ho, ok.eval hx, ok.eval hy, eqGuard_at_string, binOp, Op.stringOp, h3, h4, if_false, Sem.run_bind, Sem.run_pure, Result.andThen_ok]
 ·cases hp
theorem part_eq {t : TypeId} {cs : Array Value} {off n : Nat} {g : Bool} {v : Value} (hs : szT P t = some n) (hg : isAggT P t = some g)
  (h : (bif g then some (.agg ((cs.toList.drop off).take n).toArray) else cs.toList[off]?) = some v) (w : World) : (part t cs off).run P w = .ok v w := by
 unfold part
 cases g
 ·simp only [cond_false] at h
  have h' : cs[off]? = some v := by simpa using h
  simp [isAggT_eq hg, h']
 ·simp only [cond_true, Option.some.injEq] at h
  subst h
  simp only [Sem.run_bind, isAggT_eq hg, Result.andThen_ok, if_true, szT_eq hs, Sem.run_pure]
  congr 2
  apply Array.ext'
  simp [Array.toList_extract, List.take_drop, Nat.add_comm]
theorem eqFields_ints {xs ys : Array Value} (w : World) : ∀ {fs : List Field} {i : Nat} {as bs : List Int}, intsS P i fs = true → intsOf (xs.toList.drop i) = some as → intsOf (ys.toList.drop i) = some bs → as.length = fs.length → bs.length = fs.length →
  (Op.eqFields 9999 xs ys fs).run P w = .ok (decide (as = bs)) w
 | [], i, as, bs, _, _, _, h1, h2 => by
   obtain rfl : as = [] := nz_ h1
   obtain rfl : bs = [] := nz_ h2
   simp [Op.eqFields]
 | f :: fs, i, as, bs, hi, ha, hb, h1, h2 => by
   simp only [intsS, Bool.and_eq_true, Bool.not_eq_true', decide_eq_false_iff_not] at hi
   obtain ⟨hn, ho, hu, hz, hr⟩ := hi
   have ho := bq ho
   obtain ⟨k, hu⟩ : ∃ k, P.underlying f.type = some (.int k) := by
    split at hu
    ·exact ⟨_, ‹_›⟩
    ·cases hu
   have hz : szT P f.type = some 1 := by
    split at hz
    ·assumption
    ·cases hz
   have hg : isAggT P f.type = some false := by unfold isAggT; rw [hu]
   have one : ∀ {zs : Array Value} {cs : List Int}, intsOf (zs.toList.drop i) = some cs → cs.length = (f :: fs).length → ∃ c cs', cs = c :: cs' ∧ zs.toList[i]? = some (.int .i64 c) ∧ intsOf (zs.toList.drop (i + 1)) = some cs' := by
    intro zs cs h hl
    cases hd : zs.toList.drop i with
    | nil => rw [hd] at h; simp only [intsOf, Option.some.injEq] at h; subst h; simp at hl
    | cons z r =>
      rw [hd] at h
      have e1 : zs.toList[i]? = some z := by
       have := congrArg (fun l => l[0]?) hd
       simpa using this
      have e2 : zs.toList.drop (i + 1) = r := by
       rw [← List.drop_drop, hd]; rfl
      unfold intsOf at h
      split at h
      ·rename_i heq; cases heq
      ·rename_i a l heq
       cases heq
       split at h
       ·rename_i as' h'; cases h
        exact ⟨a, as', rfl, e1, by rw [e2]; exact h'⟩
       ·cases h
      ·cases h
   obtain ⟨a, as', rfl, a1, a2⟩ := one ha h1
   obtain ⟨b, bs', rfl, b1, b2⟩ := one hb h2
   have p1 := part_eq (P := P) (cs := xs) (off := i) hz hg (by rw [cond_false]; exact a1) w
   have p2 := part_eq (P := P) (cs := ys) (off := i) hz hg (by rw [cond_false]; exact b1) w
   have p3 := run_equalIn_int (P := P) w 9998 f.type .i64 k a b hu
   have ih := eqFields_ints w hr a2 b2 (by simpa using h1) (by simpa using h2)
   simp only [Op.eqFields, ne_eq, hn, not_false_eq_true, if_true, Sem.run_bind, ho, p1, p2, p3, Result.andThen_ok]
   by_cases hab : a = b
   ·subst hab
    simp [ih]
   ·have : (a == b) = false := by simp [hab]
    simp [this, hab]
theorem Ok.runs_es (ok : Ok N a e) {o : Oper} {op : BinOp} {t u : TypeId} {x y : Operand} (ho : o.op = .binOp op t x y u) {fs : Array Field} (hu : P.underlying t = some (.struct fs)) (hs : structI P t fs = true) {neg : Bool} (hop : op = if neg then .neq else .eql) {φ : Prop} {v : Value}
  (hp : pv e (.es fs.size neg (cX x) (cX y)) = some (φ, v)) : Runs P a o v := by
 intro w
 simp only [structI, Bool.and_eq_true, Bool.not_eq_true'] at hs
 obtain ⟨h1, h2, h3⟩ := hs
 simp only [pv] at hp
 split at hp
 ·rename_i p q hx hy
  split at hp
  ·rename_i as bs ha hb
   cases hl : (Nat.beq as.length fs.size && Nat.beq bs.length fs.size) with
   | false => rw [hl] at hp; cases hp
   | true =>
     rw [hl] at hp; simp only [cond_true, Option.some.injEq, Prod.mk.injEq] at hp
     obtain ⟨_, rfl⟩ := hp
     simp only [Bool.and_eq_true] at hl
     have hf : P.fieldsOf t = fs := by unfold Program.fieldsOf; rw [hu]
     have key : (Op.equalIn 10000 t (.agg p) (.agg q)).run P w = .ok (decide (as = bs)) w := by
      rw [run_equalIn_struct (P := P) w 9999 t p q (by rw [hf]; exact hu) h2, hf]
      exact eqFields_ints w h1 (by simpa using ha) (by simpa using hb) (by simpa using bq hl.1) (by simpa using bq hl.2)
     have gd := run_eqGuard_agg (P := P) w op t x y p q h3
     subst hop
     cases neg with
     | false =>
       have k2 := run_eql_struct (P := P) w t p q
       rw [key] at k2
       simp only [Result.andThen_ok] at k2
       simp [execOp, ho, ok.eval hx, ok.eval hy, gd, k2] at gd ⊢
       simp [gd, k2]
     | true =>
       have k2 := run_neq_struct (P := P) w t p q
       rw [key] at k2
       simp only [Result.andThen_ok] at k2
       simp [execOp, ho, ok.eval hx, ok.eval hy, gd, k2] at gd ⊢
       simp [gd, k2]
  ·cases hp
 ·cases hp
theorem eqFields_pairs {xs ys : Array Value} (w : World) : ∀ {fs : List Field} {i : Nat} {as bs : List (IntKind × Int)}, intsS P i fs = true → pairsOf (xs.toList.drop i) = some as → pairsOf (ys.toList.drop i) = some bs → as.length = fs.length → bs.length = fs.length → as.map (·.1) = bs.map (·.1) →
  (Op.eqFields 9999 xs ys fs).run P w = .ok (decide (as = bs)) w
 | [], i, as, bs, _, _, _, h1, h2, _ => by
   obtain rfl : as = [] := nz_ h1
   obtain rfl : bs = [] := nz_ h2
   simp [Op.eqFields]
 | f :: fs, i, as, bs, hi, ha, hb, h1, h2, hk => by
   simp only [intsS, Bool.and_eq_true, Bool.not_eq_true', decide_eq_false_iff_not] at hi
   obtain ⟨hn, ho, hu, hz, hr⟩ := hi
   have ho := bq ho
   obtain ⟨k, hu⟩ : ∃ k, P.underlying f.type = some (.int k) := by
    split at hu
    ·exact ⟨_, ‹_›⟩
    ·cases hu
   have hz : szT P f.type = some 1 := by
    split at hz
    ·assumption
    ·cases hz
   have hg : isAggT P f.type = some false := by unfold isAggT; rw [hu]
   have one : ∀ {zs : Array Value} {cs : List (IntKind × Int)}, pairsOf (zs.toList.drop i) = some cs → cs.length = (f :: fs).length → ∃ c cs', cs = c :: cs' ∧ zs.toList[i]? = some (.int c.1 c.2) ∧ pairsOf (zs.toList.drop (i + 1)) = some cs' := by
    intro zs cs h hl
    cases hd : zs.toList.drop i with
    | nil => rw [hd] at h; simp only [pairsOf, Option.some.injEq] at h; subst h; simp at hl
    | cons z r =>
      rw [hd] at h
      have e1 : zs.toList[i]? = some z := by
       have := congrArg (fun l => l[0]?) hd
       simpa using this
      have e2 : zs.toList.drop (i + 1) = r := by
       rw [← List.drop_drop, hd]; rfl
      unfold pairsOf at h
      split at h
      ·rename_i heq; cases heq
      ·rename_i k0 a l heq
       cases heq
       split at h
       ·rename_i as' h'; cases h
        exact ⟨(k0, a), as', rfl, e1, by rw [e2]; exact h'⟩
       ·cases h
      ·cases h
   obtain ⟨⟨ka, a⟩, as', rfl, a1, a2⟩ := one ha h1
   obtain ⟨⟨kb, b⟩, bs', rfl, b1, b2⟩ := one hb h2
   simp only [List.map_cons, List.cons.injEq] at hk
   obtain ⟨rfl, hk⟩ := hk
   have p1 := part_eq (P := P) (cs := xs) (off := i) hz hg (by rw [cond_false]; exact a1) w
   have p2 := part_eq (P := P) (cs := ys) (off := i) hz hg (by rw [cond_false]; exact b1) w
   have p3 := run_equalIn_int (P := P) w 9998 f.type ka k a b hu
   have ih := eqFields_pairs w hr a2 b2 (by simpa using h1) (by simpa using h2) hk
   simp only [Op.eqFields, ne_eq, hn, not_false_eq_true, if_true, Sem.run_bind, ho, p1, p2, p3, Result.andThen_ok]
   by_cases hab : a = b
   ·subst hab
    simp [ih]
   ·have : (a == b) = false := by simp [hab]
    simp [this, hab]
theorem Ok.runs_em (ok : Ok N a e) {o : Oper} {op : BinOp} {t u : TypeId} {x y : Operand} (ho : o.op = .binOp op t x y u) {fs : Array Field} (hu : P.underlying t = some (.struct fs)) (hs : structI P t fs = true) {neg : Bool} (hop : op = if neg then .neq else .eql) {φ : Prop} {v : Value}
  (hp : pv e (.em fs.size neg (cX x) (cX y)) = some (φ, v)) : Runs P a o v := by
 intro w
 simp only [structI, Bool.and_eq_true, Bool.not_eq_true'] at hs
 obtain ⟨h1, h2, h3⟩ := hs
 simp only [pv] at hp
 split at hp
 ·rename_i p q hx hy
  split at hp
  ·rename_i as bs ha hb
   cases hl : (Nat.beq as.length fs.size && Nat.beq bs.length fs.size && decide (as.map (·.1) = bs.map (·.1))) with
   | false => rw [hl] at hp; cases hp
   | true =>
     rw [hl] at hp; simp only [cond_true, Option.some.injEq, Prod.mk.injEq] at hp
     obtain ⟨_, rfl⟩ := hp
     simp only [Bool.and_eq_true] at hl
     obtain ⟨⟨hl1, hl2⟩, hl3⟩ := hl
     have hf : P.fieldsOf t = fs := by unfold Program.fieldsOf; rw [hu]
     have key : (Op.equalIn 10000 t (.agg p) (.agg q)).run P w = .ok (decide (as = bs)) w := by
      rw [run_equalIn_struct (P := P) w 9999 t p q (by rw [hf]; exact hu) h2, hf]
      exact eqFields_pairs w h1 (by simpa using ha) (by simpa using hb) (by simpa using bq hl1) (by simpa using bq hl2) (of_decide_eq_true hl3)
     have gd := run_eqGuard_agg (P := P) w op t x y p q h3
     subst hop
     cases neg with
     | false =>
       have k2 := run_eql_struct (P := P) w t p q
       rw [key] at k2
       simp only [Result.andThen_ok] at k2
       simp [execOp, ho, ok.eval hx, ok.eval hy, gd, k2] at gd ⊢
       simp [gd, k2]
     | true =>
       have k2 := run_neq_struct (P := P) w t p q
       rw [key] at k2
       simp only [Result.andThen_ok] at k2
       simp [execOp, ho, ok.eval hx, ok.eval hy, gd, k2] at gd ⊢
       simp [gd, k2]
  ·cases hp
 ·cases hp
theorem Ok.runs_nt (ok : Ok N a e) {o : Oper} {t : TypeId} {x : Operand} (ho : o.op = .unOp .not t x) {φ : Prop} {v : Value} (hp : pv e (.nt (cX x)) = some (φ, v)) : Runs P a o v := by
 intro w
 simp only [pv] at hp
 split at hp
 ·rename_i p hx; cases hp; simp [execOp, ho, ok.eval hx, Op.unary]
 ·cases hp
theorem Ok.runs_ng (ok : Ok N a e) {o : Oper} {t : TypeId} {x : Operand} (ho : o.op = .unOp .neg t x) {φ : Prop} {v : Value} (hp : pv e (.ng (cX x)) = some (φ, v)) : Runs P a o v := by
 intro w
 simp only [pv] at hp
 split at hp
 ·rename_i k p hx; cases hp; simp [execOp, ho, ok.eval hx, Op.unary, Op.intArith]
 ·cases hp
theorem Ok.runs_cv (ok : Ok N a e) {o : Oper} {src dst : TypeId} {x : Operand} (ho : o.op = .convert src dst x) {k : IntKind} (hs : ∃ d, P.underlying src = some d) (hd : P.underlying dst = some (.int k)) {φ : Prop} {v : Value} (hp : pv e (.cv k (cX x)) = some (φ, v)) : Runs P a o v := by
 intro w
 obtain ⟨d, hs⟩ := hs
 simp only [pv] at hp
 split at hp
 ·rename_i k' p hx; cases hp; simp [execOp, ho, ok.eval hx, convert, run_underlying hs, run_underlying hd, Conv.intToInt]
 ·cases hp
theorem Ok.runs_nc (ok : Ok N a e) {o : Oper} {x : Operand} (ho : o.op = .nilCheck x) {φ : Prop} {v : Value} (hp : pv e (.nc (cX x)) = some (φ, v)) : Runs P a o v := by
 intro w
 simp only [pv] at hp
 split at hp
 ·rename_i p hx; cases hp; simp [execOp, ho, ok.eval hx]
 ·rename_i p b c hx; cases hp; simp [execOp, ho, ok.eval hx]
 ·cases hp
theorem partPlace {b o n : Nat} : (⟨b, o, none⟩ : Addr).add n = ⟨b, o + n, none⟩ := Addr.add_lit b o n
theorem Ok.runs_fa (ok : Ok N a e) {o : Oper} {t : TypeId} {x : Operand} {i : Nat} (ho : o.op = .fieldAddr t x i) {fs : Array Field} {f : Field} {n : Nat} (hu : P.underlying t = some (.struct fs)) (hf : fs[i]? = some f)
  (hs : szT P f.type = some n) (hn : 0 < n) {φ : Prop} {v : Value} (hp : pv e (.fa (cX x) f.offset) = some (φ, v)) : Runs P a o v := by
 intro w
 simp only [pv] at hp
 split at hp
 ·rename_i b off hx; cases hp
  have hn' : n ≠ 0 := by omega
  simp [execOp, ho, ok.eval hx, Instr.fieldAt, run_underlying hu, hf, Instr.sureAddr, fieldPlace, szT_eq hs, hn', partPlace]
 ·cases hp
theorem Ok.runs_fv (ok : Ok N a e) {o : Oper} {t : TypeId} {x : Operand} {i : Nat} (ho : o.op = .field t x i) {fs : Array Field} {f : Field} {n : Nat} {g : Bool} (hu : P.underlying t = some (.struct fs)) (hf : fs[i]? = some f)
  (hs : szT P f.type = some n) (hg : isAggT P f.type = some g) {φ : Prop} {v : Value} (hp : pv e (.fv (cX x) f.offset n g) = some (φ, v)) : Runs P a o v := by
 intro w
 simp only [pv] at hp
 split at hp
 ·rename_i cs hx
  have key : (bif g then some (Value.agg ((cs.toList.drop f.offset).take n).toArray) else cs.toList[f.offset]?) = some v := by
   cases g
   ·simp only [cond_false] at hp ⊢
    split at hp
    ·rename_i u hu; cases hp; exact hu
    ·cases hp
   ·simp only [cond_true] at hp ⊢; cases hp; rfl
  simp [execOp, ho, ok.eval hx, Instr.field, run_underlying hu, hf, asAgg, part_eq hs hg key]
 ·cases hp
theorem Ok.runs_ia (ok : Ok N a e) {o : Oper} {t E : TypeId} {x i : Operand} {n : Nat} (ho : o.op = .indexAddr t x i) (hu : P.underlying t = some (.slice E)) (hs : szT P E = some n) {φ : Prop} {v : Value}
  (hp : pv e (.ia (cX x) (cX i) n) = some (φ, v)) (hφ : φ) : Runs P a o v := by
 intro w
 simp only [pv] at hp
 split at hp
 ·rename_i b off len cap m hx hi; cases hp
  obtain ⟨k, hi⟩ := ok.intX hi
  simp [execOp, ho, ok.eval hx, hi, Instr.indexAt, asIntOf, run_underlying hu, hφ, szT_eq hs, partPlace]
 ·cases hp
theorem Ok.runs_iaa (ok : Ok N a e) {o : Oper} {t E : TypeId} {x i : Operand} {len n : Nat} (ho : o.op = .indexAddr t x i) (hu : P.underlying t = some (.array len E)) (hs : szT P E = some n) {φ : Prop} {v : Value}
  (hp : pv e (.iaa (cX x) (cX i) len n) = some (φ, v)) (hφ : φ) : Runs P a o v := by
 intro w
 simp only [pv] at hp
 split at hp
 ·rename_i b off m hx hi; cases hp
  obtain ⟨k, hi⟩ := ok.intX hi
  simp [execOp, ho, ok.eval hx, hi, Instr.indexAt, asIntOf, run_underlying hu, hφ, szT_eq hs, partPlace, Instr.sureAddr]
 ·cases hp
theorem Ok.runs_iv (ok : Ok N a e) {o : Oper} {t E : TypeId} {x i : Operand} {len n : Nat} {g : Bool} (ho : o.op = .index t x i) (hu : P.underlying t = some (.array len E)) (hs : szT P E = some n) (hg : isAggT P E = some g) {φ : Prop} {v : Value}
  (hp : pv e (.iv (cX x) (cX i) len n g) = some (φ, v)) (hφ : φ) : Runs P a o v := by
 intro w
 simp only [pv] at hp
 split at hp
 ·rename_i cs m hx hi
  obtain ⟨k, hi⟩ := ok.intX hi
  have key : (bif g then some (Value.agg ((cs.toList.drop (m.toNat * n)).take n).toArray) else cs.toList[m.toNat * n]?) = some v ∧ 0 ≤ m ∧ m < len := by
   cases g
   ·simp only [cond_false] at hp ⊢
    split at hp
    ·rename_i u hu; cases hp; exact ⟨hu, hφ⟩
    ·cases hp
   ·simp only [cond_true] at hp ⊢; cases hp; exact ⟨rfl, hφ⟩
  simp [execOp, ho, ok.eval hx, hi, Instr.index, asIntOf, run_underlying hu, key.2, szT_eq hs, part_eq hs hg key.1]
 ·cases hp
theorem Ok.runs_ex (ok : Ok N a e) {o : Oper} {x : Operand} {i : Nat} (ho : o.op = .extract x i) {φ : Prop} {v : Value} (hp : pv e (.ex (cX x) i) = some (φ, v)) : Runs P a o v := by
 intro w
 simp only [pv] at hp
 split at hp
 ·rename_i vs hx
  split at hp
  ·rename_i u hu; cases hp
   have hu' : vs[i]? = some v := by simpa using hu
   simp [execOp, ho, ok.eval hx, Instr.extract, hu']
  ·cases hp
 ·cases hp
theorem Ok.runs_mf (ok : Ok N a e) {o : Oper} {fn : Fn} {x y : Array Operand} (ho : o.op = .makeFunc fn x y) {φ : Prop} {v : Value} (hp : pv e (.mf fn (x.toList.map cX) (y.toList.map cX)) = some (φ, v)) : Runs P a o v := by
 intro w
 simp only [pv] at hp
 split at hp
 ·rename_i p q hx hy; cases hp
  have h1 := ok.evals hx
  have h2 := ok.evals hy
  have h1' : x.map a.eval = p.toArray := by apply Array.ext'; simpa using h1
  have h2' : y.map a.eval = q.toArray := by apply Array.ext'; simpa using h2
  simp [execOp, ho, Instr.makeFunc, h1', h2']
 ·cases hp
theorem elem_slice {t E : TypeId} (hu : P.underlying t = some (.slice E)) : P.underlying t = some (.slice (P.elem t)) ∧ P.elem t = E := by
 have : P.elem t = E := by simp [Program.elem, hu]
 exact ⟨by rw [this]; exact hu, this⟩
theorem sliced_some (b o l h m s : Nat) : sliced (some ⟨b, o, none⟩) l h m s = .slice (some ⟨b, o + skp m l s, none⟩) (h - l) (m - l) := by
 unfold sliced skp
 by_cases e : m = l
 ·simp [e]
 ·simp [e, partPlace]
theorem sliced_none (l h m s : Nat) : sliced none l h m s = .slice none (h - l) (m - l) := by
 unfold sliced; split <;> rfl
theorem sliced_zero (a : Option Addr) (h m s : Nat) : sliced a 0 h m s = .slice a h m := by
 unfold sliced
 cases a <;> simp [Addr.add_zero']
theorem Ok.runs_sl (ok : Ok N a e) {o : Oper} {t E : TypeId} {x : Operand} {lo hi mx : Option Operand} {n : Nat} (ho : o.op = .slice t x lo hi mx) (hu : P.underlying t = some (.slice E)) (hs : szT P E = some n) {φ : Prop} {v : Value}
  (hp : pv e (.sl n (cX x) (lo.map cX) (hi.map cX) (mx.map cX)) = some (φ, v)) (hφ : φ) : Runs P a o v := by
 intro w
 obtain ⟨hu', he⟩ := elem_slice hu
 have hsz : ∀ w, (sizeOf (P.elem t)).run P w = .ok n w := by rw [he]; exact szT_eq hs
 simp only [pv] at hp
 split at hp
 ·rename_i b len cap hx hm
  have hmx : mx = none := by cases mx <;> simp_all
  subst hmx
  split at hp
  ·rename_i hl hh
   have hlo : lo = none := by cases lo <;> simp_all
   have hhi : hi = none := by cases hi <;> simp_all
   subst hlo; subst hhi
   cases hp
   simp [execOp, ho, ok.eval hx, run_sliceAt_slice w t _ _ _ _ hu', run_slice_all w t _ _ _ hu', hsz, sliced_zero]
  ·rename_i q hl hh
   have hlo : lo = none := by cases lo <;> simp_all
   subst hlo
   cases hi with
   | none => simp at hh
   | some hi =>
     simp only [Option.map_some, Option.some.injEq] at hh
     subst hh
     split at hp
     ·rename_i m hm; cases hp
      obtain ⟨k, hm⟩ := ok.intX hm
      simp [execOp, ho, ok.eval hx, hm, run_sliceAt_slice w t _ _ _ _ hu', run_slice_h w t _ _ _ hu' k m hφ.1 hφ.2, hsz, sliced_zero]
     ·cases hp
  ·rename_i q hl hh
   have hhi : hi = none := by cases hi <;> simp_all
   subst hhi
   cases lo with
   | none => simp at hl
   | some lo =>
     simp only [Option.map_some, Option.some.injEq] at hl
     subst hl
     split at hp
     ·rename_i l b off hl; cases hp
      obtain ⟨k, hl⟩ := ok.intX hl
      simp [execOp, ho, ok.eval hx, hl, run_sliceAt_slice w t _ _ _ _ hu', run_slice_l w t _ _ _ hu' k l hφ.1 hφ.2, hsz, sliced_some]
     ·rename_i l hl; cases hp
      obtain ⟨k, hl⟩ := ok.intX hl
      subst hφ
      simp [execOp, ho, ok.eval hx, hl, run_sliceAt_slice w t _ _ _ _ hu', run_slice_l w t none len cap hu' k 0 (by omega) (by omega), hsz, sliced_none]
     ·cases hp
  ·rename_i q r hl hh
   cases lo with
   | none => simp at hl
   | some lo =>
     cases hi with
     | none => simp at hh
     | some hi =>
       simp only [Option.map_some, Option.some.injEq] at hl hh
       subst hl; subst hh
       split at hp
       ·rename_i l h b off hl hh; cases hp
        obtain ⟨k, hl⟩ := ok.intX hl
        obtain ⟨k', hh⟩ := ok.intX hh
        simp [execOp, ho, ok.eval hx, hl, hh, run_sliceAt_slice w t _ _ _ _ hu', run_slice_lh w t _ _ _ hu' k k' l h hφ.1 hφ.2.1 hφ.2.2, hsz, sliced_some]
       ·rename_i l h hl hh; cases hp
        obtain ⟨k, hl⟩ := ok.intX hl
        obtain ⟨k', hh⟩ := ok.intX hh
        obtain ⟨rfl, hφ⟩ := hφ
        simp [execOp, ho, ok.eval hx, hl, hh, run_sliceAt_slice w t _ _ _ _ hu', run_slice_lh w t none len cap hu' k k' 0 h (by omega) hφ.1 hφ.2, hsz, sliced_none]
       ·cases hp
 ·cases hp
theorem Ok.runs_sa (ok : Ok N a e) {o : Oper} {t E : TypeId} {x : Operand} {lo hi mx : Option Operand} {len n : Nat} (ho : o.op = .slice t x lo hi mx) (hu : P.underlying t = some (.array len E)) (hs : szT P E = some n) {φ : Prop} {v : Value}
  (hp : pv e (.sa len n (cX x) (lo.map cX) (hi.map cX) (mx.map cX)) = some (φ, v)) (hφ : φ) : Runs P a o v := by
 intro w
 simp only [pv] at hp
 split at hp
 ·rename_i b off hx hl hh hm
  have hlo : lo = none := by cases lo <;> simp_all
  have hhi : hi = none := by cases hi <;> simp_all
  have hmx : mx = none := by cases mx <;> simp_all
  subst hlo; subst hhi; subst hmx
  cases hp
  simp [execOp, ho, ok.eval hx, Instr.sliceAt, run_underlying hu, Instr.sureAddr, Instr.sliceBounds, szT_eq hs, Addr.add_zero']
 ·rename_i b off q hx hl hh hm
  have hlo : lo = none := by cases lo <;> simp_all
  have hmx : mx = none := by cases mx <;> simp_all
  subst hlo; subst hmx
  cases hi with
  | none => simp at hh
  | some hi =>
    simp only [Option.map_some, Option.some.injEq] at hh
    subst hh
    split at hp
    ·rename_i h hi'; cases hp
     obtain ⟨k, hi'⟩ := ok.intX hi'
     obtain ⟨h0, h1⟩ := hφ
     simp [execOp, ho, ok.eval hx, hi', Instr.sliceAt, run_underlying hu, Instr.sureAddr, Instr.sliceBounds, Instr.sliceBound, asIntOf, h0, h1, szT_eq hs, Addr.add_zero']
    ·cases hp
 ·cases hp
theorem Ok.runs_is (ok : Ok N a e) {o : Oper} {t : TypeId} {x i : Operand} (ho : o.op = .index t x i) (hu : P.underlying t = some .string) {φ : Prop} {v : Value} (hp : pv e (.is (cX x) (cX i)) = some (φ, v)) (hφ : φ) : Runs P a o v := by
 intro w
 simp only [pv] at hp
 split at hp
 ·rename_i s n hx hi; cases hp
  obtain ⟨k, hi⟩ := ok.intX hi
  obtain ⟨h0, h1⟩ := hφ
  obtain ⟨m, rfl⟩ : ∃ m : Nat, n = m := ⟨n.toNat, by omega⟩
  have h2 : m < s.data.size := by rw [← Array.length_toList]; omega
  have h3 : s[m]? = some (s.data.toList.getD m 0) := by
   rw [getElem?_pos s m (show m < s.size from h2), List.getD_eq_getElem?_getD, Array.getElem?_toList, Array.getElem?_eq_getElem h2]
   rfl
  simp [execOp, ho, ok.eval hx, hi, Instr.index, run_underlying hu, asIntOf, h3]
 ·cases hp
theorem extract_list (s : ByteArray) (l h : Nat) : s.extract l h = ⟨((s.data.toList.take h).drop l).toArray⟩ := by
 apply ByteArray.ext
 rw [ByteArray.data_extract]
 apply Array.ext'
 rw [Array.toList_extract]
 simp [List.drop_take, List.extract]
theorem Ok.runs_ss (ok : Ok N a e) {o : Oper} {t : TypeId} {x : Operand} {lo hi : Option Operand} (ho : o.op = .slice t x lo hi none) (hu : P.underlying t = some .string) {φ : Prop} {v : Value} (hp : pv e (.ss (cX x) (lo.map cX) (hi.map cX)) = some (φ, v)) (hφ : φ) : Runs P a o v := by
 intro w
 simp only [pv] at hp
 split at hp
 ·rename_i s hx
  have hsz : s.size = s.data.toList.length := Array.length_toList.symm
  split at hp
  ·rename_i hl hh
   have hlo : lo = none := by cases lo <;> simp_all
   have hhi : hi = none := by cases hi <;> simp_all
   subst hlo; subst hhi
   cases hp
   have e1 : s.extract 0 s.size = s := by
    rw [extract_list, hsz, List.take_length]
    rfl
   simp [execOp, ho, ok.eval hx, run_sliceAt_string w t _ _ _ _ hu, run_slice_string_all w t s hu, e1]
  ·rename_i q hl hh
   have hlo : lo = none := by cases lo <;> simp_all
   subst hlo
   cases hi with
   | none => simp at hh
   | some hi =>
     simp only [Option.map_some, Option.some.injEq] at hh
     subst hh
     split at hp
     ·rename_i m hm; cases hp
      obtain ⟨k, hm⟩ := ok.intX hm
      have e1 : s.extract 0 m.toNat = ⟨(s.data.toList.take m.toNat).toArray⟩ := by rw [extract_list]; rfl
      simp [execOp, ho, ok.eval hx, hm, run_sliceAt_string w t _ _ _ _ hu, run_slice_string_h w t s hu k m hφ.1 (by rw [hsz]; exact hφ.2), e1]
     ·cases hp
  ·rename_i q hl hh
   have hhi : hi = none := by cases hi <;> simp_all
   subst hhi
   cases lo with
   | none => simp at hl
   | some lo =>
     simp only [Option.map_some, Option.some.injEq] at hl
     subst hl
     split at hp
     ·rename_i m hm; cases hp
      obtain ⟨k, hm⟩ := ok.intX hm
      have e1 : s.extract m.toNat s.size = ⟨(s.data.toList.drop m.toNat).toArray⟩ := by rw [extract_list, hsz, List.take_length]
      simp [execOp, ho, ok.eval hx, hm, run_sliceAt_string w t _ _ _ _ hu, run_slice_string_l w t s hu k m hφ.1 (by rw [hsz]; exact hφ.2), e1]
     ·cases hp
  ·rename_i q r hl hh
   cases lo with
   | none => simp at hl
   | some lo =>
     cases hi with
     | none => simp at hh
     | some hi =>
       simp only [Option.map_some, Option.some.injEq] at hl hh
       subst hl; subst hh
       split at hp
       ·rename_i m1 m2 hm1 hm2; cases hp
        obtain ⟨k1, hm1⟩ := ok.intX hm1
        obtain ⟨k2, hm2⟩ := ok.intX hm2
        simp [execOp, ho, ok.eval hx, hm1, hm2, run_sliceAt_string w t _ _ _ _ hu, run_slice_string w t s k1 k2 m1 m2 hu hφ.1 hφ.2.1 (by rw [hsz]; exact hφ.2.2), extract_list]
       ·cases hp
 ·cases hp
theorem Ok.runs_len (ok : Ok N a e) {o : Oper} {t : TypeId} {x : Operand} {E : TypeId} (ho : o.op = .call ⟨.builtin .len, #[x], #[t]⟩) (hu : P.underlying t = some (.slice E)) {φ : Prop} {v : Value} (hp : pv e (.len (cX x)) = some (φ, v)) : Runs P a o v := by
 intro w
 simp only [pv] at hp
 split at hp
 ·rename_i b n c hx; cases hp
  simp [execOp, ho, resolve, invoke, builtin, ok.eval hx, Builtin.len_, run_underlying hu, goInt]
 ·cases hp
theorem Ok.runs_lens (ok : Ok N a e) {o : Oper} {t : TypeId} {x : Operand} (ho : o.op = .call ⟨.builtin .len, #[x], #[t]⟩) (hu : P.underlying t = some .string) {φ : Prop} {v : Value} (hp : pv e (.lens (cX x)) = some (φ, v)) : Runs P a o v := by
 intro w
 simp only [pv] at hp
 split at hp
 ·rename_i b hx; cases hp
  simp [execOp, ho, resolve, invoke, builtin, ok.eval hx, Builtin.len_, run_underlying hu, goInt]
 ·cases hp
theorem Ok.runs_lena {o : Oper} {t : TypeId} {x : Operand} {n : Nat} {E : TypeId} (ho : o.op = .call ⟨.builtin .len, #[x], #[t]⟩) (hu : P.underlying t = some (.array n E)) {φ : Prop} {v : Value} (hp : pv e (.mv (.c (.int .i64 n))) = some (φ, v)) : Runs P a o v := by
 intro w
 simp only [pv, X.get] at hp
 cases hp
 simp [execOp, ho, resolve, invoke, builtin, Builtin.len_, run_underlying hu, goInt]
theorem Ok.runs_cap (ok : Ok N a e) {o : Oper} {t : TypeId} {x : Operand} {E : TypeId} (ho : o.op = .call ⟨.builtin .cap, #[x], #[t]⟩) (hu : P.underlying t = some (.slice E)) {φ : Prop} {v : Value} (hp : pv e (.cap (cX x)) = some (φ, v)) : Runs P a o v := by
 intro w
 simp only [pv] at hp
 split at hp
 ·rename_i b n c hx; cases hp
  simp [execOp, ho, resolve, invoke, builtin, ok.eval hx, Builtin.cap_, run_underlying hu, goInt]
 ·cases hp
theorem Ok.runs_mm (ok : Ok N a e) {o : Oper} {ts : Array TypeId} {x y : Operand} {big : Bool} (ho : o.op = .call ⟨.builtin (if big then .max else .min), #[x, y], ts⟩) {φ : Prop} {v : Value} (hp : pv e (.mm big (cX x) (cX y)) = some (φ, v)) : Runs P a o v := by
 intro w
 simp only [pv] at hp
 split at hp
 ·rename_i k p k' q hx hy; cases hp
  cases big
  ·simp only [bf, if_false] at ho
   simp [execOp, ho, resolve, invoke, builtin, ok.eval hx, ok.eval hy, Builtin.min_, Builtin.min2]
  ·simp only [if_true] at ho
   simp [execOp, ho, resolve, invoke, builtin, ok.eval hx, ok.eval hy, Builtin.max_, Builtin.max2]
 ·cases hp
theorem lay_nil (cs : List Value) (off : Nat) : lay cs off [] = cs := by simp [lay]
theorem lay_cons (cs : List Value) (off : Nat) (v : Value) (vs : List Value) (h : off + (vs.length + 1) ≤ cs.length) : lay (cs.set off v) (off + 1) vs = lay cs off (v :: vs) := by
 unfold lay
 have h2 := list_seg_step cs off v vs h
 simp only [List.length_cons]
 rw [← h2]
theorem length_lay (cs : List Value) (off : Nat) (vs : List Value) (h : off + vs.length ≤ cs.length) : (lay cs off vs).length = cs.length := by
 simp [lay]; omega
theorem fold_lay (off : Nat) : ∀ (vs : List Value) (j : Nat) (cs : List Value), off + j + vs.length ≤ cs.length →
  (vs.zipIdx j).foldl (fun (cs : Array Value) (p : Value × Nat) => cs.setIfInBounds (off + p.2) p.1) cs.toArray = (lay cs (off + j) vs).toArray
 | [], j, cs, _ => by simp [lay_nil]
 | v :: vs, j, cs, h => by
   simp only [List.length_cons] at h
   simp only [List.zipIdx_cons, List.foldl_cons, List.setIfInBounds_toArray]
   rw [fold_lay off vs (j + 1) (cs.set (off + j) v) (by simp; omega)]
   rw [← Nat.add_assoc, lay_cons _ _ _ _ (by omega)]
theorem fill_eq {place : Nat → Option (Nat × Nat)} (ok : Ok N a e) : ∀ {ps : List (Nat × Operand)} {qs : List (Nat × Nat × X)} {cs ds : List Value},
  ps.mapM (fun p => match place p.1 with | some q => some (q.1, q.2, cX p.2) | none => none) = some qs → fills e cs qs = some ds →
  Instr.fill place cs.toArray (ps.map fun p => (p.1, a.eval p.2)) = some ds.toArray
 | [], qs, cs, ds, h, hf => by
   simp at h; subst h
   simp only [fills] at hf; cases hf
   simp [Instr.fill]
 | p :: ps, qs, cs, ds, h, hf => by
   simp only [List.mapM_cons, Option.bind_eq_bind] at h
   cases hp : place p.1 with
   | none => simp [hp] at h
   | some q =>
     simp only [hp, Option.bind_some] at h
     cases hm : ps.mapM (fun p => match place p.1 with | some q => some (q.1, q.2, cX p.2) | none => none) with
     | none => rw [hm] at h; simp at h
     | some rs =>
       rw [hm] at h; simp only [Option.bind_some, Option.pure_def, Option.some.injEq] at h
       subst h
       simp only [fills] at hf
       split at hf
       ·rename_i v hv
        split at hf
        ·rename_i vs hvs
         by_cases hc : (Nat.beq vs.length q.2 && Nat.ble (q.1 + q.2) cs.length) = true
         ·rw [hc, cond_true] at hf
          simp only [Bool.and_eq_true, Nat.beq_eq, Nat.ble_eq] at hc
          have e1 := ok.eval hv
          have e2 := cellsOf_eq hvs
          have e3 : (a.eval p.2).cells = vs.toArray := by rw [e1]; apply Array.ext'; simpa using e2
          have hl : q.1 + 0 + vs.length ≤ cs.length := by omega
          have e4 := fold_lay q.1 vs 0 cs hl
          simp only [List.map_cons, Instr.fill, hp, e3]
          rw [if_neg (by simp; omega)]
          simp only [Nat.add_zero] at e4
          rw [← Array.foldl_toList, Array.toList_zipIdx]
          rw [show (List.foldl (fun cs x => cs.setIfInBounds (q.1 + x.2) x.1) cs.toArray (vs.toArray.toList.zipIdx)) = (lay cs q.1 vs).toArray from e4]
          exact fill_eq ok hm hf
         ·simp only [hc, cond_false] at hf; cases hf
        ·cases hf
       ·cases hf
theorem places_run : ∀ {fs : List Field} {pl : List (Nat × Nat)}, placesS P fs = some pl → ∀ w, (fs.mapM fun f => (do pure (f.offset, ← sizeOf f.type) : Sem (Nat × Nat))).run P w = .ok pl w
 | [], pl, h, w => by simp [placesS] at h; subst h; simp
 | f :: fs, pl, h, w => by
   simp only [placesS] at h
   split at h
   ·rename_i n hn
    split at h
    ·rename_i r hr; cases h
     simp only [List.mapM_cons, Sem.run_bind, szT_eq hn, Result.andThen_ok, Sem.run_pure, places_run hr]
    ·cases h
   ·cases h
theorem Ok.runs_bd (ok : Ok N a e) {o : Oper} {t : TypeId} {ps : Array (Nat × Operand)} {fs : Array Field} {z : List Value} {pl : List (Nat × Nat)} {l : List (Nat × Nat × X)} (ho : o.op = .build t ps)
  (hu : P.underlying t = some (.struct fs)) (hz : zeroT P t = some z) (hpl : placesS P fs.toList = some pl) (hl : partsS (fun i => pl[i]?) ps.toList = some l) {φ : Prop} {v : Value} (hp : pv e (.bd z l) = some (φ, v)) : Runs P a o v := by
 intro w
 simp only [pv] at hp
 split at hp
 ·rename_i cs hc; cases hp
  obtain ⟨i, u, hi, hzu, rfl⟩ := zeroT_eq hz
  have hf := fill_eq ok (place := fun i => pl[i]?) hl hc
  have hpr := places_run hpl w
  have e1 : (ps.map fun p => (p.1, a.eval p.2)).toList = ps.toList.map fun p => (p.1, a.eval p.2) := by simp
  simp only [execOp, ho, Instr.build, Sem.run_bind, zeroValue_eq hi hzu, Result.andThen_ok, run_underlying hu, Array.mapM_eq_mapM_toList, Sem.run_map, hpr, e1]
  have hf' : Instr.fill (fun x => pl.toArray[x]?) u.cells (ps.toList.map fun p => (p.1, a.eval p.2)) = some cs.toArray := by simpa using hf
  simp only [Sem.run_pure, Result.andThen_ok, hf']
 ·cases hp
theorem Ok.runs_bda (ok : Ok N a e) {o : Oper} {t E : TypeId} {len n : Nat} {ps : Array (Nat × Operand)} {z : List Value} {l : List (Nat × Nat × X)} (ho : o.op = .build t ps)
  (hu : P.underlying t = some (.array len E)) (hz : zeroT P t = some z) (hs : szT P E = some n) (hl : partsS (fun i => some (i * n, n)) ps.toList = some l) {φ : Prop} {v : Value} (hp : pv e (.bd z l) = some (φ, v)) : Runs P a o v := by
 intro w
 simp only [pv] at hp
 split at hp
 ·rename_i cs hc; cases hp
  obtain ⟨i, u, hi, hzu, rfl⟩ := zeroT_eq hz
  have hf := fill_eq ok (place := fun i => some (i * n, n)) hl hc
  have e1 : (ps.map fun p => (p.1, a.eval p.2)).toList = ps.toList.map fun p => (p.1, a.eval p.2) := by simp
  simp only [execOp, ho, Instr.build, Sem.run_bind, zeroValue_eq hi hzu, Result.andThen_ok, run_underlying hu, szT_eq hs, e1]
  have hf' : Instr.fill (fun i => some (i * n, n)) u.cells (ps.toList.map fun p => (p.1, a.eval p.2)) = some cs.toArray := by simpa using hf
  simp [hf']
 ·cases hp
theorem call_eq (c : Call) {b : Callee} {x : List Operand} {t : List TypeId} (h1 : c.callee = b) (h2 : c.args.toList = x) (h3 : c.argTypes.toList = t) : c = ⟨b, x.toArray, t.toArray⟩ := by
 cases c; subst h1; subst h2; subst h3; rfl
theorem Ok.runs (ok : Ok N a e) {o : Oper} {s : S} (hs : cS P o = some s) {φ : Prop} {v : Value} (hp : pv e s = some (φ, v)) (hφ : φ) : Runs P a o v := by
 unfold cS at hs
 split at hs
 case h_1 => rename_i ho; cases hs; exact ok.runs_mv (.inl ho) hp
 case h_2 => rename_i ho; cases hs; exact ok.runs_mv (.inr ho) hp
 case h_3 => rename_i ho; cases hs; exact ok.runs_pk ho hp
 case h_4 => split at hs <;> cases hs; simp [pv] at hp
 case h_5 => cases hs; simp [pv] at hp
 case h_6 =>
  rename_i t ps ho
  split at hs
  ·rename_i fs hu
   split at hs
   ·rename_i z pl hz hpl
    split at hs
    ·rename_i l hl; cases hs; exact ok.runs_bd ho hu hz hpl hl hp
    ·cases hs
   ·cases hs
  ·rename_i len E hu
   split at hs
   ·rename_i z n hz hn
    split at hs
    ·rename_i l hl; cases hs; exact ok.runs_bda ho hu hz hn hl hp
    ·cases hs
   ·cases hs
  ·cases hs
 case h_7 =>
  split at hs
  ·split at hs
   ·split at hs
    ·split at hs
     ·cases hs; simp [pv] at hp
     ·cases hs
    ·cases hs
   ·cases hs
  ·cases hs
 case h_8 => split at hs <;> cases hs; simp [pv] at hp
 case h_9 => split at hs <;> cases hs; simp [pv] at hp
 case h_10 => rename_i ho; cases hs; exact ok.runs_nc ho hp
 case h_11 =>
  rename_i op t x y u ho
  split at hs
  ·cases hs; exact ok.runs_ib ho hp hφ
  ·rename_i hu; split at hs <;> cases hs
   ·exact ok.runs_bb ho hu rfl hp
   ·exact ok.runs_bb ho hu rfl hp
  ·rename_i hu; split at hs <;> cases hs
   ·exact ok.runs_en ho hu rfl rfl hp
   ·exact ok.runs_en ho hu rfl rfl hp
  ·rename_i hu; split at hs <;> cases hs
   ·exact ok.runs_en ho hu rfl rfl hp
   ·exact ok.runs_en ho hu rfl rfl hp
  ·rename_i hu; split at hs <;> cases hs
   ·exact ok.runs_en ho hu rfl rfl hp
   ·exact ok.runs_en ho hu rfl rfl hp
  ·rename_i hu; split at hs <;> cases hs
   ·exact ok.runs_sb ho hu hp hφ
   ·exact ok.runs_sb ho hu hp hφ
   ·exact ok.runs_sb ho hu hp hφ
  ·rename_i fs hu
   split at hs <;> cases hs
   ·exact ok.runs_es ho hu (by assumption) rfl hp
   ·exact ok.runs_es ho hu (by assumption) rfl hp
   ·exact ok.runs_em ho hu (by assumption) rfl hp
   ·exact ok.runs_em ho hu (by assumption) rfl hp
  ·cases hs
 case h_12 => rename_i ho; cases hs; exact ok.runs_nt ho hp
 case h_13 => rename_i ho; split at hs <;> cases hs; exact ok.runs_ng ho hp
 case h_14 =>
  rename_i ho
  split at hs
  ·cases hs; rename_i d hs hd; exact ok.runs_cv ho ⟨_, hs⟩ hd hp
  ·split at hs <;> cases hs; simp [pv] at hp
  ·cases hs
 case h_15 => rename_i ho; cases hs; exact ok.runs_mf ho hp
 case h_16 =>
  split at hs
  ·split at hs
   ·split at hs
    ·split at hs
     ·cases hs; simp [pv] at hp
     ·cases hs
    ·cases hs
   ·cases hs
  ·cases hs
 case h_17 =>
  rename_i ho
  split at hs
  ·rename_i hu; split at hs <;> cases hs; rename_i hn; exact ok.runs_sl ho hu hn hp hφ
  ·rename_i hu; split at hs <;> cases hs; rename_i hn; exact ok.runs_sa ho hu hn hp hφ
  ·rename_i hu; split at hs <;> cases hs; exact ok.runs_ss ho hu hp hφ
  ·cases hs
 case h_18 =>
  rename_i ho
  split at hs
  ·rename_i hu
   split at hs
   ·rename_i f hf
    split at hs
    ·rename_i n hn
     split at hs
     ·rename_i h0; cases hs; exact ok.runs_fa ho hu hf hn h0 hp
     ·cases hs
    ·cases hs
   ·cases hs
  ·cases hs
 case h_19 =>
  rename_i ho
  split at hs
  ·rename_i hu
   split at hs
   ·rename_i f hf
    split at hs
    ·rename_i hn hg; cases hs; exact ok.runs_fv ho hu hf hn hg hp
    ·cases hs
   ·cases hs
  ·cases hs
 case h_20 =>
  rename_i ho
  split at hs
  ·rename_i hu; split at hs <;> cases hs; rename_i hn; exact ok.runs_ia ho hu hn hp hφ
  ·rename_i hu; split at hs <;> cases hs; rename_i hn; exact ok.runs_iaa ho hu hn hp hφ
  ·cases hs
 case h_21 =>
  rename_i ho
  split at hs
  ·rename_i hu; split at hs <;> cases hs; rename_i hn hg; exact ok.runs_iv ho hu hn hg hp hφ
  ·rename_i hu; cases hs; exact ok.runs_is ho hu hp hφ
  ·cases hs
 case h_22 => rename_i ho; cases hs; exact ok.runs_ex ho hp
 case h_23 =>
  rename_i c ho
  unfold cCall at hs
  split at hs
  ·split at hs <;> cases hs; simp [pv] at hp
  ·cases hs; simp [pv] at hp
  ·rename_i hb
   split at hs
   ·rename_i hx ht
    rw [call_eq c hb hx ht] at ho
    split at hs <;> cases hs
    ·rename_i hu; exact ok.runs_len ho hu hp
    ·rename_i hu; exact ok.runs_lens ho hu hp
    ·rename_i hu; exact Ok.runs_lena ho hu hp
   ·cases hs
  ·rename_i hb
   split at hs
   ·rename_i hx ht
    rw [call_eq c hb hx ht] at ho
    split at hs <;> cases hs
    rename_i hu; exact ok.runs_cap ho hu hp
   ·cases hs
  ·rename_i hb
   split at hs <;> cases hs
   rename_i hx
   rw [call_eq c hb hx rfl] at ho
   exact ok.runs_mm (big := true) ho hp
  ·rename_i hb
   split at hs <;> cases hs
   rename_i hx
   rw [call_eq c hb hx rfl] at ho
   exact ok.runs_mm (big := false) ho hp
  ·split at hs
   ·split at hs
    ·split at hs
     ·split at hs
      ·split at hs
       ·split at hs
        ·cases hs; simp [pv] at hp
        ·cases hs
       ·cases hs
      ·cases hs
     ·cases hs
    ·cases hs
   ·cases hs
  ·cases hs
 case h_24 => cases hs
end
def Sx (P : Program) (N : Nat) (l : List G) (e : En) (K : En → St → Prop) (L : St) : Prop :=
 ∀ (ops : Array Oper) (os : List Oper) (Q : Exit → Act → World → Prop) (a : Act) (w0 w : World),
  cL P N ops os = some l → Ok N a e → Sat w0 w L →
  (∀ a' w' e' L', K e' L' → Ok N a' e' → Sat w0 w' L' → Q .normal a' w') → wpList P ops Q os a w
section
variable {P : Program} {N : Nat} {e : En} {K : En → St → Prop} {L M F : St} {l : List G}
theorem cL_nil {ops : Array Oper} {os : List Oper} (h : cL P N ops os = some []) : os = [] := by
 cases os with
 | nil => rfl
 | cons o os =>
   simp only [cL] at h
   split at h
   ·split at h <;> cases h
   ·cases h
theorem cL_cons {ops : Array Oper} {os : List Oper} {g : G} (h : cL P N ops os = some (g :: l)) : ∃ o os', os = o :: os' ∧ cG P N ops o = some g ∧ cL P N ops os' = some l := by
 cases os with
 | nil => simp [cL] at h
 | cons o os =>
   simp only [cL] at h
   split at h
   ·rename_i g' hg
    split at h
    ·rename_i l' hl; cases h; exact ⟨o, os, rfl, hg, hl⟩
    ·cases h
   ·cases h
theorem cG_inv {ops : Array Oper} {o : Oper} {g : G} (h : cG P N ops o = some g) :
  cS P o = some g.s ∧ o.dst = g.d ∧ (∀ i, g.d = some i → i < N) ∧
  ((o.guard = none ∧ g.g = none) ∨ ∃ j want q t, o.guard = some (j, want) ∧ ops[j]? = some q ∧ q.dst = some t ∧ g.g = some (t, want)) := by
 unfold cG at h
 split at h
 ·cases h
 ·rename_i s hs
  by_cases hd : dstOk N o.dst = true
  ·rw [if_pos hd] at h
   have hd' : ∀ i, o.dst = some i → i < N := fun i hi => by rw [hi] at hd; simpa [dstOk] using hd
   split at h
   ·rename_i hg; cases h; exact ⟨hs, rfl, hd', .inl ⟨hg, rfl⟩⟩
   ·rename_i j want hg
    split at h
    ·rename_i q hq
     split at h
     ·rename_i t ht; cases h; exact ⟨hs, rfl, hd', .inr ⟨j, want, q, t, hg, hq, ht, rfl⟩⟩
     ·cases h
    ·cases h
  ·rw [if_neg hd] at h; cases h
theorem Sx.nil (h : K e L) : Sx P N [] e K L := by
 intro ops os Q a w0 w hc ok s k
 rw [cL_nil hc]
 exact k a w e L h ok s
theorem Sx.ent (h : Ent L M) (x : Sx P N l e K M) : Sx P N l e K L :=
 fun ops os Q a w0 w hc ok s k => x ops os Q a w0 w hc ok (s.ent h) k
abbrev Se_ := @Sx.ent
theorem Sx.many {α : Sort _} {f : α → St} (h : ∀ h, holds L h → ∃ x g, Hp.le g h ∧ holds (f x) g) (x : ∀ y, Sx P N l e K (f y)) : Sx P N l e K L := by
 intro ops os Q a w0 w hc ok s k
 obtain ⟨hh, H, hw⟩ := s.heap
 obtain ⟨y, g, hg, G⟩ := h hh H
 exact x y ops os Q a w0 w hc ok ⟨s.os, s.tape, s.output, s.size, g, G, fun i o hi => hw i o (hg i o hi)⟩ k
theorem Sx.pure {p : Prop} (h : ∀ h, holds L h → p) (x : p → Sx P N l e K L) : Sx P N l e K L := by
 intro ops os Q a w0 w hc ok s k
 obtain ⟨hh, H, hw⟩ := s.heap
 exact x (h hh H) ops os Q a w0 w hc ok s k
theorem Sx.step {d : Option Nat} {s : S} (h : ∀ (o : Oper) (a : Act) (w0 w : World), cS P o = some s → Ok N a e → Sat w0 w L →
   ∃ v w' L', ((execOp a.eval o).run P w = .ok (.value v) w' ∨ ((execOp a.eval o).run P w = .ok .skip w' ∧ v = undef)) ∧ Sat w0 w' L' ∧ Sx P N l (e.put d v) K L') :
  Sx P N (⟨d, none, s⟩ :: l) e K L := by
 intro ops os Q a w0 w hc ok st k
 obtain ⟨o, os', rfl, hg, hc'⟩ := cL_cons hc
 obtain ⟨hs, hd, hN, hgd⟩ := cG_inv hg
 have hgn : o.guard = none := by
  rcases hgd with ⟨h1, _⟩ | ⟨_, _, _, _, _, _, _, h2⟩
  ·exact h1
  ·cases h2
 obtain ⟨v, w', L', hr, hs', hx⟩ := h o a w0 w hs ok st
 refine wpList_plain hgn fun K' hK => ?_
 unfold Oper.wp
 have hput : Ok N (a.put o.dst v) (e.put d v) := by rw [hd]; exact ok.put d v hN
 rcases hr with hr | ⟨hr, rfl⟩
 ·rw [hr]; exact hK _ _ (hx ops os' Q _ w0 w' hc' hput hs' k)
 ·rw [hr]; exact hK _ _ (hx ops os' Q _ w0 w' hc' hput hs' k)
theorem Sx.enter {d : Option Nat} {s : S} {f : FuncId} {vs : List Value} {R : Value → St → Prop} (h : ∀ (o : Oper) (a : Act) (w : World), cS P o = some s → Ok N a e → (execOp a.eval o).run P w = .ok (.enter f vs.toArray) w)
  (hf : ∀ w0 w, Sat w0 w L → Calls P f vs.toArray w fun x w' => ∃ v L', x = .returned v ∧ R v L' ∧ Sat w0 w' L') (x : ∀ v L', R v L' → Sx P N l (e.put d v) K L') :
  Sx P N (⟨d, none, s⟩ :: l) e K L := by
 intro ops os Q a w0 w hc ok st k
 obtain ⟨o, os', rfl, hg, hc'⟩ := cL_cons hc
 obtain ⟨hs, hd, hN, hgd⟩ := cG_inv hg
 have hgn : o.guard = none := by
  rcases hgd with ⟨h1, _⟩ | ⟨_, _, _, _, _, _, _, h2⟩
  ·exact h1
  ·cases h2
 refine wpList_plain hgn fun K' hK => ?_
 unfold Oper.wp
 rw [h o a w hs ok]
 refine (hf w0 w st).mono fun en w' ⟨v, L', he, hR, hS⟩ => ?_
 subst he
 have hput : Ok N (a.put o.dst v) (e.put d v) := by rw [hd]; exact ok.put d v hN
 exact hK _ _ (x v L' hR ops os' Q _ w0 w' hc' hput hS k)
def boolOf : Value → Option Bool
 | .bool b => some b
 | _ => none
theorem yielded_of {ops : Array Oper} {a : Act} {j t : Nat} {q : Oper} {v : Value} (hq : ops[j]? = some q) (ht : q.dst = some t) (h : a.tmps[t]? = some v) :
  yielded ops a.tmps j = boolOf v := by
 unfold yielded
 rw [hq]
 simp only [Option.bind_some, ht]
 rw [h]
 cases v <;> rfl
theorem Sx.on {d : Option Nat} {s : S} {t : Nat} {b : Bool} (hb : e.get t = some (.bool b)) (x : Sx P N (⟨d, none, s⟩ :: l) e K L) : Sx P N (⟨d, some (t, b), s⟩ :: l) e K L := by
 intro ops os Q a w0 w hc ok st k
 obtain ⟨o, os', rfl, hg, hc'⟩ := cL_cons hc
 obtain ⟨hs, hd, hN, hgd⟩ := cG_inv hg
 rcases hgd with ⟨_, h1⟩ | ⟨j, want, q, t', hgo, hq, ht, h2⟩
 ·cases h1
 ·simp only [Option.some.injEq, Prod.mk.injEq] at h2
  obtain ⟨rfl, rfl⟩ := h2
  have hy := yielded_of hq ht (ok.get _ _ hb)
  have hw : Region.wanted o (yielded ops a.tmps) = true := by simp [Region.wanted, hgo, hy, boolOf]
  have hc2 : cG P N ops { o with guard := none } = some ⟨d, none, s⟩ := by
   have hs2 : cS P { o with guard := none } = some s := hs
   unfold cG
   rw [hs2]
   have hN' : dstOk N o.dst = true := by
    cases ho : o.dst with
    | none => rfl
    | some i => simpa [dstOk] using hN i (by rw [← hd, ho])
   simp only [hN', if_true]
   simp only at hd
   rw [← hd]
  have hcl : cL P N ops ({ o with guard := none } :: os') = some (⟨d, none, s⟩ :: l) := by simp [cL, hc2, hc']
  have := x ops _ Q a w0 w hcl ok st k
  simp only [wpList, Region.wanted, if_true] at this
  simp only [wpList, hw, if_true]
  exact this
def offs (e : En) (t : Nat) (b : Bool) : Bool := match e.get t with
 | some (.bool c) => c != b
 | some (.tuple _) => true
 | _ => false
theorem Sx.off {d : Option Nat} {s : S} {t : Nat} {b : Bool} (hb : offs e t b = true) (x : Sx P N l (e.put d undef) K L) : Sx P N (⟨d, some (t, b), s⟩ :: l) e K L := by
 intro ops os Q a w0 w hc ok st k
 obtain ⟨o, os', rfl, hg, hc'⟩ := cL_cons hc
 obtain ⟨hs, hd, hN, hgd⟩ := cG_inv hg
 rcases hgd with ⟨_, h1⟩ | ⟨j, want, q, t', hgo, hq, ht, h2⟩
 ·cases h1
 ·simp only [Option.some.injEq, Prod.mk.injEq] at h2
  obtain ⟨rfl, rfl⟩ := h2
  have hw : Region.wanted o (yielded ops a.tmps) = false := by
   unfold offs at hb
   split at hb
   ·rename_i c hc
    have hy := yielded_of hq ht (ok.get _ _ hc)
    simp only [Region.wanted, hgo, hy, boolOf]
    simp only [bne_iff_ne, ne_eq] at hb
    simpa using hb
   ·rename_i c hc
    have hy := yielded_of hq ht (ok.get _ _ hc)
    simp [Region.wanted, hgo, hy, boolOf]
   ·cases hb
  have hput : Ok N (a.put o.dst undef) (e.put d undef) := by rw [hd]; exact ok.put d undef hN
  simp only [wpList, hw, bf, if_false]
  exact x ops os' Q _ w0 w hc' hput st k
theorem Ok.learn {a : Act} {t : Nat} {p q : Value} (ok : Ok N a e) (h : e.get t = some p) (hq : p = q) : Ok N a ((t, q) :: e) := by
 subst hq
 refine ⟨ok.size, ok.defers, fun i v hi => ?_⟩
 have hi' : (e.put (some t) p).get i = some v := hi
 rw [En.get_put] at hi'
 by_cases ht : t = i
 ·subst ht; rw [if_pos rfl] at hi'; cases hi'; exact ok.get _ _ h
 ·rw [if_neg ht] at hi'; exact ok.get _ _ hi'
theorem Sx.learn {t : Nat} {p q : Value} (h : e.get t = some p) (hq : p = q) (x : Sx P N l ((t, q) :: e) K L) : Sx P N l e K L :=
 fun ops os Q a w0 w hc ok s k => x ops os Q a w0 w hc (ok.learn h hq) s k
theorem Sx.guard {d : Option Nat} {s : S} {t : Nat} {b p : Bool} (hb : e.get t = some (.bool p)) (x : p = b → Sx P N (⟨d, none, s⟩ :: l) ((t, .bool b) :: e) K L)
  (y : p = !b → Sx P N l (En.put ((t, .bool (!b)) :: e) d undef) K L) : Sx P N (⟨d, some (t, b), s⟩ :: l) e K L := by
 by_cases hp : p = b
 ·refine Sx.learn hb (by rw [hp]) (Sx.on (by simp [En.get]) (x hp))
 ·have hp' : p = !b := by cases p <;> cases b <;> simp_all
  refine Sx.learn hb (by rw [hp']) (Sx.off (by cases b <;> simp [offs, En.get]) (y hp'))
theorem Sx.pv {d : Option Nat} {s : S} {φ : Prop} {v : Value} (hp : pv e s = some (φ, v)) (hφ : φ) (x : Sx P N l (e.put d v) K L) : Sx P N (⟨d, none, s⟩ :: l) e K L :=
 .step fun o a w0 w hs ok st => ⟨v, w, L, .inl (ok.runs hs hp hφ w), st, x⟩
abbrev Sv := @Sx.pv
def pick (c x y : Bool) : Bool := bif c then x else y
theorem Sx.pk {d : Option Nat} {c x y : X} {p q r : Bool} (hc : c.get e = some (.bool p)) (hx : x.get e = some (.bool q)) (hy : y.get e = some (.bool r)) (k : Sx P N l (e.put d (.bool (Proofs.YtflalhdofhobmaaGreat.pick p q r))) K L) :
  Sx P N (⟨d, none, .pk c x y⟩ :: l) e K L := by
 cases p
 ·refine Sv (φ := True) (v := .bool r) ?_ trivial k
  simp only [Proofs.YtflalhdofhobmaaGreat.pv, hc, hy]
 ·refine Sv (φ := True) (v := .bool q) ?_ trivial k
  simp only [Proofs.YtflalhdofhobmaaGreat.pv, hc, hx]
theorem plain_iop {o : BinOp} {k : IntKind} {x y : Int} {φ : Prop} {v : Value} (h : iop o k x y = some (φ, v)) (hq : o ≠ .quo) (hr : o ≠ .rem) : φ := by
 cases o <;> simp only [iop, Option.some.injEq, Prod.mk.injEq, reduceCtorEq] at h <;> first | contradiction | (obtain ⟨rfl, _⟩ := h; trivial)
theorem plain_pv {s : S} (h : plain s = true) {φ : Prop} {v : Value} (hp : Proofs.YtflalhdofhobmaaGreat.pv e s = some (φ, v)) : φ := by
 cases s with
 | ib o x y =>
   have hq : o ≠ .quo := by rintro rfl; simp [plain] at h
   have hr : o ≠ .rem := by rintro rfl; simp [plain] at h
   have hl : o ≠ .shl := by rintro rfl; simp [plain] at h
   have hs : o ≠ .shr := by rintro rfl; simp [plain] at h
   simp only [Proofs.YtflalhdofhobmaaGreat.pv] at hp
   split at hp
   ·rename_i k _ k' _ _ _
    cases hk : decide (k = k') with
    | false => rw [hk] at hp; simp at hp
    | true => rw [hk] at hp; exact plain_iop hp hq hr
   ·cases hp
 | _ =>
   first
   | (simp only [plain, bf] at h; done)
   | (simp only [Proofs.YtflalhdofhobmaaGreat.pv] at hp; (repeat' split at hp) <;> first | (cases hp; done) | (cases hp; trivial) | (simp only [cond] at hp; (repeat' split at hp) <;> first | (cases hp; done) | (cases hp; trivial)))
theorem Sx.pvs : ∀ {l m : List G} {e e' : En}, Proofs.YtflalhdofhobmaaGreat.pvs l e = some (m, e') → Sx P N m e' K L → Sx P N l e K L
 | [], m, e, e', h, x => by simp [Proofs.YtflalhdofhobmaaGreat.pvs] at h
 | ⟨d, some g, s⟩ :: l, m, e, e', h, x => by simp [Proofs.YtflalhdofhobmaaGreat.pvs] at h
 | ⟨d, none, s⟩ :: l, m, e, e', h, x => by
   simp only [Proofs.YtflalhdofhobmaaGreat.pvs] at h
   cases hpl : plain s with
   | false => rw [hpl] at h; cases h
   | true =>
     rw [hpl, cond_true] at h
     split at h
     ·rename_i φ v hv
      refine Sv hv (plain_pv hpl hv) ?_
      split at h
      ·rename_i r hr; cases h; exact Sx.pvs hr x
      ·cases h; exact x
     ·cases h
end
inductive Ex
 | nm
 | ex (id : Nat)
 | rt
def Ex.exit : Ex → Exit
 | .nm => .normal
 | .ex id => .exit id
 | .rt => .ret
abbrev Kx := Ex → En → St → Prop
def Cx (P : Program) (N : Nat) (c : C) (e : En) (K : Kx) (L : St) : Prop :=
 ∀ (code : Code) (Q : Exit → Act → World → Prop) (a : Act) (w0 w : World),
  cC P N code = some c → Ok N a e → Sat w0 w L →
  (∀ x a' w' e' L', K x e' L' → Ok N a' e' → Sat w0 w' L' → Q x.exit a' w') → code.wp P Q a w
def Ksq (P : Program) (N : Nat) (b : C) (K : Kx) : Kx
 | .nm, e, L => Cx P N b e K L
 | .ex i, e, L => K (.ex i) e L
 | .rt, e, L => K .rt e L
def Kbl (id : Nat) (K : Kx) : Kx
 | .nm, e, L => K .nm e L
 | .ex i, e, L => bif Nat.beq i id then K .nm e L else K (.ex i) e L
 | .rt, e, L => K .rt e L
def Krg (K : Kx) : En → St → Prop := fun e L => K .nm e L
section
variable {P : Program} {N : Nat} {e : En} {K : Kx} {L M F : St}
theorem Cx.ent {c : C} (h : Ent L M) (x : Cx P N c e K M) : Cx P N c e K L := fun code Q a w0 w hc ok s k => x code Q a w0 w hc ok (s.ent h) k
abbrev Xe := @Cx.ent
theorem Cx.many {c : C} {α : Sort _} {f : α → St} (h : ∀ h, holds L h → ∃ x g, Hp.le g h ∧ holds (f x) g) (x : ∀ y, Cx P N c e K (f y)) : Cx P N c e K L := by
 intro code Q a w0 w hc ok s k
 obtain ⟨hh, H, hw⟩ := s.heap
 obtain ⟨y, g, hg, G⟩ := h hh H
 exact x y code Q a w0 w hc ok ⟨s.os, s.tape, s.output, s.size, g, G, fun i o hi => hw i o (hg i o hi)⟩ k
theorem Cx.pure {c : C} {p : Prop} (h : ∀ h, holds L h → p) (x : p → Cx P N c e K L) : Cx P N c e K L := by
 intro code Q a w0 w hc ok s k
 obtain ⟨hh, H, hw⟩ := s.heap
 exact x (h hh H) code Q a w0 w hc ok s k
def sub (T e : En) : Prop := ∀ i v, T.get i = some v → e.get i = some v
theorem sub.nil : sub [] e := fun _ _ h => by simp [En.get] at h
theorem sub.cons {T : En} {i : Nat} {v : Value} (h : e.get i = some v) (s : sub T e) : sub ((i, v) :: T) e := by
 intro j u hj
 have hj' : (En.put T (some i) v).get j = some u := hj
 rw [En.get_put] at hj'
 by_cases hij : i = j
 ·subst hij; rw [if_pos rfl] at hj'; cases hj'; exact h
 ·rw [if_neg hij] at hj'; exact s _ _ hj'
theorem sb1 {e : En} {i0 : Nat} {v0 : Value} (h0 : e.get i0 = some v0 := by rfl) : sub [(i0, v0)] e := sub.cons h0 sub.nil
theorem sb2 {e : En} {i0 : Nat} {v0 : Value} {i1 : Nat} {v1 : Value} (h0 : e.get i0 = some v0 := by rfl) (h1 : e.get i1 = some v1 := by rfl) : sub [(i0, v0), (i1, v1)] e := sub.cons h0 (sub.cons h1 sub.nil)
theorem sb3 {e : En} {i0 : Nat} {v0 : Value} {i1 : Nat} {v1 : Value} {i2 : Nat} {v2 : Value} (h0 : e.get i0 = some v0 := by rfl) (h1 : e.get i1 = some v1 := by rfl) (h2 : e.get i2 = some v2 := by rfl) : sub [(i0, v0), (i1, v1), (i2, v2)] e := sub.cons h0 (sub.cons h1 (sub.cons h2 sub.nil))
theorem sb4 {e : En} {i0 : Nat} {v0 : Value} {i1 : Nat} {v1 : Value} {i2 : Nat} {v2 : Value} {i3 : Nat} {v3 : Value} (h0 : e.get i0 = some v0 := by rfl) (h1 : e.get i1 = some v1 := by rfl) (h2 : e.get i2 = some v2 := by rfl) (h3 : e.get i3 = some v3 := by rfl) : sub [(i0, v0), (i1, v1), (i2, v2), (i3, v3)] e := sub.cons h0 (sub.cons h1 (sub.cons h2 (sub.cons h3 sub.nil)))
theorem sb5 {e : En} {i0 : Nat} {v0 : Value} {i1 : Nat} {v1 : Value} {i2 : Nat} {v2 : Value} {i3 : Nat} {v3 : Value} {i4 : Nat} {v4 : Value} (h0 : e.get i0 = some v0 := by rfl) (h1 : e.get i1 = some v1 := by rfl) (h2 : e.get i2 = some v2 := by rfl) (h3 : e.get i3 = some v3 := by rfl) (h4 : e.get i4 = some v4 := by rfl) : sub [(i0, v0), (i1, v1), (i2, v2), (i3, v3), (i4, v4)] e := sub.cons h0 (sub.cons h1 (sub.cons h2 (sub.cons h3 (sub.cons h4 sub.nil))))
theorem sb7 {e : En} {i0 : Nat} {v0 : Value} {i1 : Nat} {v1 : Value} {i2 : Nat} {v2 : Value} {i3 : Nat} {v3 : Value} {i4 : Nat} {v4 : Value} {i5 : Nat} {v5 : Value} {i6 : Nat} {v6 : Value} (h0 : e.get i0 = some v0 := by rfl) (h1 : e.get i1 = some v1 := by rfl) (h2 : e.get i2 = some v2 := by rfl) (h3 : e.get i3 = some v3 := by rfl) (h4 : e.get i4 = some v4 := by rfl) (h5 : e.get i5 = some v5 := by rfl) (h6 : e.get i6 = some v6 := by rfl) : sub [(i0, v0), (i1, v1), (i2, v2), (i3, v3), (i4, v4), (i5, v5), (i6, v6)] e := sub.cons h0 (sub.cons h1 (sub.cons h2 (sub.cons h3 (sub.cons h4 (sub.cons h5 (sub.cons h6 sub.nil))))))
theorem sb8 {e : En} {i0 : Nat} {v0 : Value} {i1 : Nat} {v1 : Value} {i2 : Nat} {v2 : Value} {i3 : Nat} {v3 : Value} {i4 : Nat} {v4 : Value} {i5 : Nat} {v5 : Value} {i6 : Nat} {v6 : Value} {i7 : Nat} {v7 : Value} (h0 : e.get i0 = some v0 := by rfl) (h1 : e.get i1 = some v1 := by rfl) (h2 : e.get i2 = some v2 := by rfl) (h3 : e.get i3 = some v3 := by rfl) (h4 : e.get i4 = some v4 := by rfl) (h5 : e.get i5 = some v5 := by rfl) (h6 : e.get i6 = some v6 := by rfl) (h7 : e.get i7 = some v7 := by rfl) : sub [(i0, v0), (i1, v1), (i2, v2), (i3, v3), (i4, v4), (i5, v5), (i6, v6), (i7, v7)] e := sub.cons h0 (sub.cons h1 (sub.cons h2 (sub.cons h3 (sub.cons h4 (sub.cons h5 (sub.cons h6 (sub.cons h7 sub.nil)))))))
theorem sb9 {e : En} {i0 : Nat} {v0 : Value} {i1 : Nat} {v1 : Value} {i2 : Nat} {v2 : Value} {i3 : Nat} {v3 : Value} {i4 : Nat} {v4 : Value} {i5 : Nat} {v5 : Value} {i6 : Nat} {v6 : Value} {i7 : Nat} {v7 : Value} {i8 : Nat} {v8 : Value} (h0 : e.get i0 = some v0 := by rfl) (h1 : e.get i1 = some v1 := by rfl) (h2 : e.get i2 = some v2 := by rfl) (h3 : e.get i3 = some v3 := by rfl) (h4 : e.get i4 = some v4 := by rfl) (h5 : e.get i5 = some v5 := by rfl) (h6 : e.get i6 = some v6 := by rfl) (h7 : e.get i7 = some v7 := by rfl) (h8 : e.get i8 = some v8 := by rfl) : sub [(i0, v0), (i1, v1), (i2, v2), (i3, v3), (i4, v4), (i5, v5), (i6, v6), (i7, v7), (i8, v8)] e := sub.cons h0 (sub.cons h1 (sub.cons h2 (sub.cons h3 (sub.cons h4 (sub.cons h5 (sub.cons h6 (sub.cons h7 (sub.cons h8 sub.nil))))))))
theorem sb10 {e : En} {i0 : Nat} {v0 : Value} {i1 : Nat} {v1 : Value} {i2 : Nat} {v2 : Value} {i3 : Nat} {v3 : Value} {i4 : Nat} {v4 : Value} {i5 : Nat} {v5 : Value} {i6 : Nat} {v6 : Value} {i7 : Nat} {v7 : Value} {i8 : Nat} {v8 : Value} {i9 : Nat} {v9 : Value} (h0 : e.get i0 = some v0 := by rfl) (h1 : e.get i1 = some v1 := by rfl) (h2 : e.get i2 = some v2 := by rfl) (h3 : e.get i3 = some v3 := by rfl) (h4 : e.get i4 = some v4 := by rfl) (h5 : e.get i5 = some v5 := by rfl) (h6 : e.get i6 = some v6 := by rfl) (h7 : e.get i7 = some v7 := by rfl) (h8 : e.get i8 = some v8 := by rfl) (h9 : e.get i9 = some v9 := by rfl) : sub [(i0, v0), (i1, v1), (i2, v2), (i3, v3), (i4, v4), (i5, v5), (i6, v6), (i7, v7), (i8, v8), (i9, v9)] e := sub.cons h0 (sub.cons h1 (sub.cons h2 (sub.cons h3 (sub.cons h4 (sub.cons h5 (sub.cons h6 (sub.cons h7 (sub.cons h8 (sub.cons h9 sub.nil)))))))))
theorem Ok.sub {a : Act} {T : En} (ok : Ok N a e) (s : Proofs.YtflalhdofhobmaaGreat.sub T e) : Ok N a T := ⟨ok.size, ok.defers, fun i v h => ok.get i v (s i v h)⟩
theorem Cx.less {c : C} {T : En} (s : sub T e) (x : Cx P N c T K L) : Cx P N c e K L := fun code Q a w0 w hc ok st k => x code Q a w0 w hc (ok.sub s) st k
theorem cRg_inv {ops : Array Oper} {draw : Bool} {c : C} (h : cRg P N ops draw = some c) : (draw = false ∧ ∃ l, c = .rg l ∧ cL P N ops ops.toList = some l) ∨
  (draw = true ∧ (P.follows .mixedOrders || !Region.departs ops) = true ∧ ∃ l, c = .rd l ∧ cIts P N ops [] 0 ops.toList = some l ∧ ops.toList.zipIdx.all (fun p => (direct p.1).all fun d => Nat.blt d p.2) = true) := by
 unfold cRg at h
 split at h
 ·split at h
  ·rename_i l hl; cases h; exact .inl ⟨rfl, l, rfl, hl⟩
  ·cases h
 ·split at h
  ·rename_i l hd ha hl
   cases h; exact .inr ⟨rfl, hd, l, rfl, hl, ha⟩
  ·cases h
theorem cC_sk {code : Code} (hc : cC P N code = some .sk) : code = .skip := by
 cases code with
 | skip => rfl
 | region id ops draw => rcases cRg_inv hc with ⟨_, l, h, _⟩ | ⟨_, _, l, h, _⟩ <;> cases h
 | _ => simp only [cC] at hc <;> (try (repeat' split at hc)) <;> cases hc
theorem cC_rt {code : Code} (hc : cC P N code = some .rt) : code = .ret := by
 cases code with
 | ret => rfl
 | region id ops draw => rcases cRg_inv hc with ⟨_, l, h, _⟩ | ⟨_, _, l, h, _⟩ <;> cases h
 | _ => simp only [cC] at hc <;> (try (repeat' split at hc)) <;> cases hc
theorem cC_ex {code : Code} {i : Nat} (hc : cC P N code = some (.ex i)) : code = .exit i := by
 cases code with
 | exit j => simp only [cC] at hc; cases hc; rfl
 | region id ops draw => rcases cRg_inv hc with ⟨_, l, h, _⟩ | ⟨_, _, l, h, _⟩ <;> cases h
 | _ => simp only [cC] at hc <;> (try (repeat' split at hc)) <;> cases hc
theorem cC_sq {code : Code} {c d : C} (hc : cC P N code = some (.sq c d)) : ∃ x y, code = .seq x y ∧ cC P N x = some c ∧ cC P N y = some d := by
 cases code with
 | seq x y =>
   simp only [cC] at hc
   split at hc
   ·rename_i c' d' h1 h2; cases hc; exact ⟨x, y, rfl, h1, h2⟩
   ·cases hc
 | region id ops draw => rcases cRg_inv hc with ⟨_, l, h, _⟩ | ⟨_, _, l, h, _⟩ <;> cases h
 | _ => simp only [cC] at hc <;> (try (repeat' split at hc)) <;> cases hc
theorem cC_bl {code : Code} {id : Nat} {c : C} (hc : cC P N code = some (.bl id c)) : ∃ x, code = .block id x ∧ cC P N x = some c := by
 cases code with
 | block id' x =>
   simp only [cC] at hc
   split at hc
   ·rename_i c' h1; cases hc; exact ⟨x, rfl, h1⟩
   ·cases hc
 | region id ops draw => rcases cRg_inv hc with ⟨_, l, h, _⟩ | ⟨_, _, l, h, _⟩ <;> cases h
 | _ => simp only [cC] at hc <;> (try (repeat' split at hc)) <;> cases hc
theorem cC_lp {code : Code} {c : C} (hc : cC P N code = some (.lp c)) : ∃ x, code = .loop x ∧ cC P N x = some c := by
 cases code with
 | loop x =>
   simp only [cC] at hc
   split at hc
   ·rename_i c' h1; cases hc; exact ⟨x, rfl, h1⟩
   ·cases hc
 | region id ops draw => rcases cRg_inv hc with ⟨_, l, h, _⟩ | ⟨_, _, l, h, _⟩ <;> cases h
 | _ => simp only [cC] at hc <;> (try (repeat' split at hc)) <;> cases hc
theorem cC_cd {code : Code} {x : X} {c d : C} (hc : cC P N code = some (.cd x c d)) : ∃ o p q, code = .cond o p q ∧ cX o = x ∧ cC P N p = some c ∧ cC P N q = some d := by
 cases code with
 | cond o p q =>
   simp only [cC] at hc
   split at hc
   ·rename_i c' d' h1 h2; cases hc; exact ⟨o, p, q, rfl, rfl, h1, h2⟩
   ·cases hc
 | region id ops draw => rcases cRg_inv hc with ⟨_, l, h, _⟩ | ⟨_, _, l, h, _⟩ <;> cases h
 | _ => simp only [cC] at hc <;> (try (repeat' split at hc)) <;> cases hc
theorem cC_rg {code : Code} {l : List G} (hc : cC P N code = some (.rg l)) : ∃ id ops, code = .region id ops false ∧ cL P N ops ops.toList = some l := by
 cases code with
 | region id ops draw =>
   rcases cRg_inv hc with ⟨rfl, l, h, hl⟩ | ⟨_, _, l, h, _⟩
   ·cases h; exact ⟨id, ops, rfl, hl⟩
   ·cases h
 | _ => simp only [cC] at hc <;> (try (repeat' split at hc)) <;> cases hc
theorem cC_rd {code : Code} {l : List It} (hc : cC P N code = some (.rd l)) : ∃ id ops, code = .region id ops true ∧ (P.follows .mixedOrders || !Region.departs ops) = true ∧ cIts P N ops [] 0 ops.toList = some l ∧ ops.toList.zipIdx.all (fun p => (direct p.1).all fun d => Nat.blt d p.2) = true := by
 cases code with
 | region id ops draw =>
   rcases cRg_inv hc with ⟨rfl, l, h, hl⟩ | ⟨rfl, hd, l, h, hl, ha⟩
   ·cases h
   ·cases h; exact ⟨id, ops, rfl, hd, hl, ha⟩
 | _ => simp only [cC] at hc <;> (try (repeat' split at hc)) <;> cases hc
theorem Cx.sk (h : K .nm e L) : Cx P N .sk e K L := by
 intro code Q a w0 w hc ok s k
 rw [cC_sk hc]
 exact wp_skip (k .nm a w e L h ok s)
theorem Cx.rt (h : K .rt e L) : Cx P N .rt e K L := by
 intro code Q a w0 w hc ok s k
 rw [cC_rt hc]
 exact wp_ret (k .rt a w e L h ok s)
theorem Cx.ex {i : Nat} (h : K (.ex i) e L) : Cx P N (.ex i) e K L := by
 intro code Q a w0 w hc ok s k
 rw [cC_ex hc]
 exact wp_exit (k (.ex i) a w e L h ok s)
theorem Cx.rg {l : List G} (h : Sx P N l e (Krg K) L) : Cx P N (.rg l) e K L := by
 intro code Q a w0 w hc ok s k
 obtain ⟨id, ops, rfl, hl⟩ := cC_rg hc
 exact wp_region_list (h ops ops.toList Q a w0 w hl ok s fun a' w' e' L' hk ok' s' => k .nm a' w' e' L' hk ok' s')
theorem Cx.sq {c d : C} (h : Cx P N c e (Ksq P N d K) L) : Cx P N (.sq c d) e K L := by
 intro code Q a w0 w hc ok s k
 obtain ⟨x, y, rfl, hx, hy⟩ := cC_sq hc
 refine wp_seq (h x _ a w0 w hx ok s fun z a' w' e' L' hk ok' s' => ?_)
 cases z with
 | nm => exact hk y Q a' w0 w' hy ok' s' k
 | ex i => exact k (.ex i) a' w' e' L' hk ok' s'
 | rt => exact k .rt a' w' e' L' hk ok' s'
theorem Cx.bl {id : Nat} {c : C} (h : Cx P N c e (Kbl id K) L) : Cx P N (.bl id c) e K L := by
 intro code Q a w0 w hc ok s k
 obtain ⟨x, rfl, hx⟩ := cC_bl hc
 refine wp_block (h x _ a w0 w hx ok s fun z a' w' e' L' hk ok' s' => ?_)
 cases z with
 | nm => exact k .nm a' w' e' L' hk ok' s'
 | ex i =>
   simp only [Kbl] at hk
   cases hi : Nat.beq i id with
   | true =>
     rw [hi, cond_true] at hk
     have := bq hi
     simp only [Ex.exit, Exit.inBlock, this, if_true]
     exact k .nm a' w' e' L' hk ok' s'
   | false =>
     rw [hi, cond_false] at hk
     have : i ≠ id := fun h => by subst h; simp at hi
     simp only [Ex.exit, Exit.inBlock, this, if_false]
     exact k (.ex i) a' w' e' L' hk ok' s'
 | rt => exact k .rt a' w' e' L' hk ok' s'
theorem Cx.yes {x : X} {c d : C} (hx : x.get e = some (.bool true)) (h : Cx P N c e K L) : Cx P N (.cd x c d) e K L := by
 intro code Q a w0 w hc ok s k
 obtain ⟨o, p, q, rfl, rfl, hp, hq⟩ := cC_cd hc
 exact wp_cond_true (ok.eval hx) (h p Q a w0 w hp ok s k)
theorem Cx.no {x : X} {c d : C} (hx : x.get e = some (.bool false)) (h : Cx P N d e K L) : Cx P N (.cd x c d) e K L := by
 intro code Q a w0 w hc ok s k
 obtain ⟨o, p, q, rfl, rfl, hp, hq⟩ := cC_cd hc
 exact wp_cond_false (ok.eval hx) (h q Q a w0 w hq ok s k)
theorem Cx.learn {c : C} {t : Nat} {p q : Value} (h : e.get t = some p) (hq : p = q) (x : Cx P N c ((t, q) :: e) K L) : Cx P N c e K L :=
 fun code Q a w0 w hc ok s k => x code Q a w0 w hc (ok.learn h hq) s k
theorem Cx.cd {t : Nat} {b : Bool} {c d : C} (hx : e.get t = some (.bool b)) (h1 : b = true → Cx P N c ((t, .bool true) :: e) K L) (h2 : b = false → Cx P N d ((t, .bool false) :: e) K L) : Cx P N (.cd (.t t) c d) e K L := by
 cases b
 ·exact .learn hx rfl (.no (by simp [X.get, En.get]) (h2 rfl))
 ·exact .learn hx rfl (.yes (by simp [X.get, En.get]) (h1 rfl))
def Klp {α : Type _} (K : Kx) (T : α → En) (S : α → St) (μ : α → Nat) (x : α) : Kx
 | .nm, e, L => ∃ y, sub (T y) e ∧ Ent L (S y) ∧ μ y < μ x
 | .ex i, e, L => K (.ex i) e L
 | .rt, e, L => K .rt e L
theorem Cx.lp {α : Type _} (T : α → En) (S : α → St) (μ : α → Nat) (x : α) {c : C} (hT : sub (T x) e) (hS : Ent L (S x)) (h : ∀ x, Cx P N c (T x) (Klp K T S μ x) (S x)) : Cx P N (.lp c) e K L := by
 intro code Q a w0 w hc ok s k
 obtain ⟨p, rfl, hp⟩ := cC_lp hc
 intro b kk cs
 have main : ∀ (n : Nat) (x : α) (a : Act) (w : World), μ x = n → Ok N a (T x) → Sat w0 w (S x) →
   ∃ en a' w', Q en a' w' ∧ Arrives P (lone (b.at a (.code p :: .inLoop p :: kk)) cs w) b kk cs en a' w' := by
  intro n
  induction n using Nat.strongRecOn with
  | _ n ih =>
    intro x a w hn ok s
    obtain ⟨en, a1, w1, hq, harr⟩ := h x p (Exit.then (fun a' w' => ∃ y, Ok N a' (T y) ∧ Sat w0 w' (S y) ∧ μ y < n) Q) a w0 w hp ok s (fun z a' w' e' L' hk ok' s' => by
     cases z with
     | nm => obtain ⟨y, h1, h2, h3⟩ := hk; exact ⟨y, ok'.sub h1, s'.ent h2, by omega⟩
     | ex i => exact k (.ex i) a' w' e' L' hk ok' s'
     | rt => exact k .rt a' w' e' L' hk ok' s') b (.inLoop p :: kk) cs
    cases en with
    | normal =>
      obtain ⟨y, hok, hs, hlt⟩ := hq
      obtain ⟨e2, a2, w2, hq2, harr2⟩ := ih (μ y) hlt y a1 w1 rfl hok hs
      exact ⟨e2, a2, w2, hq2, .of_steps (Steps.trans harr (.one step_inLoop)) harr2⟩
    | exit id => exact ⟨_, a1, w1, hq, .pass (x := .inLoop p) rfl (fun _ _ => .inl (by simp)) harr⟩
    | goto l => exact ⟨_, a1, w1, hq, .pass (x := .inLoop p) rfl (fun _ _ => .inl (by simp)) harr⟩
    | ret => exact ⟨_, a1, w1, hq, .pass (x := .inLoop p) rfl (fun _ _ => .inl (by simp)) harr⟩
    | panic ch => exact ⟨_, a1, w1, hq, .pass (x := .inLoop p) rfl (fun _ _ => .inl (by simp)) harr⟩
    | outgrown => exact ⟨_, a1, w1, hq, .pass (x := .inLoop p) rfl (fun _ _ => .inl (by simp)) harr⟩
 obtain ⟨en, a', w', hq, harr⟩ := main _ x a w rfl (ok.sub hT) (s.ent hS)
 exact ⟨en, a', w', hq, .of_steps (.one step_loop) harr⟩
def Rv (P : Program) (N : Nat) (rs : List RV) (e : En) (L : St) (v : Value) : Prop :=
 ∀ (fn : Func) (a : Act) (w0 w : World), cRs P fn.results.toList = some rs → Ok N a e → Sat w0 w L → (results fn a.tmps).run P w = .ok v w
def Kr (P : Program) (N : Nat) (rs : List RV) (R : Value → St → Prop) : Kx := fun x e L => (x = .nm ∨ x = .rt) ∧ ∃ v L', Rv P N rs e L v ∧ Ent L L' ∧ R v L'
def Fx (P : Program) (f : FuncId) (vs : List Value) (L : St) (R : Value → St → Prop) : Prop :=
 ∀ w0 w, Sat w0 w L → Calls P f vs.toArray w fun x w' => ∃ v L', x = .returned v ∧ R v L' ∧ Sat w0 w' L'
def envOf : Nat → List Value → En
 | _, [] => []
 | i, v :: l => (i, v) :: envOf (i + 1) l
theorem envOf_get : ∀ (vs : List Value) (i j : Nat) (v : Value), (envOf i vs).get j = some v → i ≤ j ∧ vs[j - i]? = some v
 | [], i, j, v, h => by simp [envOf, En.get] at h
 | u :: vs, i, j, v, h => by
   have h' : (En.put (envOf (i + 1) vs) (some i) u).get j = some v := h
   rw [En.get_put] at h'
   by_cases hij : i = j
   ·subst hij; rw [if_pos rfl] at h'; cases h'; exact ⟨Nat.le_refl _, by simp⟩
   ·rw [if_neg hij] at h'
    obtain ⟨h1, h2⟩ := envOf_get vs (i + 1) j v h'
    refine ⟨by omega, ?_⟩
    rw [show j - i = (j - (i + 1)) + 1 by omega, List.getElem?_cons_succ]
    exact h2
theorem Fx.mk {f : FuncId} {fn : Func} {fu : Fu} {vs : List Value} {R : Value → St → Prop} (hf : P.funcs[f]? = some fn) (hc : cF P fn = some fu) (hl : vs.length ≤ fu.n)
  (h : Cx P fu.n fu.c (envOf 0 vs) (Kr P fu.n fu.rs R) L) : Fx P f vs L R := by
 intro w0 w s
 unfold cF at hc
 split at hc
 ·rename_i b hb
  split at hc
  ·rename_i c rs hcc hrs; cases hc
   refine calls_of_wp hf hb (h b _ _ w0 w hcc ⟨?_, rfl, ?_⟩ s ?_)
   ·simp; simp at hl; omega
   ·intro i v hi
    obtain ⟨_, hv⟩ := envOf_get vs 0 i v hi
    simp only [Nat.sub_zero] at hv
    have hlt : i < vs.length := by
     rcases Nat.lt_or_ge i vs.length with h | h
     ·exact h
     ·rw [List.getElem?_eq_none h] at hv; cases hv
    simp only
    rw [Array.getElem?_append_left (by simpa using hlt)]
    simpa using hv
   ·rintro x a' w' e' L' ⟨hx, v, L2, hv, hL, hR⟩ ok' s'
    have hr := hv fn a' w0 w' hrs ok' s'
    rcases hx with rfl | rfl <;> exact ⟨ok'.defers, v, hr, v, L2, rfl, hR, s'.ent hL⟩
  ·cases hc
 ·cases hc
def eL : List Value → En
  | [] => []
  | [a] => [(0, a)]
  | [a, b] => [(0, a), (1, b)]
  | [a, b, c] => [(0, a), (1, b), (2, c)]
  | [a, b, c, d] => [(0, a), (1, b), (2, c), (3, d)]
  | [a, b, c, d, e] => [(0, a), (1, b), (2, c), (3, d), (4, e)]
  | [a, b, c, d, e, f] => [(0, a), (1, b), (2, c), (3, d), (4, e), (5, f)]
  | l => envOf 0 l
theorem eL_eq (l : List Value) : eL l = envOf 0 l := by unfold eL; split <;> rfl
theorem Fm {P : Program} {L : St} {f : FuncId} {fn : Func} {fu : Fu} {vs : List Value} {R : Value → St → Prop} (hf : P.funcs[f]? = some fn) (hc : cF P fn = some fu)
  (h : Cx P fu.n fu.c (eL vs) (Kr P fu.n fu.rs R) L) (hl : vs.length ≤ fu.n := by exact nb_) : Fx P f vs L R := Fx.mk hf hc hl (by rw [← eL_eq]; exact h)
abbrev zp (b : Nat) : Value := .pointer (ad b)
abbrev ii (n : Int) : Value := .int .i64 n
theorem Fx.ent {f : FuncId} {vs : List Value} {R : Value → St → Prop} (h : Ent L M) (x : Fx P f vs M R) : Fx P f vs L R := fun w0 w s => x w0 w (s.ent h)
theorem Fx.mono {f : FuncId} {vs : List Value} {R R' : Value → St → Prop} (x : Fx P f vs L R) (h : ∀ v L', R v L' → R' v L') : Fx P f vs L R' :=
 fun w0 w s => (x w0 w s).mono fun _ _ ⟨v, L', e, r, s'⟩ => ⟨v, L', e, h v L' r, s'⟩
theorem cRs_one {rs : List ResultVar} {t : Nat} (h : cRs P rs = some [.t t]) : rs = [.tmp t] := by
 match rs with
 | [] => simp [cRs] at h
 | r :: l =>
   simp only [cRs] at h
   split at h
   ·rename_i r' hr
    split at h
    ·rename_i l' hl; cases h
     have h1 : l = [] := by
      match l with
      | [] => rfl
      | q :: l => simp only [cRs] at hl; (repeat' split at hl) <;> cases hl
     subst h1
     cases r with
     | tmp t => simp [cR] at hr; rw [hr]
     | cell a t => simp only [cR] at hr; split at hr <;> cases hr
    ·cases h
   ·cases h
theorem cRs_tmps : ∀ {rs : List ResultVar} {ts : List Nat}, cRs P rs = some (ts.map .t) → rs = ts.map .tmp
 | [], ts, h => by
   cases ts with
   | nil => rfl
   | cons t ts => simp [cRs] at h
 | r :: l, ts, h => by
   simp only [cRs] at h
   split at h
   ·rename_i r' hr
    split at h
    ·rename_i l' hl
     cases ts with
     | nil => simp at h
     | cons t ts =>
       simp only [List.map_cons, Option.some.injEq, List.cons.injEq] at h
       obtain ⟨rfl, rfl⟩ := h
       rw [cRs_tmps hl]
       cases r with
       | tmp t' => simp [cR] at hr; simp [hr]
       | cell a t' => simp only [cR] at hr; split at hr <;> cases hr
    ·cases h
   ·cases h
theorem Rv.one {t : Nat} {v : Value} (h : e.get t = some v) : Rv P N [.t t] e L v := by
 intro fn a w0 w hr ok s
 have : fn.results = #[.tmp t] := by apply Array.ext'; simpa using cRs_one hr
 rw [results_tmp this]
 have := ok.get _ _ h
 simp [this]
theorem Rv.none : Rv P N [] e L (.tuple #[]) := by
 intro fn a w0 w hr ok s
 have h0 : fn.results = #[] := by
  apply Array.ext'
  have : cRs P fn.results.toList = some (([] : List Nat).map .t) := hr
  simpa using cRs_tmps this
 exact results_none h0 _ P w
def getAll (e : En) : List Nat → Option (List Value)
 | [] => some []
 | t :: l => match e.get t with
   | some v => match getAll e l with
     | some vs => some (v :: vs)
     | none => none
   | none => none
theorem getAll_eq {a : Act} (ok : Ok N a e) : ∀ {ts : List Nat} {vs : List Value}, getAll e ts = some vs → ts.map (fun t => a.tmps.getD t undef) = vs
 | [], vs, h => by simp [getAll] at h; simp [h]
 | t :: ts, vs, h => by
   simp only [getAll] at h
   split at h
   ·rename_i v hv
    split at h
    ·rename_i us hu; cases h
     have := ok.get _ _ hv
     have h2 := getAll_eq ok hu
     simp only [List.map_cons, h2]
     simp [this]
    ·cases h
   ·cases h
theorem run_pures (P : Program) (w : World) (g : Nat → Value) : ∀ (ts : List Nat), (ts.mapM fun t => (Pure.pure (g t) : Sem Value)).run P w = .ok (ts.map g) w
 | [] => rfl
 | t :: ts => by
   simp only [List.map_cons, List.mapM_cons, Sem.run_bind, Sem.run_pure, Result.andThen_ok, run_pures P w g ts]
theorem Rv.more {ts : List Nat} {vs : List Value} (h : getAll e ts = some vs) (h2 : ts.length ≠ 1) : Rv P N (ts.map .t) e L (.tuple vs.toArray) := by
 intro fn a w0 w hr ok s
 have hr' := cRs_tmps hr
 have h3 := getAll_eq ok h
 have hlen : vs.length ≠ 1 := by rw [← h3]; simpa using h2
 unfold results
 rw [Array.mapM_eq_mapM_toList, hr']
 simp only [Sem.run_bind, Sem.run_map, List.mapM_map]
 have key := run_pures P w (fun t => a.tmps.getD t undef) ts
 rw [h3] at key
 refine (congrArg (fun r => Result.andThen (Result.andThen r _) _) key).trans ?_
 simp [hlen]
end
section
variable {P : Program} {N : Nat} {e : En} {K : En → St → Prop} {L M F : St} {l : List G}
def Has (L : St) (b off : Nat) (vs : List Value) : Prop := ∀ w0 w, Sat w0 w L → ∀ j v, vs[j]? = some v → w.cell? ⟨b, off + j, none⟩ = some v
def ldv (n : Nat) (g : Bool) (vs : List Value) : Option Value :=
 match g, vs with
 | true, vs => bif Nat.beq vs.length n then some (.agg vs.toArray) else none
 | false, [v] => some v
 | _, _ => none
theorem cS_ld {o : Oper} {x : X} {n : Nat} {g : Bool} (h : cS P o = some (.ld x n g)) : ∃ t y, o.op = .load t y ∧ cX y = x ∧ isAggT P t = some g ∧ szT P t = some n := by
 unfold cS at h
 split at h
 case h_8 => rename_i t y ho; split at h <;> cases h; exact ⟨t, y, ho, rfl, by assumption, by assumption⟩
 case h_23 => unfold cCall at h; (repeat' split at h) <;> cases h
 all_goals ((repeat' split at h) <;> cases h)
theorem ld_run {a : Act} {w : World} {o : Oper} {t : TypeId} {y : Operand} {n : Nat} {g : Bool} {b off : Nat} {vs : List Value} {v : Value} (ho : o.op = .load t y) (hg : isAggT P t = some g) (hs : szT P t = some n)
  (hx : a.eval y = .pointer (some ⟨b, off, none⟩)) (hc : ∀ j v, vs[j]? = some v → w.cell? ⟨b, off + j, none⟩ = some v) (hv : ldv n g vs = some v) : (execOp a.eval o).run P w = .ok (.value v) w := by
 cases g
 ·unfold ldv at hv
  split at hv
  ·contradiction
  ·cases hv
   have h0 := hc 0 v rfl
   simp only [Nat.add_zero] at h0
   simp [execOp, ho, hx, Instr.loadAt, Instr.sureAddr, loadVar, isAggT_eq hg, h0]
  ·cases hv
 ·simp only [ldv] at hv
  cases hb : Nat.beq vs.length n with
  | false => rw [hb] at hv; cases hv
  | true =>
    rw [hb] at hv; cases hv
    have hn := bq hb
    have hl := run_loadCells_list (P := P) w ⟨b, off, none⟩ vs (fun j v hj => by rw [partPlace]; exact hc j v hj)
    rw [hn] at hl
    simp [execOp, ho, hx, Instr.loadAt, Instr.sureAddr, loadVar, isAggT_eq hg, szT_eq hs, hl]
theorem Sx.ld {d : Option Nat} {x : X} {n b off : Nat} {g : Bool} {vs : List Value} {v : Value} (hx : x.get e = some (.pointer (some ⟨b, off, none⟩))) (hh : Has L b off vs) (hv : ldv n g vs = some v) (k : Sx P N l (e.put d v) K L) :
  Sx P N (⟨d, none, .ld x n g⟩ :: l) e K L :=
 .step fun o a w0 w hs ok st => by
  obtain ⟨t, y, ho, rfl, hg, hn⟩ := cS_ld hs
  exact ⟨v, w, L, .inl (ld_run ho hg hn (ok.eval hx) (hh w0 w st) hv), st, k⟩
theorem Has.blk {b : Nat} {T : TypeId} {cs : List Value} {off n : Nat} [t : Take L (ad b) (Blk T cs) F] : Has L b off ((cs.drop off).take n) := by
 intro w0 w s j v hj
 have hb := s.blk (g := b) (T := T) (cs := cs)
 rw [List.getElem?_take] at hj
 split at hj
 ·rw [List.getElem?_drop] at hj
  simp [World.cell?, hb, hj]
 ·cases hj
theorem Sat.row {w0 w : World} {b E sz n cap : Nat} {xs : List Value} [t : Take L (ad b) (Row E sz n cap xs) F] (s : Sat w0 w L) :
  ∃ cur, w.heap[b]? = some (.cells cur E (0, 0)) ∧ xs.length = n * sz ∧ n ≤ cap ∧ cap ≤ maxLen ∧ cur.size = cap * sz ∧ cur.toList.take (n * sz) = xs := by
 obtain ⟨g', k, d, hp, hl, h1, h2⟩ := (s.ent (Eo t.out)).head
 obtain ⟨hx, h | ⟨g1, cur, e1, rfl, r⟩⟩ := hp
 ·cases h.1
 ·cases e1
  exact ⟨cur, h1 _ _ (Hp.one_same _ _), hx, r⟩
theorem Has.row {b E sz n cap : Nat} {xs : List Value} {off m : Nat} [t : Take L (ad b) (Row E sz n cap xs) F] : Has L b off ((xs.drop off).take m) := by
 intro w0 w s j v hj
 obtain ⟨cur, hb, hx, h1, h2, h3, h4⟩ := s.row (b := b)
 rw [List.getElem?_take] at hj
 split at hj
 ·rw [List.getElem?_drop, ← h4, List.getElem?_take] at hj
  split at hj
  ·simp only [Array.getElem?_toList] at hj
   simp [World.cell?, hb, hj]
  ·cases hj
 ·cases hj
theorem Has.one {b off : Nat} {v : Value} {vs : List Value} (h : Has L b off vs) (e : vs = [v]) : Has L b off [v] := e ▸ h
theorem take_one {cs : List Value} {off : Nat} {v : Value} (h : cs[off]? = some v) : (cs.drop off).take 1 = [v] := by
 have hlt : off < cs.length := by
  rcases Nat.lt_or_ge off cs.length with h' | h'
  ·exact h'
  ·rw [List.getElem?_eq_none h'] at h; cases h
 rw [List.getElem?_eq_getElem hlt] at h; cases h
 rw [List.drop_eq_getElem_cons hlt]
 simp only [List.take_succ_cons, List.take_zero]
theorem Sx.ldb {d : Option Nat} {x : X} {b off : Nat} {T : TypeId} {cs : List Value} {v : Value} [t : Take L (ad b) (Blk T cs) F] (hx : x.get e = some (.pointer (some ⟨b, off, none⟩))) (hv : cs[off]? = some v)
  (k : Sx P N l (e.put d v) K L) : Sx P N (⟨d, none, .ld x 1 false⟩ :: l) e K L :=
 .ld hx ((Has.blk (T := T) (cs := cs) (n := 1)).one (take_one hv)) rfl k
theorem Sx.ldbs {d : Option Nat} {x : X} {b off n : Nat} {T : TypeId} {cs : List Value} [t : Take L (ad b) (Blk T cs) F] (hx : x.get e = some (.pointer (some ⟨b, off, none⟩))) (hn : Nat.ble (off + n) cs.length = true)
  (k : Sx P N l (e.put d (.agg ((cs.drop off).take n).toArray)) K L) : Sx P N (⟨d, none, .ld x n true⟩ :: l) e K L := by
 refine .ld hx (Has.blk (T := T) (cs := cs) (n := n)) ?_ k
 have h1 := Nat.le_of_ble_eq_true hn
 have h2 : ((cs.drop off).take n).length = n := by simp; omega
 simp [ldv, h2]
theorem Sx.ldr {d : Option Nat} {x : X} {b off E sz n cap : Nat} {xs : List Value} {v : Value} [t : Take L (ad b) (Row E sz n cap xs) F] (hx : x.get e = some (.pointer (some ⟨b, off, none⟩))) (hv : xs[off]? = some v)
  (k : Sx P N l (e.put d v) K L) : Sx P N (⟨d, none, .ld x 1 false⟩ :: l) e K L :=
 .ld hx ((Has.row (E := E) (sz := sz) (n := n) (cap := cap) (xs := xs) (m := 1)).one (take_one hv)) rfl k
theorem cS_st {o : Oper} {x v : X} {n : Nat} (h : cS P o = some (.st x v n)) : ∃ t y z, o.op = .store t y z ∧ cX y = x ∧ cX z = v ∧ szT P t = some n := by
 unfold cS at h
 split at h
 case h_9 => rename_i t y z ho; split at h <;> cases h; rename_i h1; exact ⟨t, y, z, ho, rfl, rfl, h1⟩
 case h_23 => unfold cCall at h; (repeat' split at h) <;> cases h
 all_goals ((repeat' split at h) <;> cases h)
def ones (vs : List Value) : Bool := vs.all (·.oneCell')
theorem st_run {a : Act} {w : World} {o : Oper} {t : TypeId} {y z : Operand} {n : Nat} {b off : Nat} {u : Value} {vs : List Value} {cur : Array Value} {T : TypeId} (ho : o.op = .store t y z) (hs : szT P t = some n)
  (hy : a.eval y = .pointer (some ⟨b, off, none⟩)) (hz : a.eval z = u) (hu : cellsOf u = some vs) (hn : vs.length = n) (h1 : ones vs = true) (hb : w.heap[b]? = some (.cells cur T (0, 0))) (hl : off + n ≤ cur.size) :
  (execOp a.eval o).run P w = .ok .skip (w.setRow b (lay cur.toList off vs).toArray) := by
 have hcs : u.cells.toList = vs := cellsOf_eq hu
 have hsz : u.cells.size = n := by rw [← hn, ← hcs]; simp
 have hst := run_storeCells_at P b off T vs 0 cur w hb (by omega) (by simpa [ones] using h1)
 simp only [Nat.add_zero] at hst
 simp [execOp, ho, hy, hz, Instr.storeAt, Instr.sureAddr, storeVar, szT_eq hs, hsz, hcs, hst, lay]
theorem Sx.st {d : Option Nat} {x v : X} {b off n : Nat} {T : TypeId} {cs vs : List Value} {u : Value} [t : Take L (ad b) (Blk T cs) F] (hx : x.get e = some (.pointer (some ⟨b, off, none⟩))) (hv : v.get e = some u)
  (hu : cellsOf u = some vs) (hn : vs.length = n) (h1 : ones vs = true) (hl : Nat.ble (off + n) cs.length = true) (k : Sx P N l (e.put d undef) K (pt (ad b) (Blk T (lay cs off vs)) :: F)) :
  Sx P N (⟨d, none, .st x v n⟩ :: l) e K L :=
 .step fun o a w0 w hs ok st => by
  obtain ⟨t', y, z, ho, rfl, rfl, hsz⟩ := cS_st hs
  have hb := st.blk (g := b) (T := T) (cs := cs)
  refine ⟨undef, _, _, .inr ⟨st_run ho hsz (ok.eval hx) (ok.eval hv) hu hn h1 hb (by simpa using Nat.le_of_ble_eq_true hl), rfl⟩, ?_, k⟩
  exact Sat.turn (t := t) st _ rfl rfl rfl (size_setRow _ _ _) (setRow_heap w b _ _ T _ hb) (fun k hk => setRow_other w b k _ hk)
theorem Sx.stb {d : Option Nat} {x v : X} {b off : Nat} {T : TypeId} {cs ds : List Value} {u : Value} [t : Take L (ad b) (Blk T cs) F] (hx : x.get e = some (.pointer (some ⟨b, off, none⟩))) (hv : v.get e = some u)
  (hu : cellsOf u = some [u]) (h1 : u.oneCell' = true) (hl : Nat.blt off cs.length = true) (hd : cs.set off u = ds) (k : Sx P N l (e.put d undef) K (pt (ad b) (Blk T ds) :: F)) :
  Sx P N (⟨d, none, .st x v 1⟩ :: l) e K L := by
 have hl' : off < cs.length := by simpa using hl
 refine Sx.st (T := T) (cs := cs) hx hv hu rfl (by simp [ones, h1]) (Nat.ble_eq_true_of_le hl') ?_
 have : lay cs off [u] = ds := by
  rw [← hd]
  have := lay_cons cs off u [] (by simp; omega)
  rw [← this, lay_nil]
 rw [this]; exact k
theorem Sat.turnRow {w0 w w' : World} {b E sz n cap : Nat} {xs ys : List Value} {new : Array Value} [t : Take L (ad b) (Row E sz n cap xs) F] (s : Sat w0 w L)
  (ho : w'.os = w.os) (ht : w'.tape = w.tape) (hu : w'.output = w.output) (hz : w'.heap.size = w.heap.size) (hg : w'.heap[b]? = some (.cells new E (0, 0))) (hk : ∀ k, k ≠ b → w'.heap[k]? = w.heap[k]?)
  {m : Nat} (hm : m ≤ cap) (hx : ys.length = m * sz) (hs : new.size = cap * sz) (hy : new.toList.take (m * sz) = ys) : Sat w0 w' (pt (ad b) (Row E sz m cap ys) :: F) := by
 obtain ⟨g', k, d, hp, hl, h1, h2⟩ := (s.ent (Eo t.out)).head
 obtain ⟨_, h | ⟨g1, cur', e1, rfl, r1, r2, r3, r4⟩⟩ := hp
 ·cases h.1
 ·cases e1
  have dk := Hp.one_apart.1 d
  refine ⟨ho.trans s.os, ht.trans s.tape, hu.trans s.output, by rw [hz]; exact s.size, (Hp.one b (.cells new E (0, 0))).join k,
   ⟨_, k, Hp.one_apart.2 dk, rfl, ⟨hx, .inr ⟨b, new, rfl, rfl, hm, r2, hs, hy⟩⟩, hl⟩, fun i o ei => ?_⟩
  rcases Hp.join_some ei with ej | ej
  ·obtain ⟨rfl, rfl⟩ := Hp.one_some ej
   exact hg
  ·have : i ≠ b := fun h => by subst h; rw [dk] at ej; cases ej
   rw [hk i this]
   exact h2 _ _ ej
theorem lay_take {cs : List Value} {off n : Nat} {vs : List Value} (h : off + vs.length ≤ n) (hn : n ≤ cs.length) : (lay cs off vs).take n = lay (cs.take n) off vs := by
 unfold lay
 have hA : (cs.take off ++ vs).length = off + vs.length := by simp; omega
 rw [List.take_append, hA, List.take_of_length_le (by omega), List.take_take, List.drop_take, Nat.min_eq_left (by omega)]
theorem Sx.str {d : Option Nat} {x v : X} {b off n E sz m cap : Nat} {xs vs ys : List Value} {u : Value} [t : Take L (ad b) (Row E sz m cap xs) F] (hx : x.get e = some (.pointer (some ⟨b, off, none⟩))) (hv : v.get e = some u)
  (hu : cellsOf u = some vs) (hn : vs.length = n) (h1 : ones vs = true) (hl : off + n ≤ xs.length) (hy : lay xs off vs = ys) (k : Sx P N l (e.put d undef) K (pt (ad b) (Row E sz m cap ys) :: F)) :
  Sx P N (⟨d, none, .st x v n⟩ :: l) e K L :=
 .step fun o a w0 w hs ok st => by
  obtain ⟨t', y, z, ho, rfl, rfl, hsz⟩ := cS_st hs
  obtain ⟨cur, hb, hxl, h2, h3, h4, h5⟩ := st.row (b := b) (E := E) (sz := sz) (n := m) (cap := cap) (xs := xs)
  have hcur : off + n ≤ cur.size := by
   have : xs.length ≤ cur.toList.length := by rw [← h5]; simp only [List.length_take]; exact Nat.min_le_right _ _
   simp at this; omega
  have hmsz : m * sz ≤ cap * sz := Nat.mul_le_mul_right _ h2
  refine ⟨undef, _, _, .inr ⟨st_run ho hsz (ok.eval hx) (ok.eval hv) hu hn h1 hb hcur, rfl⟩, ?_, k⟩
  refine Sat.turnRow (t := t) (w' := w.setRow b (lay cur.toList off vs).toArray) (new := (lay cur.toList off vs).toArray) st rfl rfl rfl (size_setRow _ _ _) (setRow_heap w b _ _ E _ hb) (fun k hk => setRow_other w b k _ hk) h2 ?_ ?_ ?_
  ·rw [← hy, length_lay _ _ _ (by omega)]; exact hxl
  ·simp only [List.size_toArray]; rw [length_lay _ _ _ (by simp; omega)]; simpa using h4
  ·simp only [List.toList_toArray]
   rw [lay_take (by omega) (by simp; omega), h5, hy]
theorem cS_al {o : Oper} {E : TypeId} {z : List Value} (h : cS P o = some (.al E z)) : o.op = .alloc E ∧ zeroT P E = some z := by
 unfold cS at h
 split at h
 case h_4 => rename_i t ho; split at h <;> cases h; rename_i h1; exact ⟨ho, h1⟩
 case h_23 => unfold cCall at h; (repeat' split at h) <;> cases h
 all_goals ((repeat' split at h) <;> cases h)
theorem cS_bx {o : Oper} {E : TypeId} {x : X} (h : cS P o = some (.bx E x)) : ∃ y, o.op = .box E y ∧ cX y = x := by
 unfold cS at h
 split at h
 case h_5 => rename_i t y ho; cases h; exact ⟨y, ho, rfl⟩
 case h_23 => unfold cCall at h; (repeat' split at h) <;> cases h
 all_goals ((repeat' split at h) <;> cases h)
theorem Sx.al {d : Option Nat} {E : TypeId} {z : List Value} (k : ∀ g, Sx P N l (e.put d (zp g)) K (pt (ad g) (Blk E z) :: L)) : Sx P N (⟨d, none, .al E z⟩ :: l) e K L :=
 .step fun o a w0 w hs ok st => by
  obtain ⟨ho, hz⟩ := cS_al hs
  obtain ⟨i, u, hi, hzu, rfl⟩ := zeroT_eq hz
  refine ⟨_, _, _, .inl ?_, st.alloc E u.cells.toList, k w.heap.size⟩
  simp [execOp, ho, Instr.alloc, zeroValue_eq hi hzu, newVar, newRow]
theorem Sx.bx {d : Option Nat} {E : TypeId} {x : X} {u : Value} {vs : List Value} (hx : x.get e = some u) (hu : cellsOf u = some vs) (k : ∀ g, Sx P N l (e.put d (zp g)) K (pt (ad g) (Blk E vs) :: L)) :
  Sx P N (⟨d, none, .bx E x⟩ :: l) e K L :=
 .step fun o a w0 w hs ok st => by
  obtain ⟨y, ho, rfl⟩ := cS_bx hs
  have hcs : u.cells.toList = vs := cellsOf_eq hu
  refine ⟨_, _, _, .inl ?_, st.alloc E vs, k w.heap.size⟩
  subst hcs
  simp [execOp, ho, ok.eval hx, Instr.box, newVar, newRow]
theorem cS_ca {o : Oper} {f : FuncId} {xs : List X} (h : cS P o = some (.ca f xs)) : ∃ c, o.op = .call c ∧ c.callee = .value (.func f) ∧ c.args.toList.map cX = xs ∧ callable P f = true := by
 unfold cS at h
 split at h
 case h_23 =>
  rename_i c ho
  unfold cCall at h
  split at h
  case h_1 => rename_i f' hf; split at h <;> cases h; rename_i hc; exact ⟨c, ho, hf, rfl, hc⟩
  all_goals ((repeat' split at h) <;> cases h)
 all_goals ((repeat' split at h) <;> cases h)
theorem cS_cl {o : Oper} {x : X} {xs : List X} (h : cS P o = some (.cl x xs)) : ∃ c t, o.op = .call c ∧ c.callee = .value (.tmp t) ∧ x = .t t ∧ c.args.toList.map cX = xs := by
 unfold cS at h
 split at h
 case h_23 =>
  rename_i c ho
  unfold cCall at h
  split at h
  case h_2 => rename_i t ht; cases h; exact ⟨c, t, ho, ht, rfl, rfl⟩
  all_goals ((repeat' split at h) <;> cases h)
 all_goals ((repeat' split at h) <;> cases h)
theorem callFunc_run {f : FuncId} (h : callable P f = true) (args : Array Value) (w : World) : (callFunc f args).run P w = .ok (.enter f args) w := by
 unfold callable at h
 split at h
 ·rename_i fn hf
  simp only [Bool.and_eq_true, Bool.not_eq_true', beq_eq_false_iff_ne] at h
  have h1 : fn.body ≠ none := by cases hb : fn.body <;> simp_all
  have h2 : ¬ fn.name = "runtime.NumGoroutine" := by simpa using h.2
  simp [callFunc, hf, h2, h1]
 ·cases h
theorem Sx.ca {d : Option Nat} {f : FuncId} {xs : List X} {vs : List Value} {R : Value → St → Prop} (hx : gets e xs = some vs) (hf : Fx P f vs L R) (k : ∀ v L', R v L' → Sx P N l (e.put d v) K L') : Sx P N (⟨d, none, .ca f xs⟩ :: l) e K L :=
 .enter (f := f) (vs := vs) (fun o a w hs ok => by
  obtain ⟨c, ho, hc, rfl, hcl⟩ := cS_ca hs
  have h1 := ok.evals hx
  have h1' : c.args.map a.eval = vs.toArray := by apply Array.ext'; simpa using h1
  simp [execOp, ho, resolve, hc, Act.eval, Deferred.ofValue, invoke, h1', callFunc_run hcl]) hf k
abbrev Sa := @Sx.ca
theorem Sx.cl {d : Option Nat} {x : X} {xs : List X} {f : FuncId} {p q : List Value} {vs : List Value} {R : Value → St → Prop} (hx : x.get e = some (.func (.func f) p.toArray q.toArray)) (hc : callable P f = true) (hv : gets e xs = some vs)
  (hf : Fx P f (p ++ vs ++ q) L R) (k : ∀ v L', R v L' → Sx P N l (e.put d v) K L') : Sx P N (⟨d, none, .cl x xs⟩ :: l) e K L :=
 .enter (f := f) (vs := p ++ vs ++ q) (fun o a w hs ok => by
  obtain ⟨c, t, ho, hct, rfl, rfl⟩ := cS_cl hs
  have h1 := ok.evals hv
  have h1' : c.args.map a.eval = vs.toArray := by apply Array.ext'; simpa using h1
  have h2 : a.eval (.tmp t) = .func (.func f) p.toArray q.toArray := ok.eval (x := .tmp t) hx
  simp [execOp, ho, resolve, hct, h2, Deferred.ofValue, invoke, h1', callFunc_run hc]) hf k
end
section
variable {P : Program} {N : Nat} {e : En} {K : Kx} {L : St} {k : En → St → Prop} {l : List G}
theorem Cx.cyes {t : Nat} {b : Bool} {c d : C} (hx : e.get t = some (.bool b)) (hb : b = true) (h : Cx P N c ((t, .bool true) :: e) K L) : Cx P N (.cd (.t t) c d) e K L := .cd hx (fun _ => h) (fun h' => by rw [hb] at h'; cases h')
abbrev Xy := @Cx.cyes
theorem Cx.cno {t : Nat} {b : Bool} {c d : C} (hx : e.get t = some (.bool b)) (hb : b = false) (h : Cx P N d ((t, .bool false) :: e) K L) : Cx P N (.cd (.t t) c d) e K L := .cd hx (fun h' => by rw [hb] at h'; cases h') (fun _ => h)
abbrev Xn := @Cx.cno
theorem Cx.ifp {t : Nat} {p : Prop} {i : Decidable p} {c d : C} (hx : e.get t = some (.bool (@decide p i))) (h1 : p → Cx P N c ((t, .bool true) :: e) K L) (h2 : ¬ p → Cx P N d ((t, .bool false) :: e) K L) : Cx P N (.cd (.t t) c d) e K L :=
 .cd hx (fun h => h1 (of_decide_eq_true h)) (fun h => h2 (of_decide_eq_false h))
abbrev Xi := @Cx.ifp
theorem Cx.ifn {t : Nat} {p : Prop} {i : Decidable p} {c d : C} (hx : e.get t = some (.bool (!(@decide p i)))) (h1 : ¬ p → Cx P N c ((t, .bool true) :: e) K L) (h2 : p → Cx P N d ((t, .bool false) :: e) K L) : Cx P N (.cd (.t t) c d) e K L :=
 .cd hx (fun h => h1 (by simpa using h)) (fun h => h2 (by simpa using h))
theorem Sx.gyes {d : Option Nat} {s : S} {t : Nat} {b p : Bool} (hx : e.get t = some (.bool p)) (hb : p = b) (h : Sx P N (⟨d, none, s⟩ :: l) ((t, .bool b) :: e) k L) : Sx P N (⟨d, some (t, b), s⟩ :: l) e k L :=
 .guard hx (fun _ => h) (fun h' => by rw [hb] at h'; cases b <;> cases h')
theorem Sx.gno {d : Option Nat} {s : S} {t : Nat} {b p : Bool} (hx : e.get t = some (.bool p)) (hb : p = !b) (h : Sx P N l (En.put ((t, .bool (!b)) :: e) d undef) k L) : Sx P N (⟨d, some (t, b), s⟩ :: l) e k L :=
 .guard hx (fun h' => by rw [hb] at h'; cases b <;> cases h') (fun _ => h)
theorem Sx.ifp {d : Option Nat} {s : S} {t : Nat} {b : Bool} {p : Prop} {i : Decidable p} (hx : e.get t = some (.bool (@decide p i))) (h1 : p → Sx P N (⟨d, some (t, b), s⟩ :: l) ((t, .bool true) :: e) k L) (h2 : ¬ p → Sx P N (⟨d, some (t, b), s⟩ :: l) ((t, .bool false) :: e) k L) :
  Sx P N (⟨d, some (t, b), s⟩ :: l) e k L := by
 by_cases hp : p
 ·exact .learn hx (by simp [hp]) (h1 hp)
 ·exact .learn hx (by simp [hp]) (h2 hp)
theorem Sx.ifn {d : Option Nat} {s : S} {t : Nat} {b : Bool} {p : Prop} {i : Decidable p} (hx : e.get t = some (.bool (!(@decide p i)))) (h1 : ¬ p → Sx P N (⟨d, some (t, b), s⟩ :: l) ((t, .bool true) :: e) k L) (h2 : p → Sx P N (⟨d, some (t, b), s⟩ :: l) ((t, .bool false) :: e) k L) :
  Sx P N (⟨d, some (t, b), s⟩ :: l) e k L := by
 by_cases hp : p
 ·exact .learn hx (by simp [hp]) (h2 hp)
 ·exact .learn hx (by simp [hp]) (h1 hp)
end
section
variable {P : Program} {N : Nat} {e : En} {K : Kx} {L : St}
theorem Krg.i (h : K .nm e L) : Krg K e L := h
theorem Ksq.nm {b : C} (h : Cx P N b e K L) : Ksq P N b K .nm e L := h
theorem Ksq.rt {b : C} (h : K .rt e L) : Ksq P N b K .rt e L := h
theorem Ksq.ex {b : C} {i : Nat} (h : K (.ex i) e L) : Ksq P N b K (.ex i) e L := h
theorem Kbl.nm {i : Nat} (h : K .nm e L) : Kbl i K .nm e L := h
theorem Kbl.rt {i : Nat} (h : K .rt e L) : Kbl i K .rt e L := h
theorem Kbl.hit {i j : Nat} (hij : Nat.beq i j = true) (h : K .nm e L) : Kbl j K (.ex i) e L := by simp only [Kbl, hij, cond_true]; exact h
theorem Kbl.miss {i j : Nat} (hij : Nat.beq i j = false) (h : K (.ex i) e L) : Kbl j K (.ex i) e L := by simp only [Kbl, hij, cond_false]; exact h
theorem Klp.nm {α : Type _} {T : α → En} {S : α → St} {μ : α → Nat} {x : α} (y : α) (h1 : sub (T y) e) (h2 : Ent L (S y)) (h3 : μ y < μ x) : Klp K T S μ x .nm e L := ⟨y, h1, h2, h3⟩
abbrev Kn := @Klp.nm
theorem Klp.rt {α : Type _} {T : α → En} {S : α → St} {μ : α → Nat} {x : α} (h : K .rt e L) : Klp K T S μ x .rt e L := h
theorem Klp.ex {α : Type _} {T : α → En} {S : α → St} {μ : α → Nat} {x : α} {i : Nat} (h : K (.ex i) e L) : Klp K T S μ x (.ex i) e L := h
theorem Kr.one {R : Value → St → Prop} {t : Nat} {v : Value} {x : Ex} (hx : x = .nm ∨ x = .rt) (hv : e.get t = some v) {L' : St} (hL : Ent L L') (hR : R v L') : Kr P N [.t t] R x e L := ⟨hx, v, L', Rv.one hv, hL, hR⟩
theorem Ko {P : Program} {N : Nat} {e : En} {L : St} {R : Value → St → Prop} {t : Nat} {v : Value} (hv : e.get t = some v) {L' : St} (hL : Ent L L') (hR : R v L') : Kr P N [.t t] R .rt e L := Kr.one (.inr rfl) hv hL hR
theorem Kr.none {R : Value → St → Prop} {x : Ex} (hx : x = .nm ∨ x = .rt) {L' : St} (hL : Ent L L') (hR : R (.tuple #[]) L') : Kr P N [] R x e L := ⟨hx, _, L', Rv.none, hL, hR⟩
theorem Kr.two {R : Value → St → Prop} {t u : Nat} {v w : Value} {x : Ex} (hx : x = .nm ∨ x = .rt) (hv : e.get t = some v) (hw : e.get u = some w) {L' : St} (hL : Ent L L') (hR : R (.tuple #[v, w]) L') : Kr P N [.t t, .t u] R x e L :=
 ⟨hx, _, L', Rv.more (ts := [t, u]) (vs := [v, w]) (by simp [getAll, hv, hw]) (by simp), hL, hR⟩
theorem Kr.three {R : Value → St → Prop} {t u s : Nat} {v w z : Value} {x : Ex} (hx : x = .nm ∨ x = .rt) (hv : e.get t = some v) (hw : e.get u = some w) (hz : e.get s = some z) {L' : St} (hL : Ent L L') (hR : R (.tuple #[v, w, z]) L') : Kr P N [.t t, .t u, .t s] R x e L :=
 ⟨hx, _, L', Rv.more (ts := [t, u, s]) (vs := [v, w, z]) (by simp [getAll, hv, hw, hz]) (by simp), hL, hR⟩
end
section
variable {P : Program} {N : Nat} {e : En} {K : En → St → Prop} {L M F : St} {l : List G}
def Rd (L : St) (sz : Nat) (a : OA) (n : Nat) (vs : List Value) : Prop :=
 vs.length = n * sz ∧ (n = 0 ∨ ∃ b o, a = some ⟨b, o, none⟩ ∧ Has L b o vs)
theorem Has.ent {b off : Nat} {vs : List Value} (h : Has M b off vs) (x : Ent L M) : Has L b off vs := fun w0 w s => h w0 w (s.ent x)
theorem Rd.ent {sz n : Nat} {a : OA} {vs : List Value} (h : Rd M sz a n vs) (x : Ent L M) : Rd L sz a n vs := by
 refine ⟨h.1, h.2.imp id ?_⟩
 rintro ⟨b, o, e, hh⟩
 exact ⟨b, o, e, hh.ent x⟩
theorem Rd.nil (L : St) (sz : Nat) (a : OA) : Rd L sz a 0 [] := ⟨by simp, .inl rfl⟩
theorem Has.sub {b off i n : Nat} {vs : List Value} (h : Has L b off vs) : Has L b (off + i) ((vs.drop i).take n) := by
 intro w0 w s j v hj
 rw [List.getElem?_take] at hj
 split at hj
 ·rw [List.getElem?_drop] at hj
  have := h w0 w s (i + j) v hj
  rwa [← Nat.add_assoc] at this
 ·cases hj
theorem Row.key {a : OA} {E sz n cap : Nat} {xs : List Value} [t : Take L a (Row E sz n cap xs) F] : ∀ h, holds L h → xs.length = n * sz ∧ n ≤ cap ∧ cap ≤ maxLen ∧ ((a = none ∧ n = 0 ∧ cap = 0) ∨ ∃ g, a = ad g) := by
 intro h H
 obtain ⟨g, k, d, e, hp, hl⟩ := t.out h H
 obtain ⟨hx, ⟨h1, h2, h3, _⟩ | ⟨g1, cur, e1, _, h2, h3, _⟩⟩ := hp
 ·subst h2; subst h3; exact ⟨hx, Nat.le_refl _, Nat.zero_le _, .inl ⟨h1, rfl, rfl⟩⟩
 ·exact ⟨hx, h2, h3, .inr ⟨g1, e1⟩⟩
theorem Sx.rowkey {a : OA} {E sz n cap : Nat} {xs : List Value} [t : Take L a (Row E sz n cap xs) F]
  (x : xs.length = n * sz → n ≤ cap → cap ≤ maxLen → ((a = none ∧ n = 0 ∧ cap = 0) ∨ ∃ g, a = ad g) → Sx P N l e K L) : Sx P N l e K L :=
 Sx.pure (Row.key (t := t)) fun h => x h.1 h.2.1 h.2.2.1 h.2.2.2
theorem Sx.rowsome {a : OA} {E sz n cap : Nat} {xs : List Value} [t : Take L a (Row E sz n cap xs) F] (hn : 0 < n) (x : ∀ g, a = ad g → Sx P N l e K L) : Sx P N l e K L :=
 Sx.rowkey (t := t) fun _ _ _ h => by
  rcases h with h | ⟨g, h⟩
  ·exfalso; omega
  ·exact x g h
theorem Rd.row {b E sz n cap : Nat} {xs : List Value} [t : Take L (ad b) (Row E sz n cap xs) F] (hx : xs.length = n * sz) : Rd L sz (ad b) n xs := by
 refine ⟨hx, .inr ⟨b, 0, rfl, ?_⟩⟩
 have h := Has.row (L := L) (b := b) (E := E) (sz := sz) (n := n) (cap := cap) (xs := xs) (off := 0) (m := xs.length)
 rw [List.drop_zero, List.take_length] at h
 exact h
theorem Sat.rd {w0 w : World} {a : OA} {E sz n cap : Nat} {xs : List Value} [t : Take L a (Row E sz n cap xs) F] (s : Sat w0 w L) : xs.length = n * sz ∧ (n = 0 ∨ ∃ b, a = ad b) := by
 obtain ⟨h, H, _⟩ := s.heap
 obtain ⟨hx, _, _, h1 | h1⟩ := Row.key (t := t) h H
 ·exact ⟨hx, .inl h1.2.1⟩
 ·exact ⟨hx, .inr h1⟩
theorem Rd.any {a : OA} {E sz n cap : Nat} {xs : List Value} [t : Take L a (Row E sz n cap xs) F] (hx : xs.length = n * sz) (hk : n = 0 ∨ ∃ g, a = ad g) : Rd L sz a n xs := by
 rcases hk with h | ⟨g, rfl⟩
 ·exact ⟨hx, .inl h⟩
 ·exact Rd.row hx
theorem cS_ap {o : Oper} {T E sz by_ : Nat} {z : List Value} {x y : X} (h : cS P o = some (.ap T E sz by_ z x y)) :
  ∃ p q i v, o.op = .call ⟨.builtin .append, #[p, q], #[T, T]⟩ ∧ cX p = x ∧ cX q = y ∧ P.underlying T = some (.slice E) ∧ P.info? E = some i ∧ i.zero = some v ∧ i.size = sz ∧ i.bytes = by_ ∧ v.cells.toList = z ∧ v.cells.size = i.size ∧ 0 < i.size := by
 unfold cS at h
 split at h
 case h_23 =>
  rename_i c ho
  unfold cCall at h
  split at h
  case h_7 =>
   rename_i hb
   split at h
   ·rename_i p q t u hx ht
    split at h
    ·rename_i htu
     subst htu
     split at h
     ·rename_i hu
      split at h
      ·rename_i hi
       split at h
       ·rename_i hz
        split at h
        ·rename_i hc; cases h
         rw [call_eq c hb hx ht] at ho
         exact ⟨p, q, _, _, ho, rfl, rfl, hu, hi, hz, rfl, rfl, rfl, hc.1, hc.2⟩
        ·cases h
       ·cases h
      ·cases h
     ·cases h
    ·cases h
   ·cases h
  all_goals ((repeat' split at h) <;> cases h)
 all_goals ((repeat' split at h) <;> cases h)
theorem Sat.newRow {w0 w : World} (s : Sat w0 w L) {E sz n cap : Nat} {xs : List Value} {cur : Array Value} (hx : xs.length = n * sz) (hn : n ≤ cap) (hc : cap ≤ maxLen) (hs : cur.size = cap * sz) (ht : cur.toList.take (n * sz) = xs) :
  Sat w0 (w.alloc (.cells cur E)) (pt (ad w.heap.size) (Row E sz n cap xs) :: L) := by
 obtain ⟨h, H, hw⟩ := s.heap
 have hno := Sat.lt hw
 refine ⟨s.os, s.tape, s.output, by have := s.size; simp; omega, (Hp.one w.heap.size (.cells cur E (0, 0))).join h,
  ⟨_, h, Hp.one_apart.2 hno, rfl, ⟨hx, .inr ⟨_, cur, rfl, rfl, hn, hc, hs, ht⟩⟩, H⟩, fun i o ei => ?_⟩
 rcases Hp.join_some ei with ej | ej
 ·obtain ⟨rfl, rfl⟩ := Hp.one_some ej
  exact heap_alloc_new _ _
 ·have := hw _ _ ej
  rw [heap_alloc_old]
  ·exact this
  ·exact (Array.getElem?_eq_some_iff.1 this).1
theorem Ent.dropTake {a : OA} {R : OA → As} [t : Take L a R F] : Ent L F := (Eo t.out).trans Ed
theorem grown_cells {w : World} {E n old : Nat} {i : TypeInfo} {v : Value} {xs : List Value} (hx : xs.length = n * i.size) (hv : v.cells.size = i.size) :
  ∃ cur : Array Value, xs.toArray ++ Builtin.zeroCells v.cells (grownCap w n old E - n) = cur ∧ cur.size = grownCap w n old E * i.size ∧ cur.toList.take (n * i.size) = xs := by
 refine ⟨_, rfl, ?_, ?_⟩
 ·have hge := grownCap_ge w n old E
  simp only [Array.size_append, List.size_toArray, size_zeroCells, hv, hx, ← Nat.add_mul]
  congr 1
  omega
 ·rw [← hx]
  simp
theorem run_builtin (a : Act) (w : World) (o : Oper) {p q : Operand} {T : TypeId} {v w' } {b : Builtin} (ho : o.op = .call ⟨.builtin b, #[p, q], #[T, T]⟩) (hb : b = .append)
  (h : (Builtin.append_ #[T, T] o.type #[a.eval p, a.eval q]).run P w = .ok v w') : (execOp a.eval o).run P w = .ok (.value v) w' := by
 subst hb
 simp [execOp, ho, resolve, invoke, builtin, h]
theorem Sx.ap {d : Option Nat} {T E sz by_ : Nat} {z : List Value} {x y : X} {ra ya : OA} {n cap m c : Nat} {xs ys : List Value} [t : Take L ra (Row E sz n cap xs) F]
  (hx : x.get e = some (.slice ra n cap)) (hy : y.get e = some (.slice ya m c)) (hr : Rd L sz ya m ys) (h1 : ones ys = true) (hm : n + m ≤ maxLen) (hb : (n + m) * by_ ≤ 140737488355328)
  (k : ∀ ra' cap', n + m ≤ cap' → Sx P N l (e.put d (.slice ra' (n + m) cap')) K (pt ra' (Row E sz (n + m) cap' (xs ++ ys)) :: F)) : Sx P N (⟨d, none, .ap T E sz by_ z x y⟩ :: l) e K L :=
 .step fun o a w0 w hs ok st => by
  obtain ⟨p, q, i, v, ho, rfl, rfl, hu, hi, hz, rfl, rfl, rfl, hv, h0⟩ := cS_ap hs
  have hp := ok.eval hx
  have hq := ok.eval hy
  have st' := st.ent (Eo t.out)
  have hmm : n + m ≤ 9223372036854775807 := by simp only [maxLen] at hm; omega
  have hone : ∀ u ∈ ys, u.oneCell' = true := by simpa [ones] using h1
  have hlen : (xs ++ ys).length = (n + m) * i.size := by
   have := (st.rd (t := t)).1
   rw [List.length_append, this, hr.1, Nat.add_mul]
  have stF : Sat w0 w.drew F := (st.ent (Ent.dropTake (t := t))).drew
  -- a new row
  have fresh : ∀ old, ∃ cur : Array Value, (xs ++ ys).toArray ++ Builtin.zeroCells v.cells (grownCap w (n + m) old E - (n + m)) = cur ∧
    Sat w0 (w.drew.alloc (.cells cur E)) (pt (ad w.heap.size) (Row E i.size (n + m) (grownCap w (n + m) old E) (xs ++ ys)) :: F) := by
   intro old
   obtain ⟨cur, hc, hs1, hs2⟩ := grown_cells (w := w) (E := E) (old := old) hlen hv
   exact ⟨cur, hc, stF.newRow hlen (grownCap_ge _ _ _ _) (grownCap_le_maxLen _ _ _ _ hm) hs1 hs2⟩
  -- nothing is appended to nothing
  by_cases hm0 : m = 0
  ·subst hm0
   have hys : ys = [] := nz_ (by simpa using hr.1)
   subst hys
   refine ⟨.slice ra n cap, w, pt ra (Row E i.size n cap xs) :: F, .inl ?_, st', ?_⟩
   ·refine run_builtin a w o ho rfl ?_
    rw [hp, hq]
    have hcap : n ≤ cap := by
     obtain ⟨h, H, _⟩ := st.heap
     exact (Row.key (t := t) h H).2.1
    have hfc : (Builtin.firstCells i.size 0 (.slice ya 0 c)).run P w = .ok #[] w := by
     cases ya <;> simp [Builtin.firstCells, loadCells, loadCellsFrom]
    cases ra <;> simp [Builtin.append_, run_underlying hu, sizeOf, typeInfo, hi, Builtin.lenOf, hcap, hfc, storeCells]
   ·have := k ra cap
    simp only [Nat.add_zero, List.append_nil] at this
    obtain ⟨h, H, _⟩ := st.heap
    exact this (Row.key (t := t) h H).2.1
  ·obtain ⟨hxl, hkey⟩ := st.rd (t := t)
   obtain ⟨hyl, h | ⟨yb, yo, rfl, hh⟩⟩ := hr
   ·exact absurd h hm0
   have hnews : ∀ j u, ys[j]? = some u → w.cell? ((⟨yb, yo, none⟩ : Addr).add j) = some u := fun j u hj => by rw [partPlace]; exact hh w0 w st j u hj
   obtain ⟨h, H, _⟩ := st.heap
   obtain ⟨_, hnc, hcm, hk⟩ := Row.key (t := t) h H
   rcases hk with ⟨rfl, rfl, rfl⟩ | ⟨g, rfl⟩
   ·have hxs : xs = [] := nz_ (by simpa using hxl)
    subst hxs
    obtain ⟨cur, hc, hs'⟩ := fresh 0
    simp only [Nat.zero_add, ln] at hc hs' hb hm
    have hrun := run_append_nil (P := P) w T o.type E i v hu hi hz ⟨yb, yo, none⟩ m c ys hyl hnews (by omega) (by simp only [maxLen] at hm; omega) (by omega)
    rw [hc] at hrun
    refine ⟨_, _, _, .inl (run_builtin a w o ho rfl (by rw [hp, hq]; exact hrun)), hs', ?_⟩
    have := k (ad w.heap.size) (grownCap w m 0 E)
    simp only [Nat.zero_add, ln] at this
    exact this (grownCap_ge _ _ _ _)
   ·obtain ⟨cur, hbk, _, _, _, hcs, hct⟩ := st.row (b := g) (E := E) (sz := i.size) (n := n) (cap := cap) (xs := xs)
    by_cases hroom : n + m ≤ cap
    ·have hfit : n * i.size + ys.length ≤ cur.size := by rw [hyl, hcs, ← Nat.add_mul]; exact Nat.mul_le_mul_right _ hroom
     have hrun := run_append_room (P := P) w T o.type E i hu hi g n cap cur hbk ⟨yb, yo, none⟩ m c ys hyl hnews hone hroom hfit
     refine ⟨_, _, _, .inl (run_builtin a w o ho rfl (by rw [hp, hq]; exact hrun)), ?_, k (ad g) cap hroom⟩
     refine Sat.turnRow (t := t) (w' := w.setRow g _) st rfl rfl rfl (size_setRow _ _ _) (setRow_heap w g _ _ E _ hbk) (fun k hk => setRow_other w g k _ hk) hroom hlen ?_ ?_
     ·simp only [List.size_toArray, List.length_append, List.length_take, List.length_drop, Array.length_toList]
      omega
     ·simp only [List.toList_toArray]
      rw [hct, ← hlen]
      exact List.take_left
    ·obtain ⟨cur', hc, hs'⟩ := fresh cap
     have holds' : ∀ j u, xs[j]? = some u → w.cell? ((⟨g, 0, none⟩ : Addr).add j) = some u := by
      intro j u hj
      rw [partPlace]
      rw [← hct, List.getElem?_take] at hj
      split at hj
      ·simp [World.cell?, hbk]; simpa using hj
      ·cases hj
     have hrun := run_append_grow (P := P) w T o.type E i v hu hi hz ⟨g, 0, none⟩ n cap xs hxl holds' ⟨yb, yo, none⟩ m c ys hyl hnews (by omega) (by omega) (growslice_fits (by omega) hb)
     rw [show xs.toArray ++ ys.toArray ++ Builtin.zeroCells v.cells (grownCap w (n + m) cap E - (n + m)) = cur' from by rw [← hc]; simp] at hrun
     exact ⟨_, _, _, .inl (run_builtin a w o ho rfl (by rw [hp, hq]; exact hrun)), hs', k _ _ (grownCap_ge _ _ _ _)⟩
end
section
variable {P : Program} {N : Nat} {e : En} {K : En → St → Prop} {L M F : St} {l : List G}
theorem cS_bs {o : Oper} {E len : Nat} {z : List Value} {ps : List (Nat × Nat × X)} (h : cS P o = some (.bs E len z ps)) :
  ∃ t qs z0 n, o.op = .buildSlice t len qs ∧ P.underlying t = some (.slice E) ∧ zeroT P E = some z0 ∧ szT P E = some n ∧ 0 < n ∧ len * n ≤ 65536 ∧ z0.length = n ∧ partsS (fun i => some (i * n, n)) qs.toList = some ps ∧
   z = (List.range (len * n)).map fun i => z0[i % z0.length]! := by
 unfold cS at h
 split at h
 case h_7 =>
  rename_i t len' qs ho
  split at h
  ·rename_i hu
   split at h
   ·rename_i z0 n hz hn
    split at h
    ·rename_i hc
     split at h
     ·rename_i hp; cases h
      exact ⟨t, qs, z0, n, ho, hu, hz, hn, hc.1, hc.2.1, hc.2.2, hp, rfl⟩
     ·cases h
    ·cases h
   ·cases h
  ·cases h
 case h_23 => unfold cCall at h; (repeat' split at h) <;> cases h
 all_goals ((repeat' split at h) <;> cases h)
theorem length_fills : ∀ {ps : List (Nat × Nat × X)} {cs ds : List Value}, fills e cs ps = some ds → ds.length = cs.length
 | [], cs, ds, h => by simp only [fills] at h; cases h; rfl
 | (off, sz, x) :: ps, cs, ds, h => by
   simp only [fills] at h
   split at h
   ·split at h
    ·rename_i vs _
     by_cases hc : (Nat.beq vs.length sz && Nat.ble (off + sz) cs.length) = true
     ·rw [hc, cond_true] at h
      simp only [Bool.and_eq_true, Nat.beq_eq, Nat.ble_eq] at hc
      rw [length_fills h, length_lay _ _ _ (by omega)]
     ·simp only [hc, cond_false] at h; cases h
    ·cases h
   ·cases h
theorem zeros_eq (z0 : List Value) (m : Nat) : (Array.range m).map (fun i => z0.toArray[i % z0.toArray.size]!) = ((List.range m).map fun i => z0[i % z0.length]!).toArray := by
 apply Array.ext'
 simp [Array.toList_range]
theorem Sx.bs {d : Option Nat} {E len sz : Nat} {z : List Value} {ps : List (Nat × Nat × X)} {cs : List Value} (hf : fills e z ps = some cs) (hl : z.length = len * sz)
  (k : ∀ g, Sx P N l (e.put d (.slice (ad g) len len)) K (pt (ad g) (Row E sz len len cs) :: L)) : Sx P N (⟨d, none, .bs E len z ps⟩ :: l) e K L :=
 .step fun o a w0 w hs ok st => by
  obtain ⟨t, qs, z0, n, ho, hu, hz, hn, h0, hlen, hzl, hp, rfl⟩ := cS_bs hs
  obtain ⟨i, u, hi, hzu, rfl⟩ := zeroT_eq hz
  have hlc := length_fills hf
  have hlz : cs.length = len * sz := by rw [hlc]; exact hl
  have hfl := fill_eq ok (place := fun i => some (i * n, n)) hp hf
  have e1 : (qs.map fun p => (p.1, a.eval p.2)).toList = qs.toList.map fun p => (p.1, a.eval p.2) := by simp
  refine ⟨.slice (ad w.heap.size) len len, _, _, .inl ?_, st.newRow (E := E) (sz := sz) (n := len) (cap := len) (xs := cs) (cur := cs.toArray) hlz (Nat.le_refl _) ?_ (by simpa using hlz) (by rw [← hlz]; simp), k _⟩
  ·have hnot : ¬ (2 ^ 24 < len * n) := by omega
   have hnot' : ¬ (16777216 < len * n) := by omega
   by_cases h : len * n = 0
   ·have hr : (List.range (len * n)).map (fun i => u.cells.toList[i % u.cells.toList.length]!) = [] := by simp [h]
    rw [hr] at hfl
    have hfl' : Instr.fill (fun i => some (i * n, n)) #[] (qs.toList.map fun p => (p.1, a.eval p.2)) = some cs.toArray := hfl
    simp only [execOp, ho, Instr.buildSlice, Sem.run_bind, run_underlying hu, Result.andThen_ok, szT_eq hn, Sem.run_ite, gt_iff_lt, if_neg hnot, Sem.run_pure, e1, h, if_true]
    simp [Array.range_zero', hfl', newRow]
   ·have hfl' : Instr.fill (fun i => some (i * n, n)) ((Array.range (len * n)).map fun i => u.cells[i % u.cells.size]!) (qs.toList.map fun p => (p.1, a.eval p.2)) = some cs.toArray := by
     have := zeros_eq u.cells.toList (len * n)
     simp only [Array.toArray_toList] at this
     rw [this]
     exact hfl
    simp only [execOp, ho, Instr.buildSlice, Sem.run_bind, run_underlying hu, Result.andThen_ok, szT_eq hn, Sem.run_ite, gt_iff_lt, if_neg hnot, Sem.run_pure, e1, h, if_false, zeroValue_eq hi hzu, hfl']
    simp [newRow]
  ·have : len ≤ 65536 := by
    rcases Nat.eq_zero_or_pos len with h | h
    ·omega
    ·exact Nat.le_trans (Nat.le_mul_of_pos_right len h0) hlen
   simp only [maxLen]; omega
theorem cS_mk {o : Oper} {E sz by_ : Nat} {z : List Value} {x y : X} (h : cS P o = some (.mk E sz by_ z x y)) :
  ∃ t p q i v, o.op = .makeSlice t p q ∧ cX p = x ∧ cX q = y ∧ P.underlying t = some (.slice E) ∧ P.info? E = some i ∧ i.zero = some v ∧ i.size = sz ∧ i.bytes = by_ ∧ v.cells.toList = z ∧ v.cells.size = i.size ∧ 0 < i.size := by
 unfold cS at h
 split at h
 case h_16 =>
  rename_i t p q ho
  split at h
  ·rename_i hu
   split at h
   ·rename_i hi
    split at h
    ·rename_i hz
     split at h
     ·rename_i hc; cases h
      exact ⟨t, p, q, _, _, ho, rfl, rfl, hu, hi, hz, rfl, rfl, rfl, hc.1, hc.2⟩
     ·cases h
    ·cases h
   ·cases h
  ·cases h
 case h_23 => unfold cCall at h; (repeat' split at h) <;> cases h
 all_goals ((repeat' split at h) <;> cases h)
def made (z : List Value) (m : Nat) : List Value := (List.range m).map fun i => z[i % z.length]!
theorem made_one (v : Value) (m : Nat) : made [v] m = List.replicate m v := by
 apply List.ext_getElem?
 intro i
 simp only [made, List.length_singleton, Nat.mod_one, List.getElem?_map, List.getElem?_replicate]
 by_cases h : i < m <;> simp [h]
theorem length_made (z : List Value) (m : Nat) : (made z m).length = m := by simp [made]
theorem made_take (z : List Value) (m n : Nat) (h : n ≤ m) : (made z m).take n = made z n := by
 simp only [made, ← List.map_take, List.take_range]
 rw [Nat.min_eq_left h]
theorem Sx.mk {d : Option Nat} {E sz by_ : Nat} {z : List Value} {x y : X} {n c : Int} (hx : intX e x = some n) (hy : intX e y = some c) (h0 : 0 ≤ n) (hc : n ≤ c) (hb : (by_ : Int) * c ≤ 281474976710656) (hm : c ≤ 9223372036854775807)
  (k : ∀ g, Sx P N l (e.put d (.slice (ad g) n.toNat c.toNat)) K (pt (ad g) (Row E sz n.toNat c.toNat (made z (n.toNat * sz))) :: L)) : Sx P N (⟨d, none, .mk E sz by_ z x y⟩ :: l) e K L :=
 .step fun o a w0 w hs ok st => by
  obtain ⟨t, p, q, i, v, ho, rfl, rfl, hu, hi, hz, rfl, rfl, rfl, hv, hpos⟩ := cS_mk hs
  obtain ⟨k1, hp⟩ := ok.intX hx
  obtain ⟨k2, hq⟩ := ok.intX hy
  have hr := run_make (P := P) w t E i v hu hi hz k1 k2 n c h0 hc hb hm
  have hcells : madeCells v.cells (c.toNat * i.size) = (made v.cells.toList (c.toNat * i.size)).toArray := by
   have := zeros_eq v.cells.toList (c.toNat * i.size)
   simpa [madeCells, made] using this
  rw [hcells] at hr
  refine ⟨.slice (ad w.heap.size) n.toNat c.toNat, w.alloc (.cells (made v.cells.toList (c.toNat * i.size)).toArray E), _, .inl (by simp [execOp, ho, hp, hq, hr]), ?_, k _⟩
  refine st.newRow (length_made _ _) (by omega) (by simp only [maxLen]; omega) (by simp [length_made]) ?_
  simp only [List.toList_toArray]
  exact made_take _ _ _ (Nat.mul_le_mul_right _ (by omega))
theorem Sx.openp {α : Type _} {f : α → St} {a : OA} {R : OA → As} [t : Take L a R F] (hR : R a = exs f) (x : ∀ y, Sx P N l e K (f y ++ F)) : Sx P N l e K L :=
 Sx.many (f := fun y => f y ++ F) (fun h H => by
  have h1 := t.out h H
  unfold pt at h1
  rw [hR] at h1
  obtain ⟨y, hy⟩ := holds_ex.1 h1
  exact ⟨y, h, fun _ _ x => x, hy⟩) x
theorem Cx.openp {c : C} {K : Kx} {α : Type _} {f : α → St} {a : OA} {R : OA → As} [t : Take L a R F] (hR : R a = exs f) (x : ∀ y, Cx P N c e K (f y ++ F)) : Cx P N c e K L :=
 Cx.many (f := fun y => f y ++ F) (fun h H => by
  have h1 := t.out h H
  unfold pt at h1
  rw [hR] at h1
  obtain ⟨y, hy⟩ := holds_ex.1 h1
  exact ⟨y, h, fun _ _ x => x, hy⟩) x
abbrev Xo := @Cx.openp
theorem Ent.close {α : Type _} {f : α → St} {a : OA} {R : OA → As} (hR : R a = exs f) (y : α) : Ent (f y ++ F) (pt a R :: F) :=
 .of fun h H => by
  unfold pt
  rw [hR]
  exact holds_ex.2 ⟨y, H⟩
theorem Sx.liftp {p : Prop} (x : p → Sx P N l e K F) : Sx P N l e K (lift p :: F) :=
 Sx.pure (fun h H => (holds_lift.1 H).1) fun hp => Se_ (.of fun h H => (holds_lift.1 H).2) (x hp)
theorem Cx.liftp {c : C} {K : Kx} {p : Prop} (x : p → Cx P N c e K F) : Cx P N c e K (lift p :: F) :=
 Cx.pure (fun h H => (holds_lift.1 H).1) fun hp => Xe (.of fun h H => (holds_lift.1 H).2) (x hp)
theorem Ent.lift {p : Prop} (hp : p) (x : Ent L F) : Ent L (Proofs.YtflalhdofhobmaaGreat.lift p :: F) := x.trans (.of fun h H => holds_lift.2 ⟨hp, H⟩)
theorem Ent.take1 {a : OA} {R : OA → As} [t : Take L a R F] (x : Ent F M) : Ent L (pt a R :: M) := (Eo t.out).trans x.cons
abbrev Em := @Ent.take1
theorem Cx.rowkey {c : C} {K : Kx} {a : OA} {E sz n cap : Nat} {xs : List Value} [t : Take L a (Row E sz n cap xs) F]
  (x : xs.length = n * sz → n ≤ cap → cap ≤ maxLen → ((a = none ∧ n = 0 ∧ cap = 0) ∨ ∃ g, a = ad g) → Cx P N c e K L) : Cx P N c e K L :=
 Cx.pure (Row.key (t := t)) fun h => x h.1 h.2.1 h.2.2.1 h.2.2.2
end
theorem w64 {n : Int} (h1 : -9223372036854775808 ≤ n) (h2 : n ≤ 9223372036854775807) : IntKind.i64.wrap n = n := by
 unfold IntKind.wrap
 simp only [IntKind.bits, IntKind.signed]
 simp
 omega
theorem wu64 {n : Int} (h1 : 0 ≤ n) (h2 : n ≤ 18446744073709551615) : IntKind.u64.wrap n = n := by
 unfold IntKind.wrap
 simp only [IntKind.bits, IntKind.signed]
 simp
 omega
abbrev Zo0 := @Sx.pvs
abbrev Zo1 := @Sx.nil
abbrev Zo2 := @Krg.i
abbrev Zo3 := @Ksq.nm
abbrev Zo4 := @Ksq.rt
abbrev Zo5 := @Ksq.ex
abbrev Zo6 := @Kbl.nm
abbrev Zo7 := @Kbl.rt
abbrev Zo8 := @Kbl.hit
abbrev Zo9 := @Kbl.miss
abbrev Zoa := @Klp.rt
abbrev Zob := @Klp.ex
abbrev Zoc := @Cx.sq
abbrev Zod := @Cx.rg
abbrev Zoe := @Cx.bl
abbrev Zof := @Cx.sk
abbrev Zog := @Cx.rt
abbrev Zoh := @Cx.ex
abbrev Zoi := @Cx.yes
abbrev Zoj := @Cx.no
abbrev Zok := @Sx.on
abbrev Zol := @Sx.off
abbrev Zom := @Sx.ldb
abbrev Zon := @Sx.ldbs
abbrev Zoo := @Sx.stb
abbrev Zop := @Sx.pv
abbrev Zoq := @Sx.pk
structure Wrap (B : Prop) : Prop where
 out : B
theorem go {A B : Prop} (k : B) (h : Wrap B → A := by intro r; (repeat (first|refine Zo0 rfl ?_|refine Zo1 ?_|refine Zo2 ?_|refine Zo3 ?_|refine Zo4 ?_|refine Zo5 ?_|refine Zo6 ?_|refine Zo7 ?_|refine Zo8 rfl ?_|refine Zo9 rfl ?_|refine Zoa ?_|refine Zob ?_|refine Zoc ?_|refine Zod ?_|refine Zoe ?_|refine Zof ?_|refine Zog ?_|refine Zoh ?_|refine Zoi rfl ?_|refine Zoj rfl ?_|refine Zok rfl ?_|refine Zol rfl ?_|refine Zom rfl (by rfl) ?_|refine Zon rfl rfl ?_|refine Zoo rfl rfl rfl rfl (by rfl) (by rfl) ?_|refine Zop rfl trivial ?_|refine Zoq rfl rfl rfl ?_)); exact r.out) : A := h ⟨k⟩
theorem gg {A B : Prop} (k : B) (h : Wrap B → A := by intro r; (repeat (first|refine Zo0 rfl ?_|refine Zo1 ?_|refine Zo2 ?_|refine Zo3 ?_|refine Zo4 ?_|refine Zo5 ?_|refine Zo6 ?_|refine Zo7 ?_|refine Zo8 rfl ?_|refine Zo9 rfl ?_|refine Zoa ?_|refine Zob ?_|refine Zoc ?_|refine Zod ?_|refine Zoe ?_|refine Zof ?_|refine Zog ?_|refine Zoh ?_|refine Zoi rfl ?_|refine Zoj rfl ?_|refine Zok rfl ?_|refine Zol rfl ?_|refine Zom rfl (by rfl) ?_|refine Zon rfl rfl ?_|refine Zoo rfl rfl rfl rfl (by rfl) (by rfl) ?_|refine Zop rfl trivial ?_|refine Zoq rfl rfl rfl ?_|refine Sv rfl ⟨by omega, by omega⟩ ?_|refine Sv rfl (by decide) ?_|fail)); exact r.out) : A := h ⟨k⟩
theorem ent {L M : St} (h : Ent L M := by repeat (first | exact Er _ | (refine Em ?_) | (refine Et Ed ?_))) : Ent L M := h
theorem go_acc (m : Region.Mode) (ops : Array Oper) : ∀ (fuel t : Nat) (listed : Array Bool) (acc : List Nat),
  Region.linearise.go m ops fuel t listed acc = acc.reverse ++ Region.linearise.go m ops fuel t listed []
 | 0, t, listed, acc => by simp [Region.linearise.go]
 | fuel + 1, t, listed, acc => by
   simp only [Region.linearise.go]
   split
   ·rename_i i hi
    rw [go_acc m ops fuel _ _ (i :: acc), go_acc m ops fuel _ _ [i]]
    simp
   ·simp
theorem resolve_congr {ρ ρ' : Operand → Value} {c : Call} {ty : TypeId} (h : ∀ x ∈ c.operands, ρ x = ρ' x) : resolve ρ c ty = resolve ρ' c ty := by
 have ha : c.args.map ρ = c.args.map ρ' := Array.map_congr_left fun x hx => h x (by simp [Call.operands, hx])
 unfold resolve
 cases hc : c.callee with
 | value f => simp only [ha, h f (by simp [Call.operands, hc])]
 | invoke r m => simp only [ha, h r (by simp [Call.operands, hc])]
 | builtin b => simp only [ha]
theorem map_congr_parts {ρ ρ' : Operand → Value} {ps : Array (Nat × Operand)} (h : ∀ x ∈ (ps.toList.map (·.2)).toArray, ρ x = ρ' x) : (ps.map fun (i, x) => (i, ρ x)) = ps.map fun (i, x) => (i, ρ' x) := by
 apply Array.map_congr_left
 rintro ⟨i, x⟩ hx
 simp only [Prod.mk.injEq, true_and]
 exact h x (by simp; exact ⟨i, hx⟩)
theorem optmap_congr {ρ ρ' : Operand → Value} {o : Option Operand} (h : ∀ x ∈ o.toArray, ρ x = ρ' x) : o.map ρ = o.map ρ' := by
 cases o with
 | none => rfl
 | some x => simp [h x (by simp)]
theorem execOp_congr {P : Program} {o : Oper} {s : S} (hs : cS P o = some s) {ρ ρ' : Operand → Value} (h : ∀ x ∈ o.op.operands, ρ x = ρ' x) : execOp ρ o = execOp ρ' o := by
 unfold cS at hs
 unfold execOp
 split at hs
 case h_1 => rename_i x ho; rw [ho] at h ⊢; simp only [h x (by simp [Op.operands])]
 case h_2 => rename_i x ho; rw [ho] at h ⊢; simp only [h x (by simp [Op.operands])]
 case h_3 => rename_i c a b ho; rw [ho] at h ⊢; simp only [h c (by simp [Op.operands]), h a (by simp [Op.operands]), h b (by simp [Op.operands])]
 case h_4 => rename_i ho; rw [ho]
 case h_5 => rename_i x ho; rw [ho] at h ⊢; simp only [h x (by simp [Op.operands])]
 case h_6 => rename_i t ps ho; rw [ho] at h ⊢; simp only [map_congr_parts h]
 case h_7 => rename_i t n ps ho; rw [ho] at h ⊢; simp only [map_congr_parts h]
 case h_8 => rename_i t x ho; rw [ho] at h ⊢; simp only [h x (by simp [Op.operands])]
 case h_9 => rename_i t x y ho; rw [ho] at h ⊢; simp only [h x (by simp [Op.operands]), h y (by simp [Op.operands])]
 case h_10 => rename_i x ho; rw [ho] at h ⊢; simp only [h x (by simp [Op.operands])]
 case h_11 => rename_i op t x y u ho; rw [ho] at h ⊢; simp only [h x (by simp [Op.operands]), h y (by simp [Op.operands])]
 case h_12 => rename_i t x ho; rw [ho] at h ⊢; simp only [h x (by simp [Op.operands])]
 case h_13 => rename_i t x ho; rw [ho] at h ⊢; simp only [h x (by simp [Op.operands])]
 case h_14 => rename_i t u x ho; rw [ho] at h ⊢; simp only [h x (by simp [Op.operands])]
 case h_15 =>
  rename_i fn p q ho; rw [ho] at h ⊢
  have h1 : p.map ρ = p.map ρ' := Array.map_congr_left fun x hx => h x (by simp [Op.operands, hx])
  have h2 : q.map ρ = q.map ρ' := Array.map_congr_left fun x hx => h x (by simp [Op.operands, hx])
  simp only [h1, h2]
 case h_16 => rename_i t x y ho; rw [ho] at h ⊢; simp only [h x (by simp [Op.operands]), h y (by simp [Op.operands])]
 case h_17 =>
  rename_i t x lo hi mx ho; rw [ho] at h ⊢
  have h1 : lo.map ρ = lo.map ρ' := optmap_congr fun y hy => h y (by simp only [Op.operands, Array.mem_append]; simp [hy])
  have h2 : hi.map ρ = hi.map ρ' := optmap_congr fun y hy => h y (by simp only [Op.operands, Array.mem_append]; simp [hy])
  have h3 : mx.map ρ = mx.map ρ' := optmap_congr fun y hy => h y (by simp only [Op.operands, Array.mem_append]; simp [hy])
  simp only [h x (by simp [Op.operands]), h1, h2, h3]
 case h_18 => rename_i t x i ho; rw [ho] at h ⊢; simp only [h x (by simp [Op.operands])]
 case h_19 => rename_i t x i ho; rw [ho] at h ⊢; simp only [h x (by simp [Op.operands])]
 case h_20 => rename_i t x y ho; rw [ho] at h ⊢; simp only [h x (by simp [Op.operands]), h y (by simp [Op.operands])]
 case h_21 => rename_i t x y ho; rw [ho] at h ⊢; simp only [h x (by simp [Op.operands]), h y (by simp [Op.operands])]
 case h_22 => rename_i x i ho; rw [ho] at h ⊢; simp only [h x (by simp [Op.operands])]
 case h_23 => rename_i c ho; rw [ho] at h ⊢; simp only [resolve_congr h]
 case h_24 => cases hs
theorem bit_eq (m n : Nat) : bit m n = m.testBit n := by
 unfold bit
 rw [Nat.testBit_eq_decide_div_mod_eq]
 have h1 : Nat.land (Nat.shiftRight m n) 1 = m / 2 ^ n % 2 := by
  show (m >>> n) &&& 1 = _
  rw [Nat.and_one_is_mod, Nat.shiftRight_eq_div_pow]
 rw [h1]
 by_cases h : m / 2 ^ n % 2 = 1
 ·simp [h]
 ·cases hb : Nat.beq (m / 2 ^ n % 2) 1 with
  | true => exact absurd (bq hb) h
  | false => simp [h]
theorem bit_lor (a b n : Nat) : bit (Nat.lor a b) n = (bit a n || bit b n) := by
 simp only [bit_eq]
 exact Nat.testBit_or a b n
theorem bit_shift (d n : Nat) : bit (Nat.shiftLeft 1 d) n = decide (d = n) := by
 simp only [bit_eq]
 show (1 <<< d).testBit n = _
 rw [Nat.one_shiftLeft]
 exact Nat.testBit_two_pow
theorem bit_zero (n : Nat) : bit 0 n = false := by rw [bit_eq]; exact Nat.zero_testBit n
theorem bit_clos (acc : List Nat) (n : Nat) : ∀ l : List Nat, bit (clos acc l) n = true ↔ ∃ d ∈ l, n = d ∨ bit (acc.getD d 0) n = true
 | [] => by simp [clos, bit_zero]
 | d :: l => by
   have ih := bit_clos acc n l
   have : clos acc (d :: l) = Nat.lor (Nat.lor (clos acc l) (acc.getD d 0)) (Nat.shiftLeft 1 d) := rfl
   rw [this, bit_lor, bit_lor, bit_shift]
   simp only [Bool.or_eq_true, ih, decide_eq_true_eq, List.mem_cons, exists_eq_or_imp]
   constructor
   ·rintro ((h | h) | h)
    ·exact .inr h
    ·exact .inl (.inr h)
    ·exact .inl (.inl h.symm)
   ·rintro ((h | h) | h)
    ·exact .inr h.symm
    ·exact .inl (.inr h)
    ·exact .inl (.inl h)
def sepB (p y : It) : Bool :=
 (match p.g.d with
  | none => true
  | some d => (!(y.rs.contains d) || bit y.ds p.i) && (match y.g.d with | none => true | some d' => !(Nat.beq d d'))) &&
 (match y.g.d with | none => true | some d => !(p.rs.contains d))
def ready (x : It) (rem : List It) : Bool := rem.all fun y => !(bit x.ds y.i)
def without (rem : List It) (i : Nat) : List It := rem.filter fun y => !(Nat.beq y.i i)
def readies (rem : List It) : List It := rem.filter fun x => ready x rem
section
variable {P : Program} {N : Nat}
structure All (P : Program) (N : Nat) (ops : Array Oper) (all : List It) : Prop where
 it : ∀ i x, all[i]? = some x → x.i = i ∧ ∃ o, ops[i]? = some o ∧ cG P N ops o = some x.g ∧ x.rs = tmpsOf o.op.operands.toList ++ (match x.g.g with | some p => [p.1] | none => []) ∧
  (∀ d ∈ direct o, d < i ∧ bit x.ds d = true) ∧ ∀ n, bit x.ds n = true → ∃ d ∈ direct o, n = d ∨ ∃ y, all[d]? = some y ∧ bit y.ds n = true
 sz : all.length = ops.size
def Late (P : Program) (N : Nat) (ops : Array Oper) (b : Act) (Φ : St → Prop) (p : It × Value) : Prop :=
 ∀ (o : Oper) (a : Act) (w0 w : World) (L : St), ops[p.1.i]? = some o → (∀ r ∈ p.1.rs, a.tmps[r]? = b.tmps[r]?) → Φ L → Sat w0 w L →
  (Region.wanted o (yielded ops a.tmps) = true ∧ (execOp a.eval o).run P w = .ok (.value p.2) w) ∨ (Region.wanted o (yielded ops a.tmps) = false ∧ p.2 = undef)
def Pn (sl : List Nat) (L : St) (Φ : St → Prop) (i : Nat) : St → Prop := fun M => (i ∈ sl ∧ M = L) ∨ (i ∉ sl ∧ Φ M)
structure Inv (P : Program) (N : Nat) (ops : Array Oper) (all rem : List It) (sl : List Nat) (pend : List (It × Value)) (listed : Array Bool) (fuel : Nat) (a b : Act) (Φ : St → Prop) (L : St) : Prop where
 ri : ∀ x ∈ rem, all[x.i]? = some x
 pi : ∀ p ∈ pend, all[p.1.i]? = some p.1
 ls : listed.size = ops.size
 lt : ∀ i, i < ops.size → (listed.getD i true = false ↔ (∃ x ∈ rem, x.i = i) ∨ ∃ p ∈ pend, p.1.i = i)
 dc : ∀ j o, listed.getD j false = true → ops[j]? = some o → ∀ d ∈ direct o, listed.getD d false = true
 fu : fuel = rem.length + pend.length
 nr : (rem.map (·.i)).Nodup
 np : (pend.map (·.1.i)).Nodup
 rp : ∀ x ∈ rem, ∀ p ∈ pend, x.i ≠ p.1.i
 sz : a.tmps.size = N
 df : a.defers = b.defers
 rel : ∀ r, (∀ p ∈ pend, p.1.g.d ≠ some r) → a.tmps[r]? = b.tmps[r]?
 pv : ∀ p ∈ pend, (∀ d, p.1.g.d = some d → b.tmps[d]? = some p.2)
 la : ∀ p ∈ pend, Late P N ops b (Pn sl L Φ p.1.i) p
 sr : ∀ p ∈ pend, ∀ y ∈ rem, sepB p.1 y = true
 sp : ∀ p ∈ pend, ∀ q ∈ pend, ∀ d, q.1.g.d = some d → d ∈ p.1.rs → bit p.1.ds q.1.i = true
 sd : ∀ p ∈ pend, ∀ q ∈ pend, p.1.i ≠ q.1.i → ∀ d, q.1.g.d = some d → p.1.g.d ≠ some d
theorem All.evals {ops : Array Oper} {all : List It} (A : All P N ops all) {x : It} (h : all[x.i]? = some x) {o : Oper} (ho : ops[x.i]? = some o) {a b : Act} (hr : ∀ r ∈ x.rs, a.tmps[r]? = b.tmps[r]?) :
  execOp a.eval o = execOp b.eval o ∧ Region.wanted o (yielded ops a.tmps) = Region.wanted o (yielded ops b.tmps) := by
 obtain ⟨_, o', ho', hg, hrs, _⟩ := A.it _ _ h
 rw [ho] at ho'; cases ho'
 obtain ⟨hs, hd, hN, hgd⟩ := cG_inv hg
 rw [hrs] at hr
 constructor
 ·refine execOp_congr hs fun y hy => ?_
  cases y with
  | tmp t =>
    have := hr t (List.mem_append_left _ (by simp only [tmpsOf, List.mem_filterMap]; exact ⟨.tmp t, by simpa using hy, rfl⟩))
    simp [Act.eval, this]
  | const v => rfl
  | global g => rfl
  | func f => rfl
 ·rcases hgd with ⟨h1, _⟩ | ⟨j, want, q, t, h1, h2, h3, h4⟩
  ·simp [Region.wanted, h1]
  ·have := hr t (List.mem_append_right _ (by rw [h4]; simp))
   simp [Region.wanted, h1, yielded, h2, h3, this]
theorem All.reach {ops : Array Oper} {all : List It} (A : All P N ops all) {listed : Array Bool} (dc : ∀ j o, listed.getD j false = true → ops[j]? = some o → ∀ d ∈ direct o, listed.getD d false = true) :
  ∀ (m i : Nat), i < m → ∀ x o, all[i]? = some x → ops[i]? = some o → (∀ d ∈ direct o, listed.getD d false = true) → ∀ n, bit x.ds n = true → listed.getD n false = true := by
 intro m
 induction m with
 | zero => intro i hi; omega
 | succ m ih =>
   intro i hi x o hx ho hd n hn
   obtain ⟨_, o', ho', _, _, hdir, hcl⟩ := A.it i x hx
   rw [ho] at ho'; cases ho'
   obtain ⟨d, hdm, h | ⟨y, hy, hyn⟩⟩ := hcl n hn
   ·rw [h]; exact hd d hdm
   ·obtain ⟨_, o2, ho2, _⟩ := A.it d y hy
    exact ih d (by have := (hdir d hdm).1; omega) y o2 hy ho2 (dc d o2 (hd d hdm) ho2) n hyn
theorem filter_perm {rem : List It} {x : It} (hx : x ∈ rem) (hn : (rem.map (·.i)).Nodup) : rem.length = (without rem x.i).length + 1 := by
 induction rem with
 | nil => cases hx
 | cons y l ih =>
   simp only [List.map_cons, List.nodup_cons] at hn
   have hnot : ∀ z ∈ l, z.i ≠ y.i := fun z hz h => hn.1 (by rw [← h]; exact List.mem_map_of_mem hz)
   by_cases hxy : y.i = x.i
   ·have hw : without (y :: l) x.i = l := by
     unfold without
     rw [List.filter_cons]
     have : Nat.beq y.i x.i = true := by simp [hxy]
     rw [this]
     simp only [Bool.not_true, bf, if_false]
     refine List.filter_eq_self.2 fun z hz => ?_
     have h2 := hnot z hz
     cases hb : Nat.beq z.i x.i with
     | false => rfl
     | true => exact absurd (bq hb) (by rw [← hxy]; exact h2)
    rw [hw]; rfl
   ·have hxl : x ∈ l := by
     rcases List.mem_cons.1 hx with h | h
     ·subst h; exact absurd rfl hxy
     ·exact h
    have hw : without (y :: l) x.i = y :: without l x.i := by
     unfold without
     rw [List.filter_cons]
     have : Nat.beq y.i x.i = false := by
      cases hb : Nat.beq y.i x.i with
      | false => rfl
      | true => exact absurd (bq hb) hxy
     rw [this]
     simp
    rw [hw, List.length_cons, List.length_cons, ih hxl hn.2]
theorem mem_without {rem : List It} {i : Nat} {y : It} : y ∈ without rem i ↔ y ∈ rem ∧ y.i ≠ i := by
 unfold without
 rw [List.mem_filter]
 constructor
 ·rintro ⟨h1, h2⟩
  refine ⟨h1, fun h => ?_⟩
  subst h; simp at h2
 ·rintro ⟨h1, h2⟩
  refine ⟨h1, ?_⟩
  cases hb : Nat.beq y.i i with
  | false => rfl
  | true => exact absurd (bq hb) h2
theorem nodup_without {rem : List It} {i : Nat} (h : (rem.map (·.i)).Nodup) : ((without rem i).map (·.i)).Nodup :=
 List.Sublist.nodup (List.Sublist.map _ List.filter_sublist) h
def Rx (P : Program) (N : Nat) (rem : List It) (sl : List Nat) (Φ : St → Prop) (e : En) (K : En → St → Prop) (L : St) : Prop :=
 ∀ (ops : Array Oper) (all : List It) (Q : Exit → Act → World → Prop) (pend : List (It × Value)) (a b : Act) (w0 w : World) (fuel t : Nat) (listed : Array Bool),
  All P N ops all → Inv P N ops all rem sl pend listed fuel a b Φ L → Ok N b e → Sat w0 w L → Φ L →
  (∀ a' w' e' L', K e' L' → Ok N a' e' → Sat w0 w' L' → Q .normal a' w') →
  wpOps P ops Q (Region.linearise.go .any ops fuel t listed []) a w
theorem set_listed {listed : Array Bool} {i j : Nat} (hi : i < listed.size) : (listed.setIfInBounds i true).getD j true = if i = j then true else listed.getD j true := by
 simp only [Array.getD_eq_getD_getElem?, Array.getElem?_setIfInBounds]
 by_cases h : i = j
 ·subst h; simp [hi]
 ·simp [h]
theorem sepB_iff {p y : It} (h : sepB p y = true) : (∀ d, p.g.d = some d → (d ∈ y.rs → bit y.ds p.i = true) ∧ y.g.d ≠ some d) ∧ (∀ d, y.g.d = some d → d ∉ p.rs) := by
 unfold sepB at h
 simp only [Bool.and_eq_true] at h
 obtain ⟨h1, h2⟩ := h
 constructor
 ·intro d hd
  rw [hd] at h1
  simp only [Bool.and_eq_true, Bool.or_eq_true, Bool.not_eq_true', List.contains_eq_mem, decide_eq_true_eq, decide_eq_false_iff_not] at h1
  refine ⟨fun hm => h1.1.resolve_left (fun h => h hm), fun hy => ?_⟩
  have := h1.2
  rw [hy] at this
  simp at this
 ·intro d hd
  rw [hd] at h2
  simpa using h2
theorem put_get {b : Act} {d : Option Nat} {v : Value} {r : Nat} (h : d ≠ some r) : (b.put d v).tmps[r]? = b.tmps[r]? := by
 cases d with
 | none => rfl
 | some d =>
   have : d ≠ r := fun h' => h (by rw [h'])
   simp [Act.put, Array.getElem?_setIfInBounds, this]
theorem put_same {b : Act} {d : Nat} {v : Value} (h : d < b.tmps.size) : (b.put (some d) v).tmps[d]? = some v := by
 simp [Act.put, Array.getElem?_setIfInBounds, h]
theorem Rx.eagerG {rem : List It} {sl sl' : List Nat} {Φ Ψ : St → Prop} {e : En} {K : En → St → Prop} {L : St} {x : It} {v : Value} (hx : x ∈ rem) (hs : (without rem x.i).all (sepB x) = true) (hself : ∀ d, x.g.d = some d → d ∉ x.rs)
  (hrun : ∀ (ops : Array Oper) (all : List It) (o : Oper) (a : Act) (w0 w : World) (M : St), All P N ops all → all[x.i]? = some x → ops[x.i]? = some o → Ok N a e → Pn sl' L Ψ x.i M → Sat w0 w M →
   (Region.wanted o (yielded ops a.tmps) = true ∧ (execOp a.eval o).run P w = .ok (.value v) w) ∨ (Region.wanted o (yielded ops a.tmps) = false ∧ v = undef))
  (hΨ : ∀ i M, i ≠ x.i → Pn sl' L Ψ i M → Pn sl L Φ i M) (hL : Φ L → Ψ L) (k : Rx P N (without rem x.i) sl' Ψ (e.put x.g.d v) K L) : Rx P N rem sl Φ e K L := by
 intro ops all Q pend a b w0 w fuel t listed A inv ok s hP kk
 have hax := inv.ri x hx
 obtain ⟨_, ox, hox, hg, _, _⟩ := A.it _ _ hax
 have hdN : ∀ i, x.g.d = some i → i < N := (cG_inv hg).2.2.1
 have hsep : ∀ y ∈ without rem x.i, sepB x y = true := by simpa using hs
 refine k ops all Q ((x, v) :: pend) a (b.put x.g.d v) w0 w fuel t listed A ?_ (ok.put x.g.d v hdN) s (hL hP) kk
 have hpx : ∀ p ∈ pend, _ := fun p hp => sepB_iff (inv.sr p hp x hx)
 have hbx : ∀ p ∈ pend, ∀ r ∈ p.1.rs, (b.put x.g.d v).tmps[r]? = b.tmps[r]? := fun p hp r hr => put_get fun h => (hpx p hp).2 r h hr
 constructor
 case ri => exact fun y hy => inv.ri y (mem_without.1 hy).1
 case pi =>
  intro p hp
  rcases List.mem_cons.1 hp with rfl | hp
  ·exact hax
  ·exact inv.pi p hp
 case ls => exact inv.ls
 case lt =>
  intro i hi
  rw [inv.lt i hi]
  constructor
  ·rintro (⟨y, hy, rfl⟩ | ⟨p, hp, rfl⟩)
   ·by_cases h : y.i = x.i
    ·exact .inr ⟨(x, v), by simp, h.symm⟩
    ·exact .inl ⟨y, mem_without.2 ⟨hy, h⟩, rfl⟩
   ·exact .inr ⟨p, by simp [hp], rfl⟩
  ·rintro (⟨y, hy, rfl⟩ | ⟨p, hp, rfl⟩)
   ·exact .inl ⟨y, (mem_without.1 hy).1, rfl⟩
   ·rcases List.mem_cons.1 hp with rfl | hp
    ·exact .inl ⟨x, hx, rfl⟩
    ·exact .inr ⟨p, hp, rfl⟩
 case dc => exact inv.dc
 case fu => rw [inv.fu, filter_perm hx inv.nr, List.length_cons]; omega
 case nr => exact nodup_without inv.nr
 case np =>
  simp only [List.map_cons, List.nodup_cons]
  refine ⟨fun h => ?_, inv.np⟩
  obtain ⟨p, hp, hpi⟩ := List.mem_map.1 h
  exact inv.rp x hx p hp hpi.symm
 case rp =>
  intro y hy p hp
  rcases List.mem_cons.1 hp with rfl | hp
  ·exact (mem_without.1 hy).2
  ·exact inv.rp y (mem_without.1 hy).1 p hp
 case sz => exact inv.sz
 case df =>
  rw [inv.df]
  cases x.g.d <;> rfl
 case rel =>
  intro r hr
  rw [put_get (hr (x, v) (by simp))]
  exact inv.rel r fun p hp => hr p (by simp [hp])
 case pv =>
  intro p hp d hd
  rcases List.mem_cons.1 hp with rfl | hp
  ·simp only at hd
   rw [hd]
   exact put_same (by rw [ok.size]; exact hdN d hd)
  ·rw [put_get (((hpx p hp).1 d hd).2)]
   exact inv.pv p hp d hd
 case la =>
  intro p hp
  rcases List.mem_cons.1 hp with rfl | hp
  ·intro o a2 w0 w L ho hr hP hS
   rw [hox] at ho; cases ho
   have hr2 : ∀ r ∈ x.rs, a2.tmps[r]? = b.tmps[r]? := fun r hrx => by
    rw [hr r hrx]
    exact put_get fun h => hself r h hrx
   obtain ⟨e1, e2⟩ := A.evals hax hox hr2
   rw [e1, e2]
   exact hrun ops all ox b w0 w L A hax hox ok hP hS
  ·intro o a2 w0 w L ho hr hP hS
   exact inv.la p hp o a2 w0 w L ho (fun r hrp => (hr r hrp).trans (hbx p hp r hrp)) (hΨ _ _ (fun h => inv.rp x hx p hp h.symm) hP) hS
 case sr =>
  intro p hp y hy
  rcases List.mem_cons.1 hp with rfl | hp
  ·exact hsep y hy
  ·exact inv.sr p hp y (mem_without.1 hy).1
 case sp =>
  intro p hp q hq d hd hm
  rcases List.mem_cons.1 hp with rfl | hp
  ·rcases List.mem_cons.1 hq with rfl | hq
   ·exact absurd hm (hself d hd)
   ·exact ((hpx q hq).1 d hd).1 hm
  ·rcases List.mem_cons.1 hq with rfl | hq
   ·exact absurd hm ((hpx p hp).2 d hd)
   ·exact inv.sp p hp q hq d hd hm
 case sd =>
  intro p hp q hq hne d hd
  rcases List.mem_cons.1 hp with rfl | hp
  ·rcases List.mem_cons.1 hq with rfl | hq
   ·exact absurd rfl hne
   ·exact ((hpx q hq).1 d hd).2
  ·rcases List.mem_cons.1 hq with rfl | hq
   ·intro hpd
    exact ((hpx p hp).1 d hpd).2 hd
   ·exact inv.sd p hp q hq hne d hd
theorem getD_false {listed : Array Bool} {i : Nat} (h : listed.getD i false = true) : listed.getD i true = true ∧ i < listed.size := by
 rcases Nat.lt_or_ge i listed.size with hlt | hge
 ·simp only [Array.getD_eq_getD_getElem?, Array.getElem?_eq_getElem hlt] at h ⊢
  exact ⟨h, hlt⟩
 ·simp only [Array.getD_eq_getD_getElem?, Array.getElem?_eq_none hge] at h
  cases h
def withoutP (pend : List (It × Value)) (i : Nat) : List (It × Value) := pend.filter fun y => !(Nat.beq y.1.i i)
theorem mem_withoutP {pend : List (It × Value)} {i : Nat} {y : It × Value} : y ∈ withoutP pend i ↔ y ∈ pend ∧ y.1.i ≠ i := by
 unfold withoutP
 rw [List.mem_filter]
 constructor
 ·rintro ⟨h1, h2⟩
  refine ⟨h1, fun h => ?_⟩
  subst h; simp at h2
 ·rintro ⟨h1, h2⟩
  refine ⟨h1, ?_⟩
  cases hb : Nat.beq y.1.i i with
  | false => rfl
  | true => exact absurd (bq hb) h2
theorem nodup_withoutP {pend : List (It × Value)} {i : Nat} (h : (pend.map (·.1.i)).Nodup) : ((withoutP pend i).map (·.1.i)).Nodup :=
 List.Sublist.nodup (List.Sublist.map _ List.filter_sublist) h
theorem length_withoutP {pend : List (It × Value)} {p : It × Value} (hp : p ∈ pend) (hn : (pend.map (·.1.i)).Nodup) : pend.length = (withoutP pend p.1.i).length + 1 := by
 have h1 : p.1 ∈ pend.map (·.1) := List.mem_map_of_mem hp
 have h2 := filter_perm h1 (by rw [List.map_map]; exact hn)
 have h3 : without (pend.map (·.1)) p.1.i = (withoutP pend p.1.i).map (·.1) := by
  unfold without withoutP
  rw [List.filter_map]
  rfl
 rw [h3] at h2
 simpa using h2
theorem exists_ready {ops : Array Oper} {all rem : List It} {sl : List Nat} {pend : List (It × Value)} {listed : Array Bool} {fuel : Nat} {a b : Act} {Φ : St → Prop} {L : St} (A : All P N ops all) (inv : Inv P N ops all rem sl pend listed fuel a b Φ L) (hf : 0 < fuel) :
  ∃ i, i < ops.size ∧ listed.getD i true = false ∧ ((ops[i]?).map (·.after.all fun e => !Region.binds .any e || listed.getD e.on false)).getD false = true := by
 have step : ∀ n i, i < n → i < ops.size → listed.getD i true = false → ∃ i, i < ops.size ∧ listed.getD i true = false ∧ ((ops[i]?).map (·.after.all fun e => !Region.binds .any e || listed.getD e.on false)).getD false = true := by
  intro n
  induction n with
  | zero => intro i hi; omega
  | succ n ih =>
    intro i hi his hl
    have hlen : i < all.length := by rw [A.sz]; exact his
    obtain ⟨_, o, ho, _, _, hdir, _⟩ := A.it i _ (List.getElem?_eq_getElem hlen)
    by_cases hall : (o.after.all fun e => !Region.binds .any e || listed.getD e.on false) = true
    ·exact ⟨i, his, hl, by rw [ho]; exact hall⟩
    ·simp only [Array.all_eq_true', Bool.or_eq_true, Bool.not_eq_true', Classical.not_forall, not_or] at hall
     obtain ⟨ed, hed, hb, hnl⟩ := hall
     have hmem : ed.on ∈ direct o := List.mem_map.2 ⟨ed, List.mem_filter.2 ⟨by simpa using hed, by simpa using hb⟩, rfl⟩
     have hlt := (hdir _ hmem).1
     have hos : ed.on < ops.size := by omega
     refine ih ed.on (by omega) hos ?_
     simp only [Array.getD_eq_getD_getElem?] at hnl ⊢
     have hsz : ed.on < listed.size := by rw [inv.ls]; exact hos
     rw [Array.getElem?_eq_getElem hsz] at hnl ⊢
     simpa using hnl
 have hne : rem ≠ [] ∨ pend ≠ [] := by
  rw [inv.fu] at hf
  cases rem with
  | cons x l => exact .inl (by simp)
  | nil => cases pend with
    | cons p l => exact .inr (by simp)
    | nil => simp at hf
 have hi : ∃ i, i < ops.size ∧ listed.getD i true = false := by
  rcases hne with h | h
  ·obtain ⟨x, l, rfl⟩ := List.exists_cons_of_ne_nil h
   have hx := inv.ri x (by simp)
   have hlt : x.i < ops.size := by rw [← A.sz]; exact (List.getElem?_eq_some_iff.1 hx).1
   exact ⟨x.i, hlt, (inv.lt x.i hlt).2 (.inl ⟨x, by simp, rfl⟩)⟩
  ·obtain ⟨p, l, rfl⟩ := List.exists_cons_of_ne_nil h
   have hx := inv.pi p (by simp)
   have hlt : p.1.i < ops.size := by rw [← A.sz]; exact (List.getElem?_eq_some_iff.1 hx).1
   exact ⟨p.1.i, hlt, (inv.lt p.1.i hlt).2 (.inr ⟨p, by simp, rfl⟩)⟩
 obtain ⟨i, h1, h2⟩ := hi
 exact step (i + 1) i (by omega) h1 h2
theorem Rx.all {rem : List It} {sl : List Nat} {Φ : St → Prop} {e : En} {K : En → St → Prop} {L : St} (h0 : rem = [] → K e L)
  (h : ∀ x ∈ readies rem, (∀ i ∈ sl, bit x.ds i = true) ∧ Sx P N [x.g] e (fun e' L' => Φ L' ∧ Rx P N (without rem x.i) [] Φ e' K L') L) : Rx P N rem sl Φ e K L := by
 intro ops all Q pend
 induction hlen : pend.length using Nat.strongRecOn generalizing pend with
 | _ n ih =>
   intro a b w0 w fuel t listed A inv ok s hP kk
   cases fuel with
   | zero =>
     have hfu := inv.fu
     have hr : rem = [] := nz_ (by omega)
     have hp : pend = [] := nz_ (by omega)
     subst hp
     simp only [Region.linearise.go, List.reverse_nil, wpOps]
     refine kk a w e L (h0 hr) ⟨inv.sz, by rw [inv.df]; exact ok.defers, fun i v hi => ?_⟩ s
     rw [inv.rel i (by simp)]
     exact ok.get i v hi
   | succ f =>
     simp only [Region.linearise.go]
     generalize hrs : (List.range ops.size).filter (fun i => !listed.getD i true && ((ops[i]?).map (·.after.all fun e => !Region.binds .any e || listed.getD e.on false)).getD false) = rs
     have hne : 0 < rs.length := by
      obtain ⟨i, h1, h2, h3⟩ := exists_ready A inv (by omega)
      have : i ∈ rs := by
       rw [← hrs, List.mem_filter]
       exact ⟨List.mem_range.2 h1, by rw [h2, h3]; rfl⟩
      exact List.length_pos_of_mem this
     have hget : ∃ i, rs[t % rs.length]? = some i := ⟨_, List.getElem?_eq_getElem (Nat.mod_lt _ hne)⟩
     obtain ⟨i, hi⟩ := hget
     rw [hi]
     simp only
     have himem : i ∈ rs := List.mem_of_getElem? hi
     rw [← hrs, List.mem_filter, List.mem_range] at himem
     obtain ⟨his, hcond⟩ := himem
     simp only [Bool.and_eq_true, Bool.not_eq_true'] at hcond
     obtain ⟨hil, hir⟩ := hcond
     rw [go_acc]
     simp only [List.reverse_cons, List.reverse_nil, ln, List.singleton_append]
     -- what goes ahead of it has come
     have hlen : i < all.length := by rw [A.sz]; exact his
     have hdirl : ∀ (o : Oper), ops[i]? = some o → ∀ d ∈ direct o, listed.getD d false = true := by
      intro o ho d hd
      obtain ⟨ed, hed, rfl⟩ := List.mem_map.1 hd
      obtain ⟨he1, he2⟩ := List.mem_filter.1 hed
      rw [ho] at hir
      simp only [Option.map_some, Option.getD_some, Array.all_eq_true'] at hir
      have := hir ed (by simpa using he1)
      rw [he2] at this
      simpa only [Bool.not_true, Bool.false_or] using this
     have hnotin : ∀ (x : It), all[i]? = some x → ∀ d, bit x.ds d = true → (∀ y ∈ rem, y.i ≠ d) ∧ ∀ p ∈ pend, p.1.i ≠ d := by
      intro x hx d hd
      obtain ⟨_, o, ho, _⟩ := A.it i x hx
      obtain ⟨h1, h2⟩ := getD_false (A.reach inv.dc (i + 1) i (by omega) x o hx ho (hdirl o ho) d hd)
      rw [inv.ls] at h2
      have h3 := inv.lt d h2
      rw [h1] at h3
      simp only [Bool.true_eq_false, false_iff, not_or, not_exists, not_and] at h3
      exact ⟨h3.1, h3.2⟩
     have hdc : ∀ j o, (listed.setIfInBounds i true).getD j false = true → ops[j]? = some o → ∀ d ∈ direct o, (listed.setIfInBounds i true).getD d false = true := by
      have key : ∀ j, (listed.setIfInBounds i true).getD j false = if i = j then true else listed.getD j false := by
       intro j
       simp only [Array.getD_eq_getD_getElem?, Array.getElem?_setIfInBounds]
       have hsz : i < listed.size := by rw [inv.ls]; exact his
       by_cases h : i = j
       ·subst h; simp [hsz]
       ·simp [h]
      intro j o hj ho d hd
      rw [key] at hj ⊢
      by_cases hid : i = d
      ·simp [hid]
      ·rw [if_neg hid]
       by_cases hij : i = j
       ·subst hij; exact hdirl o ho d hd
       ·rw [if_neg hij] at hj; exact inv.dc j o hj ho d hd
     have hlisted : (listed.setIfInBounds i true).size = ops.size := by simp [inv.ls]
     rcases (inv.lt i his).1 hil with ⟨x, hx, rfl⟩ | ⟨p, hp, rfl⟩
     ·-- one of those that are left
      have hax := inv.ri x hx
      obtain ⟨_, o, ho, hg, _, _⟩ := A.it _ _ hax
      have hno := hnotin x hax
      have hrdy : x ∈ readies rem := by
       refine List.mem_filter.2 ⟨hx, ?_⟩
       simp only [ready, List.all_eq_true]
       intro y hy
       cases hb : bit x.ds y.i with
       | false => rfl
       | true => exact absurd rfl ((hno _ hb).1 y hy)
      obtain ⟨hsl, hx0⟩ := h x hrdy
      have hagree : ∀ r ∈ x.rs, a.tmps[r]? = b.tmps[r]? := by
       intro r hr
       refine inv.rel r fun p hp hpd => ?_
       have := ((sepB_iff (inv.sr p hp x hx)).1 r hpd).1 hr
       exact (hno _ this).2 p hp rfl
      obtain ⟨ev1, ev2⟩ := A.evals hax ho hagree
      have hnsl : ∀ p ∈ pend, p.1.i ∉ sl := fun p hp hps => (hno _ (hsl _ hps)).2 p hp rfl
      have hx1 := hx0 ops [o]
       (fun ex act w' => match ex with
        | .normal => ∃ e' L', (Φ L' ∧ Rx P N (without rem x.i) [] Φ e' K L') ∧ Ok N act e' ∧ Sat w0 w' L'
        | _ => False) b w0 w (by simp [cL, hg]) ok s (fun a' w' e' L' hk ok' s' => ⟨e', L', hk, ok', s'⟩)
      have hod : o.dst = x.g.d := (cG_inv hg).2.1
      have hdN : ∀ i, x.g.d = some i → i < N := (cG_inv hg).2.2.1
      -- the rest, from a real state that fits a told one
      have rest : ∀ (v : Value) (w' : World) (e' : En) (L' : St), Φ L' → Rx P N (without rem x.i) [] Φ e' K L' → Ok N (b.put o.dst v) e' → Sat w0 w' L' →
        wpOps P ops Q (Region.linearise.go .any ops f (t / rs.length) (listed.setIfInBounds x.i true) []) (a.put o.dst v) w' := by
       intro v w' e' L' hP' hR ok' s'
       rw [hod] at ok' ⊢
       refine hR ops all Q pend (a.put x.g.d v) (b.put x.g.d v) w0 w' f _ _ A ?_ ok' s' hP' kk
       have hpx : ∀ p ∈ pend, _ := fun p hp => sepB_iff (inv.sr p hp x hx)
       constructor
       case ri => exact fun y hy => inv.ri y (mem_without.1 hy).1
       case pi => exact inv.pi
       case ls => exact hlisted
       case lt =>
        intro j hj
        rw [set_listed (by rw [inv.ls]; exact his)]
        by_cases hij : x.i = j
        ·subst hij
         simp only [if_true, Bool.true_eq_false, false_iff, not_or, not_exists, not_and]
         exact ⟨fun y hy => (mem_without.1 hy).2, fun p hp h => inv.rp x hx p hp h.symm⟩
        ·rw [if_neg hij, inv.lt j hj]
         constructor
         ·rintro (⟨y, hy, rfl⟩ | hp)
          ·exact .inl ⟨y, mem_without.2 ⟨hy, fun h => hij h.symm⟩, rfl⟩
          ·exact .inr hp
         ·rintro (⟨y, hy, rfl⟩ | hp)
          ·exact .inl ⟨y, (mem_without.1 hy).1, rfl⟩
          ·exact .inr hp
       case dc => exact hdc
       case fu => have := inv.fu; rw [filter_perm hx inv.nr] at this; omega
       case nr => exact nodup_without inv.nr
       case np => exact inv.np
       case rp => exact fun y hy p hp => inv.rp y (mem_without.1 hy).1 p hp
       case sz => have := inv.sz; cases hd : x.g.d <;> simp [Act.put, this]
       case df =>
        have := inv.df
        cases hd : x.g.d <;> exact this
       case rel =>
        intro r hr
        by_cases hrd : x.g.d = some r
        ·rw [hrd, put_same (by rw [inv.sz]; exact hdN r hrd), put_same (by rw [ok.size]; exact hdN r hrd)]
        ·rw [put_get hrd, put_get hrd]
         exact inv.rel r hr
       case pv =>
        intro p hp d hd
        rw [put_get (((hpx p hp).1 d hd).2)]
        exact inv.pv p hp d hd
       case la =>
        intro p hp o2 a2 w0' w2 L2 ho2 hr2 hP2 hS2
        have hP3 : Pn sl L Φ p.1.i L2 := by
         rcases hP2 with ⟨h1, _⟩ | ⟨_, h2⟩
         ·cases h1
         ·exact .inr ⟨hnsl p hp, h2⟩
        refine inv.la p hp o2 a2 w0' w2 L2 ho2 (fun r hr => ?_) hP3 hS2
        rw [hr2 r hr]
        exact put_get fun h => (hpx p hp).2 r h hr
       case sr => exact fun p hp y hy => inv.sr p hp y (mem_without.1 hy).1
       case sp => exact inv.sp
       case sd => exact inv.sd
      simp only [wpOps, ho]
      simp only [wpList] at hx1
      rw [← ev2] at hx1
      by_cases hw : Region.wanted o (yielded ops a.tmps) = true
      ·rw [if_pos hw] at hx1 ⊢
       rcases hx1 with hx1 | ⟨_, _, _, hx1⟩
       ·left
        unfold Oper.wp at hx1 ⊢
        rw [← ev1] at hx1
        cases hr : (execOp a.eval o).run P w with
        | halt ht w' =>
          rw [hr] at hx1
          cases ht <;> exact hx1.elim
        | ok nx w' =>
          rw [hr] at hx1
          cases nx with
          | value v =>
            obtain ⟨e', L', ⟨h1, h2⟩, h3, h4⟩ := hx1
            exact rest v w' e' L' h1 h2 h3 h4
          | skip =>
            obtain ⟨e', L', ⟨h1, h2⟩, h3, h4⟩ := hx1
            exact rest undef w' e' L' h1 h2 h3 h4
          | defer d =>
            obtain ⟨e', L', ⟨h1, h2⟩, h3, h4⟩ := hx1
            exfalso
            have := h3.defers
            cases hd : o.dst <;> simp [Act.put, hd] at this
          | enter f2 args =>
            refine Calls.mono hx1 fun en w2 hh => ?_
            cases en with
            | returned v =>
              obtain ⟨e', L', ⟨h1, h2⟩, h3, h4⟩ := hh
              exact rest v w2 e' L' h1 h2 h3 h4
            | panicked c => exact hh.elim
            | outgrown => obtain ⟨_, _, hh⟩ := hh; exact hh.elim
          | row r args =>
            refine Rows.mono hx1 fun v w2 hh => ?_
            obtain ⟨e', L', ⟨h1, h2⟩, h3, h4⟩ := hh
            exact rest v w2 e' L' h1 h2 h3 h4
          | _ => exact hx1.elim
       ·exact hx1.elim
      ·rw [if_neg hw] at hx1 ⊢
       obtain ⟨e', L', ⟨h1, h2⟩, h3, h4⟩ := hx1
       exact rest undef w e' L' h1 h2 h3 h4
     ·-- one that has been told
      have hap := inv.pi p hp
      obtain ⟨_, o, ho, hg, _, _⟩ := A.it _ _ hap
      have hno := hnotin p.1 hap
      have hagree : ∀ r ∈ p.1.rs, a.tmps[r]? = b.tmps[r]? := by
       intro r hr
       refine inv.rel r fun q hq hqd => ?_
       have := inv.sp p hp q hq r hqd hr
       exact (hno _ this).2 q hq rfl
      have hod : o.dst = p.1.g.d := (cG_inv hg).2.1
      have hdN : ∀ i, p.1.g.d = some i → i < N := (cG_inv hg).2.2.1
      have rest : wpOps P ops Q (Region.linearise.go .any ops f (t / rs.length) (listed.setIfInBounds p.1.i true) []) (a.put o.dst p.2) w := by
       refine ih (withoutP pend p.1.i).length ?_ (withoutP pend p.1.i) rfl (a.put o.dst p.2) b w0 w f _ _ A ?_ ok s hP kk
       ·have := length_withoutP hp inv.np; omega
       constructor
       case ri => exact inv.ri
       case pi => exact fun q hq => inv.pi q (mem_withoutP.1 hq).1
       case ls => exact hlisted
       case lt =>
        intro j hj
        rw [set_listed (by rw [inv.ls]; exact his)]
        by_cases hij : p.1.i = j
        ·subst hij
         simp only [if_true, Bool.true_eq_false, false_iff, not_or, not_exists, not_and]
         exact ⟨fun y hy h => inv.rp y hy p hp h, fun q hq => (mem_withoutP.1 hq).2⟩
        ·rw [if_neg hij, inv.lt j hj]
         constructor
         ·rintro (hy | ⟨q, hq, rfl⟩)
          ·exact .inl hy
          ·exact .inr ⟨q, mem_withoutP.2 ⟨hq, fun h => hij h.symm⟩, rfl⟩
         ·rintro (hy | ⟨q, hq, rfl⟩)
          ·exact .inl hy
          ·exact .inr ⟨q, (mem_withoutP.1 hq).1, rfl⟩
       case dc => exact hdc
       case fu => have := inv.fu; rw [length_withoutP hp inv.np] at this; omega
       case nr => exact inv.nr
       case np => exact nodup_withoutP inv.np
       case rp => exact fun y hy q hq => inv.rp y hy q (mem_withoutP.1 hq).1
       case sz => have := inv.sz; cases hd : o.dst <;> simp [Act.put, this]
       case df =>
        have := inv.df
        cases hd : o.dst <;> exact this
       case rel =>
        intro r hr
        by_cases hrd : o.dst = some r
        ·rw [hrd, put_same (by rw [inv.sz]; exact hdN r (by rw [← hod]; exact hrd))]
         exact (inv.pv p hp r (by rw [← hod]; exact hrd)).symm
        ·rw [put_get hrd]
         refine inv.rel r fun q hq hqd => ?_
         by_cases hqi : q.1.i = p.1.i
         ·have hqp : q = p := by
           have : ∀ (l : List (It × Value)), (l.map (·.1.i)).Nodup → ∀ u v, u ∈ l → v ∈ l → v.1.i = u.1.i → v = u := by
            intro l
            induction l with
            | nil => intro _ u v hu; cases hu
            | cons z l ihl =>
              intro hn u v hu hv huv
              simp only [List.map_cons, List.nodup_cons] at hn
              rcases List.mem_cons.1 hu with hu1 | hu1
              ·rcases List.mem_cons.1 hv with hv1 | hv1
               ·rw [hu1, hv1]
               ·exact (hn.1 (List.mem_map.2 ⟨v, hv1, by rw [huv, hu1]⟩)).elim
              ·rcases List.mem_cons.1 hv with hv1 | hv1
               ·exact (hn.1 (List.mem_map.2 ⟨u, hu1, by rw [← huv, hv1]⟩)).elim
               ·exact ihl hn.2 u v hu1 hv1 huv
           exact this pend inv.np p q hp hq hqi
          subst hqp
          exact hrd (by rw [hod]; exact hqd)
         ·exact hr q (mem_withoutP.2 ⟨hq, hqi⟩) hqd
       case pv => exact fun q hq => inv.pv q (mem_withoutP.1 hq).1
       case la => exact fun q hq => inv.la q (mem_withoutP.1 hq).1
       case sr => exact fun q hq => inv.sr q (mem_withoutP.1 hq).1
       case sp => exact fun q hq r hr => inv.sp q (mem_withoutP.1 hq).1 r (mem_withoutP.1 hr).1
       case sd => exact fun q hq r hr => inv.sd q (mem_withoutP.1 hq).1 r (mem_withoutP.1 hr).1
      simp only [wpOps, ho]
      rcases inv.la p hp o a w0 w L ho hagree (by by_cases h : p.1.i ∈ sl <;> simp [Pn, h, hP]) s with ⟨h1, h2⟩ | ⟨h1, h2⟩
      ·rw [if_pos h1]
       left
       unfold Oper.wp
       rw [h2]
       exact rest
      ·rw [if_neg (by rw [h1]; simp)]
       rw [← h2]
       exact rest
theorem cIts_inv {ops : Array Oper} : ∀ {os : List Oper} {acc : List Nat} {i : Nat} {l : List It}, cIts P N ops acc i os = some l →
  l.length = os.length ∧ ∀ k x, l[k]? = some x → ∃ o, os[k]? = some o ∧ cIt P N ops (acc ++ (l.take k).map (·.ds)) (i + k) o = some x
 | [], acc, i, l, h => by simp [cIts] at h; subst h; simp
 | o :: os, acc, i, l, h => by
   simp only [cIts] at h
   split at h
   ·rename_i x hx
    split at h
    ·rename_i l' hl; cases h
     obtain ⟨h1, h2⟩ := cIts_inv hl
     refine ⟨by simp [h1], fun k y hy => ?_⟩
     cases k with
     | zero => simp at hy; subst hy; exact ⟨o, by simp, by simpa using hx⟩
     | succ k =>
       obtain ⟨o', ho', hc⟩ := h2 k y (by simpa using hy)
       refine ⟨o', by simpa using ho', ?_⟩
       rw [show i + (k + 1) = i + 1 + k by omega]
       simpa using hc
    ·cases h
   ·cases h
theorem All.of {ops : Array Oper} {all : List It} (h : cIts P N ops [] 0 ops.toList = some all) (hd : ops.toList.zipIdx.all (fun p => (direct p.1).all fun d => Nat.blt d p.2) = true) : All P N ops all := by
 obtain ⟨h1, h2⟩ := cIts_inv h
 refine ⟨fun i x hx => ?_, by simpa using h1⟩
 obtain ⟨o, ho, hc⟩ := h2 i x hx
 simp only [Nat.zero_add, ln] at hc
 unfold cIt at hc
 split at hc
 ·rename_i g hg; cases hc
  have ho' : ops[i]? = some o := by simpa using ho
  have hdir : ∀ d ∈ direct o, d < i := by
   intro d hdm
   have hm : (o, i) ∈ ops.toList.zipIdx := List.mk_mem_zipIdx_iff_getElem?.2 ho
   have := List.all_eq_true.1 hd _ hm
   have := List.all_eq_true.1 this d hdm
   simpa using this
  refine ⟨rfl, o, ho', hg, rfl, fun d hdm => ⟨hdir d hdm, (bit_clos _ _ _).2 ⟨d, hdm, .inl rfl⟩⟩, fun n hn => ?_⟩
  obtain ⟨d, hdm, hh⟩ := (bit_clos _ _ _).1 hn
  refine ⟨d, hdm, hh.imp id fun hb => ?_⟩
  have hlt := hdir d hdm
  have hil : i < all.length := (List.getElem?_eq_some_iff.1 hx).1
  have hdl : d < all.length := by omega
  refine ⟨all[d], List.getElem?_eq_getElem hdl, ?_⟩
  have : ((all.take i).map (·.ds)).getD d 0 = all[d].ds := by
   rw [List.getD_eq_getElem?_getD, List.getElem?_map, List.getElem?_take, if_pos hlt, List.getElem?_eq_getElem hdl]
   rfl
  rw [this] at hb
  exact hb
 ·cases hc
theorem Cx.rd {l : List It} {e : En} {K : Kx} {L : St} (h : Rx P N l [] (fun _ => True) e (Krg K) L) : Cx P N (.rd l) e K L := by
 intro code Q a w0 w hc ok s k
 obtain ⟨id, ops, rfl, hdep, hl, hd⟩ := cC_rd hc
 refine wp_region_draw fun t => ?_
 have A := All.of hl hd
 have hsch : Region.schedule (P.follows .mixedOrders) ops t = Region.linearise.go .any ops ops.size t (Array.replicate ops.size false) [] := by
  unfold Region.schedule
  rw [if_pos hdep]
  rfl
 rw [hsch]
 refine h ops l Q [] a a w0 w.drew ops.size t _ A ?_ ok s.drew trivial fun a' w' e' L' hk ok' s' => k .nm a' w' e' L' hk ok' s'
 have hnd : (l.map (·.i)) = List.range l.length := by
  apply List.ext_getElem
  ·simp
  ·intro i h1 h2
   have h3 : i < l.length := by simpa using h1
   simp only [List.getElem_map, List.getElem_range]
   exact (A.it i _ (List.getElem?_eq_getElem h3)).1
 constructor
 case ri =>
  intro x hx
  obtain ⟨i, hi⟩ := List.mem_iff_getElem?.1 hx
  have := (A.it i x hi).1
  rw [this]; exact hi
 case pi => intro p hp; cases hp
 case ls => simp
 case lt =>
  intro i hi
  have hi' : i < l.length := by rw [A.sz]; exact hi
  constructor
  ·intro _
   exact .inl ⟨l[i], List.getElem_mem hi', (A.it i _ (List.getElem?_eq_getElem hi')).1⟩
  ·intro _
   simp [Array.getD_eq_getD_getElem?, hi]
 case dc =>
  intro j o hj
  simp only [Array.getD_eq_getD_getElem?, Array.getElem?_replicate] at hj
  split at hj <;> cases hj
 case fu => simp [A.sz]
 case nr => rw [hnd]; exact List.nodup_range
 case np => simp
 case rp => intro x _ p hp; cases hp
 case sz => exact ok.size
 case df => rfl
 case rel => intro r _; rfl
 case pv => intro p hp; cases hp
 case la => intro p hp; cases hp
 case sr => intro p hp; cases hp
 case sp => intro p hp; cases hp
 case sd => intro p hp; cases hp
section
variable {rem rem' : List It} {sl : List Nat} {Φ : St → Prop} {e : En} {K : En → St → Prop} {L F : St}
theorem wanted_of {ops : Array Oper} {all : List It} (A : All P N ops all) {x : It} {o : Oper} (h : all[x.i]? = some x) (ho : ops[x.i]? = some o) (hg : x.g.g = none) (a : Act) : Region.wanted o (yielded ops a.tmps) = true := by
 obtain ⟨_, o', ho', hc, _⟩ := A.it _ _ h
 rw [ho] at ho'; cases ho'
 rcases (cG_inv hc).2.2.2 with ⟨h1, _⟩ | ⟨_, _, _, _, _, _, _, h2⟩
 ·simp [Region.wanted, h1]
 ·rw [hg] at h2; cases h2
def selfB (x : It) : Bool := match x.g.d with | some d => !(x.rs.contains d) | none => true
theorem selfB_iff {x : It} (h : selfB x = true) : ∀ d, x.g.d = some d → d ∉ x.rs := by
 intro d hd
 unfold selfB at h
 rw [hd] at h
 simpa using h
theorem Rx.nil (h : K e L) : Rx P N [] sl Φ e K L := .all (fun _ => h) fun x hx => by simp [readies] at hx
theorem Rx.pv {x : It} {φ : Prop} {v : Value} (j : Nat) (hx : rem[j]? = some x) (hg : x.g.g = none) (hp : Proofs.YtflalhdofhobmaaGreat.pv e x.g.s = some (φ, v)) (hφ : φ) (hs : (without rem x.i).all (sepB x) = true) (hself : selfB x = true)
  (k : Rx P N (without rem x.i) sl Φ (e.put x.g.d v) K L) : Rx P N rem sl Φ e K L := by
 refine Rx.eagerG (List.mem_of_getElem? hx) hs (selfB_iff hself) ?_ (fun i M _ h => h) id k
 intro ops all o a w0 w M A hax hox ok _ st
 obtain ⟨_, o', ho', hc, _⟩ := A.it _ _ hax
 rw [hox] at ho'; cases ho'
 exact .inl ⟨wanted_of A hax hox hg a, ok.runs (cG_inv hc).1 hp hφ w⟩
theorem Rx.on {x : It} {t : Nat} {b : Bool} {φ : Prop} {v : Value} (j : Nat) (hx : rem[j]? = some x) (hg : x.g.g = some (t, b)) (hb : e.get t = some (.bool b)) (hp : Proofs.YtflalhdofhobmaaGreat.pv e x.g.s = some (φ, v)) (hφ : φ) (hs : (without rem x.i).all (sepB x) = true) (hself : selfB x = true)
  (k : Rx P N (without rem x.i) sl Φ (e.put x.g.d v) K L) : Rx P N rem sl Φ e K L := by
 refine Rx.eagerG (List.mem_of_getElem? hx) hs (selfB_iff hself) ?_ (fun i M _ h => h) id k
 intro ops all o a w0 w M A hax hox ok _ st
 obtain ⟨_, o', ho', hc, _⟩ := A.it _ _ hax
 rw [hox] at ho'; cases ho'
 refine .inl ⟨?_, ok.runs (cG_inv hc).1 hp hφ w⟩
 rcases (cG_inv hc).2.2.2 with ⟨_, h1⟩ | ⟨j, want, q, t', hgo, hq, ht, h2⟩
 ·rw [hg] at h1; cases h1
 ·rw [hg] at h2
  simp only [Option.some.injEq, Prod.mk.injEq] at h2
  obtain ⟨rfl, rfl⟩ := h2
  have hy := yielded_of hq ht (ok.get _ _ hb)
  simp [Region.wanted, hgo, hy, boolOf]
theorem Rx.ldK {x : It} {d : Option Nat} {y : X} {n b off : Nat} {g : Bool} {vs : List Value} {v : Value} (j : Nat) (hx : rem[j]? = some x) (hg : x.g = ⟨d, none, .ld y n g⟩) (hy : y.get e = some (.pointer (some ⟨b, off, none⟩))) (hh : Has L b off vs) (hv : ldv n g vs = some v)
  (hs : (without rem x.i).all (sepB x) = true) (hself : selfB x = true) (k : Rx P N (without rem x.i) sl (fun M => Φ M ∧ Has M b off vs) (e.put d v) K L) : Rx P N rem sl Φ e K L := by
 have hd : x.g.d = d := by rw [hg]
 rw [← hd] at k
 refine Rx.eagerG (List.mem_of_getElem? hx) hs (selfB_iff hself) ?_ (fun i M _ h => h.imp id fun h => ⟨h.1, h.2.1⟩) (fun h => ⟨h, hh⟩) k
 intro ops all o a w0 w M A hax hox ok hM st
 obtain ⟨_, o', ho', hc, _⟩ := A.it _ _ hax
 rw [hox] at ho'; cases ho'
 have hs' := (cG_inv hc).1
 rw [hg] at hs'
 obtain ⟨t, z, ho, rfl, hag, hn⟩ := cS_ld hs'
 have hhM : Has M b off vs := by
  rcases hM with ⟨_, rfl⟩ | ⟨_, h⟩
  ·exact hh
  ·exact h.2
 exact .inl ⟨wanted_of A hax hox (by rw [hg]) a, ld_run ho hag hn (ok.eval hy) (hhM w0 w st) hv⟩
theorem Rx.ldS {x : It} {d : Option Nat} {y : X} {n b off : Nat} {g : Bool} {vs : List Value} {v : Value} (j : Nat) (hx : rem[j]? = some x) (hg : x.g = ⟨d, none, .ld y n g⟩) (hy : y.get e = some (.pointer (some ⟨b, off, none⟩))) (hh : Has L b off vs) (hv : ldv n g vs = some v)
  (hs : (without rem x.i).all (sepB x) = true) (hself : selfB x = true) (k : Rx P N (without rem x.i) (x.i :: sl) Φ (e.put d v) K L) : Rx P N rem sl Φ e K L := by
 have hd : x.g.d = d := by rw [hg]
 rw [← hd] at k
 refine Rx.eagerG (sl' := x.i :: sl) (List.mem_of_getElem? hx) hs (selfB_iff hself) ?_ (fun i M hi h => ?_) id k
 ·intro ops all o a w0 w M A hax hox ok hM st
  obtain ⟨_, o', ho', hc, _⟩ := A.it _ _ hax
  rw [hox] at ho'; cases ho'
  have hs' := (cG_inv hc).1
  rw [hg] at hs'
  obtain ⟨t, z, ho, rfl, hag, hn⟩ := cS_ld hs'
  have hhM : Has M b off vs := by
   rcases hM with ⟨_, rfl⟩ | ⟨h, _⟩
   ·exact hh
   ·exact absurd (by simp) h
  exact .inl ⟨wanted_of A hax hox (by rw [hg]) a, ld_run ho hag hn (ok.eval hy) (hhM w0 w st) hv⟩
 ·rcases h with ⟨h1, h2⟩ | ⟨h1, h2⟩
  ·exact .inl ⟨by rcases List.mem_cons.1 h1 with h | h; exact absurd h hi; exact h, h2⟩
  ·exact .inr ⟨fun h => h1 (List.mem_cons_of_mem _ h), h2⟩
theorem Rx.one {x : It} (hr : readies rem = [x]) (hsl : sl.all (bit x.ds) = true) (hw : without rem x.i = rem') (k : Sx P N [x.g] e (fun e' L' => Φ L' ∧ Rx P N rem' [] Φ e' K L') L) : Rx P N rem sl Φ e K L := by
 subst hw
 refine .all (fun h => ?_) fun y hy => ?_
 ·subst h; simp [readies] at hr
 ·rw [hr] at hy
  simp only [List.mem_singleton] at hy
  subst hy
  exact ⟨by simpa using hsl, k⟩
theorem Rx.two {x y : It} (hr : readies rem = [x, y]) (hsl : sl.all (bit x.ds) = true) (hsm : sl.all (bit y.ds) = true) (k : Sx P N [x.g] e (fun e' L' => Φ L' ∧ Rx P N (without rem x.i) [] Φ e' K L') L)
  (m : Sx P N [y.g] e (fun e' L' => Φ L' ∧ Rx P N (without rem y.i) [] Φ e' K L') L) : Rx P N rem sl Φ e K L := by
 refine .all (fun h => ?_) fun z hz => ?_
 ·subst h; simp [readies] at hr
 ·rw [hr] at hz
  simp only [List.mem_cons, List.not_mem_nil, or_false] at hz
  rcases hz with rfl | rfl
  ·exact ⟨by simpa using hsl, k⟩
  ·exact ⟨by simpa using hsm, m⟩
def okx (x : It) (kept l : List It) (e : En) : Option Value :=
 match x.g.g, plain x.g.s && ready x kept && kept.all (fun y => sepB x y && !(Nat.beq y.i x.i)) && l.all (fun y => sepB x y && !(Nat.beq y.i x.i)) && selfB x with
 | none, true => match Proofs.YtflalhdofhobmaaGreat.pv e x.g.s with
   | some (_, v) => some v
   | none => none
 | _, _ => none
def eag : List It → List It → En → List It × En
 | [], kept, e => (List.reverseAux kept [], e)
 | x :: l, kept, e => match okx x kept l e with
   | some v => eag l kept (e.put x.g.d v)
   | none => eag l (x :: kept) e
theorem without_mid {kept l : List It} {x : It} (h1 : ∀ y ∈ kept, y.i ≠ x.i) (h2 : ∀ y ∈ l, y.i ≠ x.i) : without (kept.reverse ++ x :: l) x.i = kept.reverse ++ l := by
 have hb : ∀ y : It, y.i ≠ x.i → (!(Nat.beq y.i x.i)) = true := fun y hy => by
  cases hb : Nat.beq y.i x.i with
  | false => rfl
  | true => exact absurd (bq hb) hy
 unfold without
 rw [List.filter_append, List.filter_cons]
 rw [List.filter_eq_self.2 (fun y hy => hb y (h1 y (by simpa using hy))), List.filter_eq_self.2 (fun y hy => hb y (h2 y hy))]
 simp
theorem Rx.eags : ∀ {todo kept : List It} {e e' : En} {rem' : List It}, eag todo kept e = (rem', e') → Rx P N rem' sl Φ e' K L → Rx P N (kept.reverse ++ todo) sl Φ e K L
 | [], kept, e, e', rem', h, k => by
   simp only [eag, Prod.mk.injEq] at h
   obtain ⟨h1, h2⟩ := h
   subst h1; subst h2
   simpa [List.reverseAux_eq] using k
 | x :: l, kept, e, e', rem', h, k => by
   simp only [eag] at h
   split at h
   ·rename_i v hv
    have ih := Rx.eags h k
    unfold okx at hv
    split at hv
    ·rename_i hg hc
     split at hv
     ·rename_i φ u hp; cases hv
      simp only [Bool.and_eq_true, List.all_eq_true, Bool.not_eq_true'] at hc
      obtain ⟨⟨⟨⟨h1, h2⟩, h3⟩, h4⟩, h5⟩ := hc
      have hne : ∀ y : It, Nat.beq y.i x.i = false → y.i ≠ x.i := fun y hy he => by rw [he] at hy; simp at hy
      have hw := without_mid (kept := kept) (l := l) (x := x) (fun y hy => hne y (h3 y hy).2) (fun y hy => hne y (h4 y hy).2)
      refine Rx.pv kept.length (x := x) (by simp) hg hp (plain_pv h1 hp) ?_ h5 (by rw [hw]; exact ih)
      rw [hw, List.all_eq_true]
      intro y hy
      rcases List.mem_append.1 hy with hy | hy
      ·exact (h3 y (by simpa using hy)).1
      ·exact (h4 y hy).1
     ·cases hv
    ·cases hv
   ·have ih := Rx.eags h k
    simpa using ih
theorem Rx.pvs {e' : En} (h : eag rem [] e = (rem', e')) (k : Rx P N rem' sl Φ e' K L) : Rx P N rem sl Φ e K L := by
 have := Rx.eags h k
 simpa using this
theorem Rx.ldbS {x : It} {d : Option Nat} {y : X} {b off : Nat} {T : TypeId} {cs : List Value} {v : Value} (j : Nat) [t : Take L (ad b) (Blk T cs) F] (hx : rem[j]? = some x) (hg : x.g = ⟨d, none, .ld y 1 false⟩) (hy : y.get e = some (.pointer (some ⟨b, off, none⟩)))
  (hv : cs[off]? = some v) (hs : (without rem x.i).all (sepB x) = true) (hself : selfB x = true) (k : Rx P N (without rem x.i) (x.i :: sl) Φ (e.put d v) K L) : Rx P N rem sl Φ e K L :=
 .ldS j hx hg hy ((Has.blk (T := T) (cs := cs) (n := 1)).one (take_one hv)) rfl hs hself k
theorem Rx.ldbK {x : It} {d : Option Nat} {y : X} {b off : Nat} {T : TypeId} {cs : List Value} {v : Value} (j : Nat) [t : Take L (ad b) (Blk T cs) F] (hx : rem[j]? = some x) (hg : x.g = ⟨d, none, .ld y 1 false⟩) (hy : y.get e = some (.pointer (some ⟨b, off, none⟩)))
  (hv : cs[off]? = some v) (hs : (without rem x.i).all (sepB x) = true) (hself : selfB x = true) (k : Rx P N (without rem x.i) sl (fun M => Φ M ∧ Has M b off [v]) (e.put d v) K L) : Rx P N rem sl Φ e K L :=
 .ldK j hx hg hy ((Has.blk (T := T) (cs := cs) (n := 1)).one (take_one hv)) rfl hs hself k
theorem Has.cell {b off : Nat} {T : TypeId} {cs : List Value} {v : Value} [t : Take L (ad b) (Blk T cs) F] (hv : cs[off]? = some v) : Has L b off [v] := (Has.blk (T := T) (cs := cs) (n := 1)).one (take_one hv)
end
end
end
section
open Go Go.RowKit
theorem Sat.start (w : World) : Sat w w [Old w] := by
 refine ⟨rfl, rfl, rfl, Nat.le_refl _, fun k => if k < w.heap.size then w.heap[k]? else none, ⟨_, Hp.no, fun _ => .inr rfl, ?_, fun _ => rfl, rfl⟩, ?_⟩
 ·funext k
  unfold Hp.join Hp.no
  simp
 ·intro k o h
  simp only at h
  split at h
  ·exact h
  ·cases h
theorem Sat.below {w w' : World} {L : St} (s : Sat w w' L) (h : Ent L [Old w]) : Below w.heap.size w w' := by
 obtain ⟨h, ⟨g, k, d, rfl, hg, hk⟩, hw⟩ := (s.ent h).heap
 refine ⟨s.os, s.tape, s.output, s.size, fun i hi => ?_⟩
 have h1 := hg i
 rw [if_pos hi] at h1
 rw [Array.getElem?_eq_getElem hi] at h1 ⊢
 exact hw i _ (Hp.join_left h1)
theorem Fx.below {P : Program} {f : FuncId} {vs : List Value} {w : World} (h : Fx P f vs [Old w] (fun v L' => v = .bool true ∧ Ent L' [Old w])) :
  Calls P f vs.toArray w fun e w' => e = .returned (.bool true) ∧ Below w.heap.size w w' :=
 (h w w (Sat.start w)).mono fun e w' ⟨v, L', he, ⟨hv, hL⟩, s⟩ => ⟨by rw [he, hv], s.below hL⟩
theorem Has.old {w : World} {L : St} (h : Ent L [Old w]) {b off : Nat} {vs : List Value} (hb : ∀ j v, vs[j]? = some v → w.cell? ⟨b, off + j, none⟩ = some v) : Has L b off vs := by
 intro w0 w1 s j v hj
 have hc := hb j v hj
 obtain ⟨h, ⟨g, k, d, rfl, hg, hk⟩, hw⟩ := (s.ent h).heap
 have hlt : b < w.heap.size := World.block_lt_of_cell? w ⟨b, off + j, none⟩ hc
 have h1 := hg b
 rw [if_pos hlt, Array.getElem?_eq_getElem hlt] at h1
 have h2 := hw b _ (Hp.join_left h1)
 unfold World.cell? at hc ⊢
 rw [Array.getElem?_eq_getElem hlt] at hc
 rw [h2]
 exact hc
end
section
open Go
section
variable {P : Program} {N : Nat} {e : En} {K : Kx} {L M F : St} {β : Type _}
def Kjn (K : Kx) (T : β → En) (S : β → St) : Kx
 | .nm, e, L => ∃ y, sub (T y) e ∧ Ent L (S y)
 | .rt, e, L => K .rt e L
 | .ex i, e, L => K (.ex i) e L
theorem Kjn.nm {T : β → En} {S : β → St} (y : β) (h1 : sub (T y) e) (h2 : Ent L (S y)) : Kjn K T S .nm e L := ⟨y, h1, h2⟩
theorem Kjn.rt {T : β → En} {S : β → St} (h : K .rt e L) : Kjn K T S .rt e L := h
theorem Kjn.ex {T : β → En} {S : β → St} {i : Nat} (h : K (.ex i) e L) : Kjn K T S (.ex i) e L := h
theorem Cx.jn {c d : C} (T : β → En) (S : β → St) (hc : Cx P N c e (Kjn (Ksq P N d K) T S) L) (hd : ∀ y, Cx P N d (T y) K (S y)) : Cx P N c e (Ksq P N d K) L := by
 intro code Q a w0 w hx ok s k
 refine hc code Q a w0 w hx ok s fun z a' w' e' L' hk ok' s' => ?_
 cases z with
 | nm =>
   obtain ⟨y, su, en⟩ := hk
   exact k .nm a' w' (T y) (S y) (hd y) (ok'.sub su) (s'.ent en)
 | rt => exact k .rt a' w' e' L' hk ok' s'
 | ex i => exact k (.ex i) a' w' e' L' hk ok' s'
end
def En.only (e : En) : List Nat → En
 | [] => []
 | t :: r => match e.get t with | some v => (t, v) :: En.only e r | none => En.only e r
theorem only_get {e : En} : ∀ {rs : List Nat} {t : Nat} {u : Value}, (e.only rs).get t = some u → t ∈ rs ∧ e.get t = some u
 | [], t, u, h => by simp [En.only, En.get] at h
 | a :: r, t, u, h => by
   unfold En.only at h
   split at h
   ·rename_i v hv
    simp only [En.get] at h
    cases hb : Nat.beq a t with
    | true =>
      rw [hb, cond_true] at h
      have := bq hb
      subst this
      cases h
      exact ⟨by simp, hv⟩
    | false =>
      rw [hb, cond_false] at h
      have := only_get h
      exact ⟨by simp [this.1], this.2⟩
   ·have := only_get h
    exact ⟨by simp [this.1], this.2⟩
theorem put_ne {e : En} {d : Option Nat} {v : Value} {t : Nat} (h : d ≠ some t) : (e.put d v).get t = e.get t := by
 cases d with
 | none => rfl
 | some i =>
   have hit : Nat.beq i t = false := by
    cases hb : Nat.beq i t with
    | false => rfl
    | true => exact absurd (by rw [bq hb]) h
   simp [En.put, En.get, hit]
theorem put_eq {e : En} {d : Nat} {v : Value} : (e.put (some d) v).get d = some v := by simp [En.put, En.get]
section
variable {P : Program} {N : Nat} {L F : St}
def Sc (P : Program) (N : Nat) (g : G) (e : En) (v : Value) (L : St) : Prop := ∀ K : En → St → Prop, K (e.put g.d v) L → Sx P N [g] e K L
def Calm (P : Program) (N : Nat) (L : St) : List It → En → En → Prop
 | [], e, fin => fin = e
 | x :: r, e, fin => ∃ v, (∀ e', sub (e.only x.rs) e' → Sc P N x.g e' v L) ∧ Calm P N L r (e.put x.g.d v) fin
def dOK (d : Option Nat) (rs : List Nat) : Bool := match d with | none => true | some d => !(rs.any (Nat.beq d))
def okL : List It → Bool
 | [] => true
 | x :: r => (dOK x.g.d x.rs && r.all (fun y => dOK y.g.d x.rs && dOK y.g.d (match x.g.d with | some d => [d] | none => []))) && okL r
def okD (l : List It) : Bool := l.all fun x => l.all fun y => dOK y.g.d x.rs || bit x.ds y.i
def okI : Nat → List It → Bool
 | _, [] => true
 | n, x :: r => Nat.beq x.i n && okI (n + 1) r
def chk (l : List It) : Bool := okL l && (okD l && okI 0 l)
theorem dOK_iff {d : Option Nat} {rs : List Nat} (h : dOK d rs = true) : ∀ t, d = some t → t ∉ rs := by
 rintro t rfl ht
 simp only [dOK, Bool.not_eq_true', List.any_eq_false] at h
 exact h t ht (by simp)
theorem okI_inj : ∀ {l : List It} {n : Nat}, okI n l = true → ∀ x ∈ l, n ≤ x.i ∧ ∀ y ∈ l, x.i = y.i → x = y
 | [], _, _, x, hx => by cases hx
 | a :: r, n, h, x, hx => by
   simp only [okI, Bool.and_eq_true] at h
   have ha := bq h.1
   have ih := okI_inj h.2
   rcases List.mem_cons.1 hx with rfl | hxr
   ·refine ⟨by omega, fun y hy he => ?_⟩
    rcases List.mem_cons.1 hy with rfl | hyr
    ·rfl
    ·have := (ih y hyr).1; omega
   ·have h1 := ih x hxr
    refine ⟨by omega, fun y hy he => ?_⟩
    rcases List.mem_cons.1 hy with rfl | hyr
    ·omega
    ·exact h1.2 y hyr he
theorem calm_far : ∀ {l : List It} {e fin : En}, Calm P N L l e fin → ∀ t, (∀ y ∈ l, y.g.d ≠ some t) → fin.get t = e.get t
 | [], _, _, h, t, _ => by rw [show _ = _ from h]
 | x :: r, e, fin, ⟨v, _, hr⟩, t, ht => by
   rw [calm_far hr t (fun y hy => ht y (by simp [hy])), put_ne (ht x (by simp))]
theorem calm_each : ∀ {l : List It} {e fin : En}, okL l = true → Calm P N L l e fin → ∀ x ∈ l, ∃ v, (∀ d, x.g.d = some d → fin.get d = some v) ∧
  ∀ e' : En, (∀ t ∈ x.rs, ∀ u, fin.get t = some u → e'.get t = some u) → Sc P N x.g e' v L
 | [], _, _, _, _, x, hx => by cases hx
 | a :: r, e, fin, ho, ⟨v, ha, hr⟩, x, hx => by
   simp only [okL, Bool.and_eq_true, List.all_eq_true] at ho
   obtain ⟨⟨h1, h2⟩, h3⟩ := ho
   rcases List.mem_cons.1 hx with rfl | hxr
   ·refine ⟨v, fun d hd => ?_, fun e' he => ha e' fun t u ht => ?_⟩
    ·rw [calm_far hr d (fun y hy hyd => by
      have := dOK_iff (h2 y hy).2 d hyd
      rw [hd] at this
      simp at this)]
     rw [hd]; exact put_eq
    ·obtain ⟨htr, hu⟩ := only_get ht
     refine he t htr u ?_
     rw [calm_far hr t (fun y hy hyd => dOK_iff (h2 y hy).1 t hyd htr), put_ne (fun hd => dOK_iff h1 t hd htr)]
     exact hu
   ·exact calm_each h3 hr x hxr
theorem without_lt {rem : List It} {x : It} (hx : x ∈ rem) : (without rem x.i).length < rem.length := by
 unfold without
 exact List.length_filter_lt_length_iff_exists.2 ⟨x, hx, by simp⟩
theorem calm_run {l : List It} {fin : En} {K : En → St → Prop} (hi : okI 0 l = true) (hd : okD l = true)
  (hH : ∀ x ∈ l, ∃ v, (∀ d, x.g.d = some d → fin.get d = some v) ∧ ∀ e' : En, (∀ t ∈ x.rs, ∀ u, fin.get t = some u → e'.get t = some u) → Sc P N x.g e' v L) (hK : ∀ e', sub fin e' → K e' L) :
  ∀ (n : Nat) (rem : List It), rem.length = n → (∀ x ∈ rem, x ∈ l) → ∀ e', (∀ t u, fin.get t = some u → (∀ y ∈ rem, y.g.d ≠ some t) → e'.get t = some u) → Rx P N rem [] (fun _ => True) e' K L := by
 intro n
 induction n using Nat.strongRecOn with
 | _ n ih =>
   intro rem hn hsub e' he
   refine Rx.all (fun h0 => hK e' fun t u ht => he t u ht (by rw [h0]; simp)) fun x hx => ⟨by simp, ?_⟩
   have hx1 : x ∈ rem ∧ ready x rem = true := by simpa [readies] using hx
   have hrd : ∀ y ∈ rem, bit x.ds y.i = false := by
    have := hx1.2
    simpa [ready] using this
   obtain ⟨v, hv, hS⟩ := hH x (hsub x hx1.1)
   refine hS e' (fun t ht u hu => he t u hu fun y hy hyd => ?_) _ ⟨trivial, ?_⟩
   ·simp only [okD, List.all_eq_true, Bool.or_eq_true] at hd
    rcases hd x (hsub x hx1.1) y (hsub y hy) with h | h
    ·exact dOK_iff h t hyd ht
    ·rw [hrd y hy] at h; cases h
   ·refine ih _ (by rw [← hn]; exact without_lt hx1.1) (without rem x.i) rfl (fun y hy => hsub y (mem_without.1 hy).1) _ fun t u ht hw => ?_
    by_cases hxt : x.g.d = some t
    ·have h1 := hv t hxt
     rw [ht] at h1
     rw [hxt, put_eq, ← h1]
    ·rw [put_ne hxt]
     refine he t u ht fun y hy hyd => ?_
     by_cases hyx : y.i = x.i
     ·have := (okI_inj hi y (hsub y hy)).2 x (hsub x hx1.1) hyx
      subst this
      exact hxt hyd
     ·exact hw y (mem_without.2 ⟨hy, hyx⟩) hyd
def Cm (P : Program) (N : Nat) (L : St) (l : List It) (e : En) (Kf : En → Prop) : Prop := ∃ fin, Calm P N L l e fin ∧ Kf fin
theorem Cx.calm {l : List It} {e : En} {d : C} {K : Kx} (hc : chk l = true) (h : Cm P N L l e fun fin => Cx P N d fin K L) : Cx P N (.rd l) e (Ksq P N d K) L := by
 obtain ⟨fin, hl, hk⟩ := h
 simp only [chk, Bool.and_eq_true] at hc
 refine Cx.rd (calm_run hc.2.2 hc.2.1 (calm_each hc.1 hl) (fun e' hs => ?_) _ l rfl (fun _ h => h) e fun t u ht hw => ?_)
 ·exact Cx.less hs hk
 ·rw [← calm_far hl t hw]; exact ht
theorem Cx.calmK {l : List It} {e : En} {K : Kx} (hm : ∀ e e', sub e e' → K .nm e L → K .nm e' L) (hc : chk l = true) (h : Cm P N L l e fun fin => K .nm fin L) : Cx P N (.rd l) e K L := by
 obtain ⟨fin, hl, hk⟩ := h
 simp only [chk, Bool.and_eq_true] at hc
 refine Cx.rd (calm_run hc.2.2 hc.2.1 (calm_each hc.1 hl) (fun e' hs => ?_) _ l rfl (fun _ h => h) e fun t u ht hw => ?_)
 ·exact hm _ _ hs hk
 ·rw [← calm_far hl t hw]; exact ht
theorem Kjn.mono {β : Type _} {K : Kx} {T : β → En} {S : β → St} : ∀ e e', sub e e' → Kjn K T S .nm e L → Kjn K T S .nm e' L :=
 fun e e' hs ⟨y, h1, h2⟩ => ⟨y, fun i v h => hs i v (h1 i v h), h2⟩
theorem Klp.mono {α : Type _} {K : Kx} {T : α → En} {S : α → St} {μ : α → Nat} {x : α} : ∀ e e', sub e e' → Klp K T S μ x .nm e L → Klp K T S μ x .nm e' L :=
 fun e e' hs ⟨y, h1, h2, h3⟩ => ⟨y, fun i v h => hs i v (h1 i v h), h2, h3⟩
section
variable {Kf : En → Prop} {e : En} {r : List It} {i ds : Nat} {rs : List Nat} {d : Option Nat} {g : Option (Nat × Bool)}
theorem Cm.nil (h : Kf e) : Cm P N L [] e Kf := ⟨e, rfl, h⟩
theorem Cm.done {c : C} {K : Kx} (h : Cx P N c e K L) : Cm P N L [] e (fun fin => Cx P N c fin K L) := .nil h
theorem Cm.cons {x : It} (v : Value) (h : ∀ e', sub (e.only x.rs) e' → Sc P N x.g e' v L) (k : Cm P N L r (e.put x.g.d v) Kf) : Cm P N L (x :: r) e Kf := by
 obtain ⟨fin, h1, h2⟩ := k
 exact ⟨fin, ⟨v, h, h1⟩, h2⟩
def gon (e : En) (g : Option (Nat × Bool)) : Bool := match g with
 | none => true
 | some (t, b) => match e.get t with | some (.bool c) => c == b | _ => false
theorem Sc.gon {T e' : En} {s : S} {v : Value} (hg : gon T g = true) (hs : sub T e') (h : Sc P N ⟨d, none, s⟩ e' v L) : Sc P N ⟨d, g, s⟩ e' v L := by
 unfold Proofs.YtflalhdofhobmaaGreat.gon at hg
 split at hg
 ·exact h
 ·rename_i t b
  split at hg
  ·rename_i c hc
   have hcb : c = b := by simpa using hg
   subst hcb
   exact fun K k => Sx.on (hs _ _ hc) (h K k)
  ·cases hg
theorem Sc.pv {T e' : En} {s : S} {φ : Prop} {v : Value} (hp : Proofs.YtflalhdofhobmaaGreat.pv T s = some (φ, v)) (hφ : φ) (hs : sub T e') : Sc P N ⟨d, none, s⟩ e' v L :=
 fun K k => Sx.step fun o a w0 w hc ok st => ⟨v, w, L, .inl ((ok.sub hs).runs hc hp hφ w), st, Sx.nil k⟩
theorem Cm.pv {s : S} {φ : Prop} {v : Value} (hg : gon (e.only rs) g = true) (hp : Proofs.YtflalhdofhobmaaGreat.pv (e.only rs) s = some (φ, v)) (hφ : φ) (k : Cm P N L r (e.put d v) Kf) : Cm P N L (⟨i, ds, rs, ⟨d, g, s⟩⟩ :: r) e Kf :=
 .cons v (fun e' hs => .gon hg hs (.pv hp hφ hs)) k
theorem Cm.off {t : Nat} {b : Bool} {s : S} (hb : offs (e.only rs) t b = true) (k : Cm P N L r (e.put d undef) Kf) : Cm P N L (⟨i, ds, rs, ⟨d, some (t, b), s⟩⟩ :: r) e Kf :=
 .cons undef (fun e' hs K k => Sx.off (by
  unfold offs at hb ⊢
  cases h1 : (e.only rs).get t with
  | none => rw [h1] at hb; simp at hb
  | some u => rw [hs _ _ h1]; rw [h1] at hb; exact hb) (Sx.nil k)) k
theorem X.get_sub {T e' : En} {x : X} {v : Value} (h : x.get T = some v) (hs : sub T e') : x.get e' = some v := by
 cases x with
 | t i => exact hs _ _ h
 | c u => exact h
theorem gets_sub {T e' : En} (hs : sub T e') : ∀ {xs : List X} {vs : List Value}, gets T xs = some vs → gets e' xs = some vs
 | [], _, h => h
 | x :: l, vs, h => by
   simp only [gets] at h ⊢
   split at h
   ·rename_i v hv
    split at h
    ·rename_i us hus
     rw [X.get_sub hv hs]
     simp only
     rw [gets_sub hs hus]
     exact h
    ·cases h
   ·cases h
theorem Cm.pk {c x y : X} {p q z : Bool} (hg : gon (e.only rs) g = true) (hc : c.get (e.only rs) = some (.bool p)) (hx : x.get (e.only rs) = some (.bool q)) (hy : y.get (e.only rs) = some (.bool z))
  (k : Cm P N L r (e.put d (.bool (pick p q z))) Kf) : Cm P N L (⟨i, ds, rs, ⟨d, g, .pk c x y⟩⟩ :: r) e Kf :=
 .cons _ (fun e' hs => .gon hg hs fun K k => Sx.pk (X.get_sub hc hs) (X.get_sub hx hs) (X.get_sub hy hs) (Sx.nil k)) k
theorem Cm.ld {x : X} {n b off : Nat} {ag : Bool} {vs : List Value} {v : Value} (hg : gon (e.only rs) g = true) (hx : x.get (e.only rs) = some (.pointer (some ⟨b, off, none⟩))) (hh : Has L b off vs) (hv : ldv n ag vs = some v)
  (k : Cm P N L r (e.put d v) Kf) : Cm P N L (⟨i, ds, rs, ⟨d, g, .ld x n ag⟩⟩ :: r) e Kf :=
 .cons v (fun e' hs => .gon hg hs fun K k => Sx.ld (X.get_sub hx hs) hh hv (Sx.nil k)) k
theorem Cm.ldb {x : X} {b off : Nat} {T : TypeId} {cs : List Value} {v : Value} [t : Take L (ad b) (Blk T cs) F] (hg : gon (e.only rs) g = true) (hx : x.get (e.only rs) = some (.pointer (some ⟨b, off, none⟩))) (hv : cs[off]? = some v)
  (k : Cm P N L r (e.put d v) Kf) : Cm P N L (⟨i, ds, rs, ⟨d, g, .ld x 1 false⟩⟩ :: r) e Kf :=
 .ld hg hx ((Has.blk (T := T) (cs := cs) (n := 1)).one (take_one hv)) rfl k
theorem Cm.ldbs {x : X} {b off n : Nat} {T : TypeId} {cs : List Value} [t : Take L (ad b) (Blk T cs) F] (hg : gon (e.only rs) g = true) (hx : x.get (e.only rs) = some (.pointer (some ⟨b, off, none⟩))) (hn : Nat.ble (off + n) cs.length = true)
  (k : Cm P N L r (e.put d (.agg ((cs.drop off).take n).toArray)) Kf) : Cm P N L (⟨i, ds, rs, ⟨d, g, .ld x n true⟩⟩ :: r) e Kf :=
 .cons _ (fun e' hs => .gon hg hs fun K k => Sx.ldbs (X.get_sub hx hs) hn (Sx.nil k)) k
theorem Cm.ca {f : FuncId} {xs : List X} {vs : List Value} {v : Value} (hg : gon (e.only rs) g = true) (hx : gets (e.only rs) xs = some vs) (hf : Fx P f vs L (fun v' L' => v' = v ∧ L = L')) (k : Cm P N L r (e.put d v) Kf) :
  Cm P N L (⟨i, ds, rs, ⟨d, g, .ca f xs⟩⟩ :: r) e Kf :=
 .cons v (fun e' hs => .gon hg hs fun K k => Sa (gets_sub hs hx) hf fun v' L' h => by
  obtain ⟨rfl, rfl⟩ := h
  exact Sx.nil k) k
def isPk : S → Bool
 | .pk _ _ _ => true
 | _ => false
def plainP (s : S) : Bool := isPk s || plain s
theorem isPk_pv {s : S} (h : isPk s = true) {φ : Prop} {v : Value} (hp : Proofs.YtflalhdofhobmaaGreat.pv e s = some (φ, v)) : φ := by
 obtain ⟨c, a, b, rfl⟩ : ∃ c a b, s = .pk c a b := by cases s <;> first | exact ⟨_, _, _, rfl⟩ | cases h
 simp only [Proofs.YtflalhdofhobmaaGreat.pv] at hp
 repeat' split at hp
 all_goals first | (cases hp; trivial) | cases hp
theorem plainP_pv {s : S} (h : plainP s = true) {φ : Prop} {v : Value} (hp : Proofs.YtflalhdofhobmaaGreat.pv e s = some (φ, v)) : φ := by
 rcases (Bool.or_eq_true _ _).mp h with h | h
 ·exact isPk_pv h hp
 ·exact plain_pv h hp
def stepM (x : It) (e : En) : Option Value :=
 bif gon (e.only x.rs) x.g.g then
  (bif plainP x.g.s then (match Proofs.YtflalhdofhobmaaGreat.pv (e.only x.rs) x.g.s with | some (_, v) => some v | none => none) else none)
 else (match x.g.g with | some (t, b) => (bif offs (e.only x.rs) t b then some undef else none) | none => none)
def eagM : List It → En → Option (List It × En)
 | x :: r, e => match stepM x e with
   | some v => match eagM r (e.put x.g.d v) with
     | some q => some q
     | none => some (r, e.put x.g.d v)
   | none => none
 | [], _ => none
theorem Cm.step {x : It} {v : Value} (h : stepM x e = some v) (k : Cm P N L r (e.put x.g.d v) Kf) : Cm P N L (x :: r) e Kf := by
 obtain ⟨i, ds, rs, d, g, s⟩ := x
 unfold stepM at h
 simp only at h
 cases hg : gon (e.only rs) g with
 | true =>
   rw [hg, cond_true] at h
   cases hp : plainP s with
   | false => rw [hp] at h; cases h
   | true =>
     rw [hp, cond_true] at h
     split at h
     ·rename_i φ u hu
      cases h
      exact Cm.pv hg hu (plainP_pv hp hu) k
     ·cases h
 | false =>
   rw [hg, cond_false] at h
   split at h
   ·rename_i t b
    cases hb : offs (e.only rs) t b with
    | true => rw [hb, cond_true] at h; cases h; exact Cm.off hb k
    | false => rw [hb] at h; cases h
   ·cases h
theorem Cm.pvs : ∀ {l l' : List It} {e e' : En}, eagM l e = some (l', e') → Cm P N L l' e' Kf → Cm P N L l e Kf
 | [], _, _, _, h, _ => by cases h
 | x :: r, l', e, e', h, k => by
   simp only [eagM] at h
   split at h
   ·rename_i v hv
    split at h
    ·rename_i q hq
     cases h
     exact Cm.step hv (Cm.pvs hq k)
    ·cases h
     exact Cm.step hv k
   ·cases h
end
end
section
variable {P : Program} {N : Nat} {e : En} {L F : St}
theorem cRs_cell {rs : List ResultVar} {t n : Nat} {g : Bool} (h : cRs P rs = some [.c t n g]) : ∃ ty, rs = [.cell t ty] ∧ szT P ty = some n ∧ isAggT P ty = some g := by
 match rs with
 | [] => simp [cRs] at h
 | [.tmp i] => simp [cRs, cR] at h
 | [.cell a ty] =>
   simp only [cRs, cR] at h
   cases h1 : szT P ty with
   | none => simp [h1] at h
   | some m =>
     cases h2 : isAggT P ty with
     | none => simp [h1, h2] at h
     | some q =>
       simp only [h1, h2, Option.some.injEq, List.cons.injEq, RV.c.injEq, and_true] at h
       obtain ⟨rfl, rfl, rfl⟩ := h
       exact ⟨ty, rfl, h1, h2⟩
 | r :: r' :: l =>
   simp only [cRs] at h
   split at h
   ·split at h
    ·rename_i _ _ us hus
     split at hus
     ·split at hus
      ·cases hus; simp at h
      ·cases hus
     ·cases hus
    ·cases h
   ·cases h
theorem Rv_cell {t n b off : Nat} {g : Bool} {vs : List Value} {v : Value} (h : e.get t = some (.pointer (some ⟨b, off, none⟩))) (hh : Has L b off vs) (hv : ldv n g vs = some v) : Rv P N [.c t n g] e L v := by
 intro fn a w0 w hr ok s
 obtain ⟨ty, hres, hs, hg⟩ := cRs_cell hr
 have hr2 : fn.results = #[.cell t ty] := by apply Array.ext'; simpa using hres
 have ht := ok.get _ _ h
 have hx : a.tmps.getD t undef = .pointer (some ⟨b, off, none⟩) := by simp [ht]
 have hc := hh w0 w s
 cases g
 ·unfold ldv at hv
  split at hv
  ·contradiction
  ·cases hv
   have h0 := hc 0 v rfl
   simp only [Nat.add_zero] at h0
   simp [results, hr2, ht, loadVar, isAggT_eq hg, h0, asAddr]
  ·cases hv
 ·simp only [ldv] at hv
  cases hb : Nat.beq vs.length n with
  | false => rw [hb] at hv; cases hv
  | true =>
    rw [hb] at hv; cases hv
    have hn := bq hb
    have hl := run_loadCells_list (P := P) w ⟨b, off, none⟩ vs (fun j v hj => by rw [partPlace]; exact hc j v hj)
    rw [hn] at hl
    simp [results, hr2, ht, loadVar, isAggT_eq hg, szT_eq hs, hl, asAddr]
theorem Kr_cell {R : Value → St → Prop} {t n b : Nat} {T : TypeId} {cs : List Value} {x : Ex} [i : Take L (ad b) (Blk T cs) F] (hx : x = .nm ∨ x = .rt) (h : e.get t = some (zp b)) (hn : Nat.beq cs.length n = true)
  {L' : St} (hL : Ent L L') (hR : R (.agg cs.toArray) L') : Kr P N [.c t n true] R x e L := by
 have hn' := bq hn
 refine ⟨hx, _, L', Rv_cell h (Has.blk (T := T) (cs := cs) (n := n) (off := 0)) ?_, hL, hR⟩
 simp [ldv, ← hn']
end
end
end Go.Proofs.YtflalhdofhobmaaGreat
