/-
  Heaplets, assertions as lists, the world that satisfies them: plain definitions and lemmas, over no program.
-/
import Derived.WalkKit
set_option linter.unusedSimpArgs false
namespace Go.Proofs.YtnbkjcmmjgkdaaaGreat
open Go

/-- A heaplet: some of a heap's blocks. -/
def Hp := Nat → Option Obj
def Hp.no : Hp := fun _ => Option.none
def Hp.one (b : Nat) (o : Obj) : Hp := fun k => if k = b then some o else Option.none
def Hp.join (g h : Hp) : Hp := fun k => (g k).or (h k)
def Hp.apart (g h : Hp) : Prop := ∀ k, g k = Option.none ∨ h k = Option.none
def Hp.le (g h : Hp) : Prop := ∀ k o, g k = some o → h k = some o
abbrev As := Hp → Prop
abbrev St := List As
/-- The parts of a list hold of parts of a heaplet that lie apart. -/
def holds : St → Hp → Prop
  | [], h => h = Hp.no
  | P :: l, h => ∃ g k, Hp.apart g k ∧ h = Hp.join g k ∧ P g ∧ holds l k

theorem Hp.ext {g h : Hp} (e : ∀ k, g k = h k) : g = h := funext e
theorem Hp.apart_symm {g h : Hp} (d : g.apart h) : h.apart g := fun k => (d k).symm
theorem Hp.join_comm {g h : Hp} (d : g.apart h) : g.join h = h.join g := by
  funext k; unfold Hp.join; rcases d k with e | e <;> simp [e]
theorem Hp.join_assoc (g h k : Hp) : (g.join h).join k = g.join (h.join k) := by
  funext i; unfold Hp.join; cases g i <;> simp
theorem Hp.join_left {g h : Hp} {i : Nat} {o : Obj} (e : g i = some o) : (g.join h) i = some o := by simp [Hp.join, e]
theorem Hp.join_right {g h : Hp} (d : g.apart h) {i : Nat} {o : Obj} (e : h i = some o) : (g.join h) i = some o := by
  rcases d i with f | f
  · simp [Hp.join, f, e]
  · rw [e] at f; cases f
theorem Hp.join_some {g h : Hp} {i : Nat} {o : Obj} (e : (g.join h) i = some o) : g i = some o ∨ h i = some o := by
  unfold Hp.join at e; cases hg : g i <;> simp_all
theorem Hp.apart_join {g h k : Hp} : g.apart (h.join k) ↔ g.apart h ∧ g.apart k := by
  constructor
  · intro d
    constructor <;> intro i <;> rcases d i with e | e
    · exact .inl e
    · right; unfold Hp.join at e; cases hh : h i <;> simp_all
    · exact .inl e
    · right; unfold Hp.join at e; cases hh : h i <;> simp_all
  · rintro ⟨a, b⟩ i
    rcases a i with e | e
    · exact .inl e
    · rcases b i with f | f
      · exact .inl f
      · right; simp [Hp.join, e, f]
theorem Hp.join_apart {g h k : Hp} : (g.join h).apart k ↔ g.apart k ∧ h.apart k := by
  constructor
  · intro d; have := Hp.apart_join.1 (Hp.apart_symm d); exact ⟨Hp.apart_symm this.1, Hp.apart_symm this.2⟩
  · rintro ⟨a, b⟩; exact Hp.apart_symm (Hp.apart_join.2 ⟨Hp.apart_symm a, Hp.apart_symm b⟩)

/-- One part may come ahead of another one. -/
theorem holds_swap {P Q : As} {l : St} {h : Hp} (H : holds (P :: Q :: l) h) : holds (Q :: P :: l) h := by
  obtain ⟨g, k, d, rfl, hp, g', k', d', rfl, hq, hl⟩ := H
  have ⟨d1, d2⟩ := Hp.apart_join.1 d
  refine ⟨g', g.join k', Hp.apart_join.2 ⟨Hp.apart_symm d1, d'⟩, ?_, hq, g, k', d2, rfl, hp, hl⟩
  rw [← Hp.join_assoc, ← Hp.join_assoc, Hp.join_comm d1]
theorem holds_cons {P : As} {l m : St} {h : Hp} (e : ∀ h, holds l h → holds m h) (H : holds (P :: l) h) : holds (P :: m) h := by
  obtain ⟨g, k, d, rfl, hp, hl⟩ := H
  exact ⟨g, k, d, rfl, hp, e _ hl⟩

/-- A part under its key. -/
def pt (a : Option Addr) (R : Option Addr → As) : As := R a

/-- The part of a key, taken ahead. -/
class Take (L : St) (a : Option Addr) (R : outParam (Option Addr → As)) (F : outParam St) : Prop where
  out : ∀ h, holds L h → holds (pt a R :: F) h
  back : ∀ h, holds (pt a R :: F) h → holds L h
instance (priority := high) Take.here (a : Option Addr) (R : Option Addr → As) (F : St) : Take (pt a R :: F) a R F := ⟨fun _ h => h, fun _ h => h⟩
instance Take.there (P : As) (L : St) (a : Option Addr) (R : Option Addr → As) (F : St) [t : Take L a R F] : Take (P :: L) a R (P :: F) :=
  ⟨fun _ h => holds_swap (holds_cons t.out h), fun _ h => holds_cons t.back (holds_swap h)⟩

/-- A world that holds what is told, with nothing turned outside the heap since the beginning. -/
structure Sat (w0 w : World) (L : St) : Prop where
  os : w.os = w0.os
  tape : w.tape = w0.tape
  output : w.output = w0.output
  size : w0.heap.size ≤ w.heap.size
  heap : ∃ h, holds L h ∧ ∀ k o, h k = some o → w.heap[k]? = some o

/-- What follows from it, letting parts go. -/
def Ent (L M : St) : Prop := ∀ h, holds L h → ∃ g, Hp.le g h ∧ holds M g
theorem Ent.of {L M : St} (e : ∀ h, holds L h → holds M h) : Ent L M := fun h H => ⟨h, fun _ _ x => x, e h H⟩
theorem Ent.refl (L : St) : Ent L L := .of fun _ H => H
theorem Ent.trans {L M N : St} (a : Ent L M) (b : Ent M N) : Ent L N := fun h H =>
  let ⟨g, l, G⟩ := a h H; let ⟨k, m, K⟩ := b g G; ⟨k, fun i o x => l i o (m i o x), K⟩
theorem Hp.apart_le {g h k : Hp} (l : Hp.le k h) (d : g.apart h) : g.apart k := by
  intro i
  rcases d i with e | e
  · exact .inl e
  · right
    cases hk : k i with
    | none => rfl
    | some o => rw [l i o hk] at e; cases e
theorem Hp.le_join {g h k : Hp} (l : Hp.le k h) (d : g.apart h) : Hp.le (g.join k) (g.join h) := by
  intro i o e
  rcases Hp.join_some e with e | e
  · exact Hp.join_left e
  · exact Hp.join_right d (l i o e)
theorem Ent.cons {P : As} {L M : St} (a : Ent L M) : Ent (P :: L) (P :: M) := by
  rintro h ⟨g, k, d, rfl, hp, hl⟩
  obtain ⟨k', l, hm⟩ := a k hl
  exact ⟨g.join k', Hp.le_join l d, g, k', Hp.apart_le l d, rfl, hp, hm⟩
theorem Ent.drop {P : As} {L : St} : Ent (P :: L) L := by
  rintro h ⟨g, k, d, rfl, _, hl⟩
  exact ⟨k, fun i o e => Hp.join_right d e, hl⟩
theorem Ent.take {L : St} {a : Option Addr} {R : Option Addr → As} {F : St} [t : Take L a R F] : Ent L (pt a R :: F) := .of t.out
theorem Ent.put {L : St} {a : Option Addr} {R : Option Addr → As} {F : St} [t : Take L a R F] : Ent (pt a R :: F) L := .of t.back
theorem Ent.swap {P Q : As} {L : St} : Ent (P :: Q :: L) (Q :: P :: L) := .of fun _ H => holds_swap H
/-- A part exchanged for another one that follows from it. -/
theorem Ent.head {P Q : As} {L : St} (e : ∀ g, P g → Q g) : Ent (P :: L) (Q :: L) :=
  .of fun _ ⟨g, k, d, hj, hp, hl⟩ => ⟨g, k, d, hj, e g hp, hl⟩
theorem Sat.ent {w0 w : World} {L M : St} (s : Sat w0 w L) (e : Ent L M) : Sat w0 w M := by
  obtain ⟨h, H, hw⟩ := s.heap
  obtain ⟨g, l, G⟩ := e h H
  exact ⟨s.os, s.tape, s.output, s.size, g, G, fun k o x => hw k o (l k o x)⟩

/-- A pure fact as a part. -/
def lift (p : Prop) : As := fun h => p ∧ h = Hp.no
/-- One of many. -/
def exs {α : Sort _} (f : α → St) : As := fun h => ∃ x, holds (f x) h

theorem holds_append {L M : St} {h : Hp} : holds (L ++ M) h ↔ ∃ g k, Hp.apart g k ∧ h = Hp.join g k ∧ holds L g ∧ holds M k := by
  induction L generalizing h with
  | nil =>
    constructor
    · intro H
      exact ⟨Hp.no, h, fun _ => .inl rfl, by funext k; simp [Hp.join, Hp.no], rfl, H⟩
    · rintro ⟨g, k, d, rfl, rfl, H⟩
      have e : Hp.join Hp.no k = k := by funext i; simp [Hp.join, Hp.no]
      rw [e]; exact H
  | cons P L ih =>
    constructor
    · rintro ⟨g, k, d, rfl, hp, hl⟩
      obtain ⟨g', k', d', rfl, h1, h2⟩ := ih.1 hl
      have ⟨d1, d2⟩ := Hp.apart_join.1 d
      exact ⟨g.join g', k', Hp.join_apart.2 ⟨d2, d'⟩, (Hp.join_assoc _ _ _).symm, ⟨g, g', d1, rfl, hp, h1⟩, h2⟩
    · rintro ⟨g, k, d, rfl, ⟨g1, g2, d1, rfl, hp, hl⟩, hm⟩
      have ⟨d2, d3⟩ := Hp.join_apart.1 d
      exact ⟨g1, g2.join k, Hp.apart_join.2 ⟨d1, d2⟩, Hp.join_assoc _ _ _, hp, ih.2 ⟨g2, k, d3, rfl, hl, hm⟩⟩
theorem holds_ex {α : Sort _} {f : α → St} {L : St} {h : Hp} : holds (exs f :: L) h ↔ ∃ x, holds (f x ++ L) h := by
  constructor
  · rintro ⟨g, k, d, rfl, ⟨x, hx⟩, hl⟩
    exact ⟨x, holds_append.2 ⟨g, k, d, rfl, hx, hl⟩⟩
  · rintro ⟨x, H⟩
    obtain ⟨g, k, d, rfl, hx, hl⟩ := holds_append.1 H
    exact ⟨g, k, d, rfl, ⟨x, hx⟩, hl⟩
theorem holds_lift {p : Prop} {L : St} {h : Hp} : holds (lift p :: L) h ↔ p ∧ holds L h := by
  constructor
  · rintro ⟨g, k, d, rfl, ⟨hp, rfl⟩, hl⟩
    have e : Hp.join Hp.no k = k := by funext i; simp [Hp.join, Hp.no]
    rw [e]; exact ⟨hp, hl⟩
  · rintro ⟨hp, hl⟩
    exact ⟨Hp.no, h, fun _ => .inl rfl, by funext k; simp [Hp.join, Hp.no], ⟨hp, rfl⟩, hl⟩

/-- The cells of a block of the call's own. -/
def Blk (T : TypeId) (cs : List Value) : Option Addr → As := fun a h => ∃ g, a = some ⟨g, 0, none⟩ ∧ h = Hp.one g (.cells cs.toArray T (0, 0))
/-- A slice of the call's own: n elements of E, each of sz cells; nil, or at the head of a block of its own. -/
def Row (E sz n cap : Nat) (xs : List Value) : Option Addr → As := fun a h =>
  xs.length = n * sz ∧ ((a = none ∧ n = 0 ∧ cap = 0 ∧ h = Hp.no) ∨
    ∃ g cur, a = some ⟨g, 0, none⟩ ∧ h = Hp.one g (.cells cur E (0, 0)) ∧ n ≤ cap ∧ cap ≤ maxLen ∧ cur.size = cap * sz ∧ cur.toList.take (n * sz) = xs)
/-- What there was at the beginning. -/
def Old (w0 : World) : As := fun h => ∀ k, h k = if k < w0.heap.size then w0.heap[k]? else none

/-- A part's blocks, in a world that holds it. -/
theorem Sat.head {w0 w : World} {P : As} {L : St} (s : Sat w0 w (P :: L)) : ∃ g k, Hp.apart g k ∧ P g ∧ holds L k ∧ (∀ i o, g i = some o → w.heap[i]? = some o) ∧ (∀ i o, k i = some o → w.heap[i]? = some o) := by
  obtain ⟨h, ⟨g, k, d, rfl, hp, hl⟩, hw⟩ := s.heap
  exact ⟨g, k, d, hp, hl, fun i o e => hw i o (Hp.join_left e), fun i o e => hw i o (Hp.join_right d e)⟩
theorem Hp.one_same (b : Nat) (o : Obj) : Hp.one b o b = some o := by simp [Hp.one]
theorem Hp.one_some {b i : Nat} {o x : Obj} (e : Hp.one b o i = some x) : i = b ∧ o = x := by
  unfold Hp.one at e; split at e <;> simp_all
theorem Hp.one_apart {b : Nat} {o : Obj} {k : Hp} : (Hp.one b o).apart k ↔ k b = none := by
  constructor
  · intro d; rcases d b with e | e
    · simp [Hp.one] at e
    · exact e
  · intro e i
    by_cases h : i = b
    · subst h; exact .inr e
    · left; simp [Hp.one, h]
/-- The blocks of a list are blocks of the world. -/
theorem Sat.lt {w : World} {k : Hp} (hw : ∀ i o, k i = some o → w.heap[i]? = some o) : k w.heap.size = none := by
  cases h : k w.heap.size with
  | none => rfl
  | some o => have := hw _ _ h; simp at this
theorem Sat.blk {w0 w : World} {L : St} {g : Nat} {T : TypeId} {cs : List Value} {F : St} [t : Take L (some ⟨g, 0, none⟩) (Blk T cs) F] (s : Sat w0 w L) :
    w.heap[g]? = some (.cells cs.toArray T (0, 0)) := by
  obtain ⟨g', k, d, ⟨g1, e1, rfl⟩, hl, h1, h2⟩ := (s.ent (Ent.of t.out)).head
  cases e1
  exact h1 _ _ (Hp.one_same _ _)
/-- A new block. -/
theorem Sat.alloc {w0 w : World} {L : St} (s : Sat w0 w L) (T : TypeId) (cs : List Value) :
    Sat w0 (w.alloc (.cells cs.toArray T)) (pt (some ⟨w.heap.size, 0, none⟩) (Blk T cs) :: L) := by
  obtain ⟨h, H, hw⟩ := s.heap
  have hn := Sat.lt hw
  refine ⟨s.os, s.tape, s.output, by have := s.size; simp; omega, (Hp.one w.heap.size (.cells cs.toArray T (0, 0))).join h,
    ⟨_, h, Hp.one_apart.2 hn, rfl, ⟨_, rfl, rfl⟩, H⟩, fun i o e => ?_⟩
  rcases Hp.join_some e with e | e
  · obtain ⟨rfl, rfl⟩ := Hp.one_some e
    exact heap_alloc_new _ _
  · have := hw _ _ e
    rw [heap_alloc_old]
    · exact this
    · exact (Array.getElem?_eq_some_iff.1 this).1
theorem Sat.drew {w0 w : World} {L : St} (s : Sat w0 w L) : Sat w0 w.drew L := ⟨s.os, s.tape, s.output, s.size, s.heap⟩
/-- A block of the call's own holds something else: whatever the world does to that block alone. -/
theorem Sat.turn {w0 w w' : World} {L : St} {g : Nat} {T : TypeId} {cs : List Value} {F : St} [t : Take L (some ⟨g, 0, none⟩) (Blk T cs) F] (s : Sat w0 w L) (ds : List Value)
    (ho : w'.os = w.os) (ht : w'.tape = w.tape) (hu : w'.output = w.output) (hz : w'.heap.size = w.heap.size) (hg : w'.heap[g]? = some (.cells ds.toArray T (0, 0))) (hk : ∀ k, k ≠ g → w'.heap[k]? = w.heap[k]?) :
    Sat w0 w' (pt (some ⟨g, 0, none⟩) (Blk T ds) :: F) := by
  obtain ⟨g', k, d, ⟨g1, e1, rfl⟩, hl, h1, h2⟩ := (s.ent (Ent.of t.out)).head
  cases e1
  have dk := Hp.one_apart.1 d
  refine ⟨ho.trans s.os, ht.trans s.tape, hu.trans s.output, by rw [hz]; exact s.size, (Hp.one g (.cells ds.toArray T (0, 0))).join k, ⟨_, k, Hp.one_apart.2 dk, rfl, ⟨_, rfl, rfl⟩, hl⟩, fun i o e => ?_⟩
  rcases Hp.join_some e with e1 | e1
  · obtain ⟨rfl, rfl⟩ := Hp.one_some e1
    exact hg
  · have : i ≠ g := fun h => by subst h; rw [dk] at e1; cases e1
    rw [hk i this]
    exact h2 _ _ e1

end Go.Proofs.YtnbkjcmmjgkdaaaGreat
