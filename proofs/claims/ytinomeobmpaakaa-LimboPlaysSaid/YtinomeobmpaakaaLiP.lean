/-
  LimboPlays' walk: whatever is retired and asked for: what each call answers, what is in each bucket, are what the document's limbo says.
-/
import Derived.Test.YtinomeobmpaakaaLiO
import Derived.Test.YtinomeobmpaakaaLiL
import Derived.Test.YtinomeobmpaakaaSlQ
set_option linter.unusedVariables false
set_option linter.unusedSimpArgs false
namespace Go.Proofs.Ytinomeobmpaakaa
open Go
attribute [local irreducible] Sx Cx Rx Fx Krg Ksq Kbl Klp Kr

section
variable {L F : St}
/-- A row of a slice of structs. -/
theorem Rd.row_ {sz : Nat} {a : Option Addr} {i : Nat} {rows : List (List Value)} {r : List Value} (h : Rd L sz a rows.length rows.flatten) (hl : ∀ r ∈ rows, r.length = sz) (hr : rows[i]? = some r) : ∃ b o, a = some ⟨b, o, none⟩ ∧ Has L b (o + i * sz) r := by
  obtain ⟨h1, h0 | ⟨b, o, rfl, h2⟩⟩ := h
  · have := (List.getElem?_eq_some_iff.1 hr).1; omega
  · refine ⟨b, o, rfl, ?_⟩
    have := Has.sub (i := i * sz) (n := sz) h2
    rwa [flat_row rows hl hr] at this
/-- One thing done. -/
def Did (w : World) (r : List Value) (xs : List Int) : Prop := ∃ (k tg : Int) (u : Value), r = [.int .i64 k, .int .i64 tg, u] ∧ -9223372036854775808 ≤ tg ∧ tg ≤ 9223372036854775807 ∧ In w 1 u xs.length (ints xs)
theorem limbos_of {w : World} {rows : List (List Value)} (h : ∀ r ∈ rows, ∃ xs, Did w r xs) : ∃ f : Nat → List Int, ∀ i r, rows[i]? = some r → Did w r (f i) := by
  have h1 : ∀ i : Nat, ∃ xs : List Int, ∀ r : List Value, rows[i]? = some r → Did w r xs := by
    intro i
    cases hu : rows[i]? with
    | none => exact ⟨[], fun _ h => by cases h⟩
    | some r =>
      obtain ⟨xs, hx⟩ := h r (List.mem_of_getElem? hu)
      exact ⟨xs, fun z hz => by cases hz; exact hx⟩
  exact ⟨fun i => Classical.choose (h1 i), fun i => Classical.choose_spec (h1 i)⟩
theorem size_retire (m : Lm) (tag : Int) (ys : List Int) : (retireM m tag ys).size ≤ m.size + ys.length ∧ (outM m tag).length ≤ m.size := by
  have hlt : bucketOf tag < 3 := Nat.mod_lt _ (by omega)
  unfold retireM outM
  generalize bucketOf tag = k at *
  rcases (show k = 0 ∨ k = 1 ∨ k = 2 by omega) with rfl | rfl | rfl <;> constructor <;> split <;> simp [Lm.size, Lm.put, Lm.items] <;> omega
theorem size_ready (now : Int) (m : Lm) : (readyAll now m).1.length + (readyAll now m).2.size = m.size := by
  by_cases h : 2 ≤ now
  · have := readyAll_spec (m := m) h
    rw [this.1, this.2.length_eq]
    unfold opened closeAll Lm.size
    simp only [List.length_append]
    cases m.open_ now 0 <;> cases m.open_ now 1 <;> cases m.open_ now 2 <;> simp <;> omega
  · unfold readyAll
    rw [if_neg h]; simp
theorem refReadyK {b : Nat} {m : Lm} {now : Int} {F : St} [t : Take L (some ⟨b, 0, none⟩) (RLimboO m) F] (hb : m.size ≤ 100000000) (hnow : now ≤ 9223372036854775807) :
    Fx Try.prog 48 [.pointer (some ⟨b, 0, none⟩), .int .i64 now] L (fun v L' => ∃ ro co, ((readyAll now m).1.length = 0 ∨ ∃ g, ro = some ⟨g, 0, none⟩) ∧ v = .slice ro (readyAll now m).1.length co ∧
      L' = pt ro (Row 3 1 (readyAll now m).1.length co (ints (readyAll now m).1)) :: pt (some ⟨b, 0, none⟩) (RLimboO (readyAll now m).2) :: F) := by
  refine ((refReady (t := t) hb hnow).pure (p := fun v L' => ∀ ro co, v = .slice ro (readyAll now m).1.length co → ((readyAll now m).1.length = 0 ∨ ∃ g, ro = some ⟨g, 0, none⟩)) ?_).mono ?_
  · rintro v L' ⟨ro, co, rfl, rfl⟩ h hh r' c' e
    cases e
    obtain ⟨_, _, _, k⟩ := Row.key (a := ro) (E := 3) (sz := 1) h hh
    exact k.imp (fun h => h.2.1) id
  · rintro v L' ⟨⟨ro, co, rfl, rfl⟩, hk⟩
    exact ⟨ro, co, hk ro co rfl, rfl, rfl⟩
set_option maxHeartbeats 8000000 in
theorem limboPlays {w : World} {v : Value} {rows : List (List Value)} {f : Nat → List Int} (hv : In w 3 v rows.length rows.flatten) (hl : ∀ r ∈ rows, r.length = 3)
    (hu : ∀ i r, rows[i]? = some r → Did w r (f i)) :
    Fx Try.prog 12 [v] [Old w] (fun v L' => v = .bool true ∧ Ent L' [Old w]) := by
  obtain ⟨hn, a, c, rfl, hR⟩ := hv.rd
  have hmx : maxLen = 9223372036854775807 := rfl
  refine Fx.mk Try.func12 k12 (Nat.le_of_ble_eq_true rfl) ?_
  dsimp only [c12, envOf, Nat.reduceAdd]
  repeat' (first | (refine Sx.pvs rfl ?_) | (refine Sx.nil ?_) | (refine Krg.i ?_) | (refine Ksq.nm ?_) | (refine Ksq.rt ?_) | (refine Ksq.ex ?_) | (refine Kbl.nm ?_) | (refine Kbl.rt ?_) | (refine Kbl.hit rfl ?_) | (refine Kbl.miss rfl ?_) | (refine Klp.rt ?_) | (refine Klp.ex ?_) | (refine Cx.sq ?_) | (refine Cx.rg ?_) | (refine Cx.bl ?_) | (refine Cx.sk ?_) | (refine Cx.rt ?_) | (refine Cx.ex ?_) | (refine Cx.yes rfl ?_) | (refine Cx.no rfl ?_) | (refine Sx.on rfl ?_) | (refine Sx.off rfl ?_) | (refine Sx.ldb rfl (by rfl) ?_) | (refine Sx.ldbs rfl rfl ?_) | (refine Sx.stb rfl rfl rfl rfl (by rfl) (by rfl) ?_) | (refine Sx.pv rfl trivial ?_) | (refine Sx.pk rfl rfl rfl ?_))
  refine Sx.ca rfl limboFirst ?_
  rintro v L' ⟨rfl, rfl⟩
  repeat' (first | (refine Sx.pvs rfl ?_) | (refine Sx.nil ?_) | (refine Krg.i ?_) | (refine Ksq.nm ?_) | (refine Ksq.rt ?_) | (refine Ksq.ex ?_) | (refine Kbl.nm ?_) | (refine Kbl.rt ?_) | (refine Kbl.hit rfl ?_) | (refine Kbl.miss rfl ?_) | (refine Klp.rt ?_) | (refine Klp.ex ?_) | (refine Cx.sq ?_) | (refine Cx.rg ?_) | (refine Cx.bl ?_) | (refine Cx.sk ?_) | (refine Cx.rt ?_) | (refine Cx.ex ?_) | (refine Cx.yes rfl ?_) | (refine Cx.no rfl ?_) | (refine Sx.on rfl ?_) | (refine Sx.off rfl ?_) | (refine Sx.ldb rfl (by rfl) ?_) | (refine Sx.ldbs rfl rfl ?_) | (refine Sx.stb rfl rfl rfl rfl (by rfl) (by rfl) ?_) | (refine Sx.pv rfl trivial ?_) | (refine Sx.pk rfl rfl rfl ?_))
  refine Cx.ifp rfl (fun h => ?_) (fun hlen => ?_)
  · repeat' (first | (refine Sx.pvs rfl ?_) | (refine Sx.nil ?_) | (refine Krg.i ?_) | (refine Ksq.nm ?_) | (refine Ksq.rt ?_) | (refine Ksq.ex ?_) | (refine Kbl.nm ?_) | (refine Kbl.rt ?_) | (refine Kbl.hit rfl ?_) | (refine Kbl.miss rfl ?_) | (refine Klp.rt ?_) | (refine Klp.ex ?_) | (refine Cx.sq ?_) | (refine Cx.rg ?_) | (refine Cx.bl ?_) | (refine Cx.sk ?_) | (refine Cx.rt ?_) | (refine Cx.ex ?_) | (refine Cx.yes rfl ?_) | (refine Cx.no rfl ?_) | (refine Sx.on rfl ?_) | (refine Sx.off rfl ?_) | (refine Sx.ldb rfl (by rfl) ?_) | (refine Sx.ldbs rfl rfl ?_) | (refine Sx.stb rfl rfl rfl rfl (by rfl) (by rfl) ?_) | (refine Sx.pv rfl trivial ?_) | (refine Sx.pk rfl rfl rfl ?_))
    exact Kr.one (.inr rfl) rfl (Ent.refl _) ⟨rfl, Ent.refl _⟩
  repeat' (first | (refine Sx.pvs rfl ?_) | (refine Sx.nil ?_) | (refine Krg.i ?_) | (refine Ksq.nm ?_) | (refine Ksq.rt ?_) | (refine Ksq.ex ?_) | (refine Kbl.nm ?_) | (refine Kbl.rt ?_) | (refine Kbl.hit rfl ?_) | (refine Kbl.miss rfl ?_) | (refine Klp.rt ?_) | (refine Klp.ex ?_) | (refine Cx.sq ?_) | (refine Cx.rg ?_) | (refine Cx.bl ?_) | (refine Cx.sk ?_) | (refine Cx.rt ?_) | (refine Cx.ex ?_) | (refine Cx.yes rfl ?_) | (refine Cx.no rfl ?_) | (refine Sx.on rfl ?_) | (refine Sx.off rfl ?_) | (refine Sx.ldb rfl (by rfl) ?_) | (refine Sx.ldbs rfl rfl ?_) | (refine Sx.stb rfl rfl rfl rfl (by rfl) (by rfl) ?_) | (refine Sx.pv rfl trivial ?_) | (refine Sx.pk rfl rfl rfl ?_))
  generalize hk : rows.length = k at *
  refine Sx.ca rfl limboNew ?_
  rintro v L' ⟨s, rfl, rfl⟩
  repeat' (first | (refine Sx.pvs rfl ?_) | (refine Sx.nil ?_) | (refine Krg.i ?_) | (refine Ksq.nm ?_) | (refine Ksq.rt ?_) | (refine Ksq.ex ?_) | (refine Kbl.nm ?_) | (refine Kbl.rt ?_) | (refine Kbl.hit rfl ?_) | (refine Kbl.miss rfl ?_) | (refine Klp.rt ?_) | (refine Klp.ex ?_) | (refine Cx.sq ?_) | (refine Cx.rg ?_) | (refine Cx.bl ?_) | (refine Cx.sk ?_) | (refine Cx.rt ?_) | (refine Cx.ex ?_) | (refine Cx.yes rfl ?_) | (refine Cx.no rfl ?_) | (refine Sx.on rfl ?_) | (refine Sx.off rfl ?_) | (refine Sx.ldb rfl (by rfl) ?_) | (refine Sx.ldbs rfl rfl ?_) | (refine Sx.stb rfl rfl rfl rfl (by rfl) (by rfl) ?_) | (refine Sx.pv rfl trivial ?_) | (refine Sx.pk rfl rfl rfl ?_))
  refine Sx.ca rfl refLimboNew ?_
  rintro v L' ⟨x, rfl, rfl⟩
  repeat' (first | (refine Sx.pvs rfl ?_) | (refine Sx.nil ?_) | (refine Krg.i ?_) | (refine Ksq.nm ?_) | (refine Ksq.rt ?_) | (refine Ksq.ex ?_) | (refine Kbl.nm ?_) | (refine Kbl.rt ?_) | (refine Kbl.hit rfl ?_) | (refine Kbl.miss rfl ?_) | (refine Klp.rt ?_) | (refine Klp.ex ?_) | (refine Cx.sq ?_) | (refine Cx.rg ?_) | (refine Cx.bl ?_) | (refine Cx.sk ?_) | (refine Cx.rt ?_) | (refine Cx.ex ?_) | (refine Cx.yes rfl ?_) | (refine Cx.no rfl ?_) | (refine Sx.on rfl ?_) | (refine Sx.off rfl ?_) | (refine Sx.ldb rfl (by rfl) ?_) | (refine Sx.ldbs rfl rfl ?_) | (refine Sx.stb rfl rfl rfl rfl (by rfl) (by rfl) ?_) | (refine Sx.pv rfl trivial ?_) | (refine Sx.pk rfl rfl rfl ?_))
  refine Cx.lp (α := {p : Nat × Lm // p.1 ≤ k ∧ p.2.size ≤ 40 * p.1}) (fun p => [(0, .slice a k c), (3, .bool true), (4, .pointer (some ⟨s, 0, none⟩)), (5, .pointer (some ⟨x, 0, none⟩)), (6, .int .i64 p.1.1)])
    (fun p => pt (some ⟨s, 0, none⟩) (LimboO p.1.2) :: pt (some ⟨x, 0, none⟩) (RLimboO p.1.2) :: [Old w]) (fun p => k - p.1.1) ⟨(0, Lm.nil), by omega, by simp [Lm.size, Lm.nil]⟩ (sub.cons rfl (sub.cons rfl (sub.cons rfl (sub.cons rfl (sub.cons rfl sub.nil))))) (by repeat (first | exact Ent.refl _ | (refine Ent.take1 ?_) | (refine Ent.trans Ent.drop ?_))) ?_
  rintro ⟨⟨i, m⟩, hi, hX⟩
  dsimp only at hi hX ⊢
  have hX2 : m.size ≤ 2400 := by omega
  repeat' (first | (refine Sx.pvs rfl ?_) | (refine Sx.nil ?_) | (refine Krg.i ?_) | (refine Ksq.nm ?_) | (refine Ksq.rt ?_) | (refine Ksq.ex ?_) | (refine Kbl.nm ?_) | (refine Kbl.rt ?_) | (refine Kbl.hit rfl ?_) | (refine Kbl.miss rfl ?_) | (refine Klp.rt ?_) | (refine Klp.ex ?_) | (refine Cx.sq ?_) | (refine Cx.rg ?_) | (refine Cx.bl ?_) | (refine Cx.sk ?_) | (refine Cx.rt ?_) | (refine Cx.ex ?_) | (refine Cx.yes rfl ?_) | (refine Cx.no rfl ?_) | (refine Sx.on rfl ?_) | (refine Sx.off rfl ?_) | (refine Sx.ldb rfl (by rfl) ?_) | (refine Sx.ldbs rfl rfl ?_) | (refine Sx.stb rfl rfl rfl rfl (by rfl) (by rfl) ?_) | (refine Sx.pv rfl trivial ?_) | (refine Sx.pk rfl rfl rfl ?_))
  refine Cx.ifp rfl (fun h => ?_) (fun h => ?_)
  · have hik : i < k := by omega
    obtain ⟨row, hui⟩ : ∃ u, rows[i]? = some u := ⟨rows[i], by simp [hk, hik]⟩
    obtain ⟨kd, tg, u, rfl, htg1, htg2, hI⟩ := hu i row hui
    obtain ⟨hn1, a1, c1, rfl, hR1⟩ := hI.rd
    generalize hq : (f i).length = q at *
    repeat' (first | (refine Sx.pvs rfl ?_) | (refine Sx.nil ?_) | (refine Krg.i ?_) | (refine Ksq.nm ?_) | (refine Ksq.rt ?_) | (refine Ksq.ex ?_) | (refine Kbl.nm ?_) | (refine Kbl.rt ?_) | (refine Kbl.hit rfl ?_) | (refine Kbl.miss rfl ?_) | (refine Klp.rt ?_) | (refine Klp.ex ?_) | (refine Cx.sq ?_) | (refine Cx.rg ?_) | (refine Cx.bl ?_) | (refine Cx.sk ?_) | (refine Cx.rt ?_) | (refine Cx.ex ?_) | (refine Cx.yes rfl ?_) | (refine Cx.no rfl ?_) | (refine Sx.on rfl ?_) | (refine Sx.off rfl ?_) | (refine Sx.ldb rfl (by rfl) ?_) | (refine Sx.ldbs rfl rfl ?_) | (refine Sx.stb rfl rfl rfl rfl (by rfl) (by rfl) ?_) | (refine Sx.pv rfl trivial ?_) | (refine Sx.pk rfl rfl rfl ?_))
    subst hk
    obtain ⟨b, o, rfl, _⟩ := (hR [Old w] (Ent.refl _)).row_ hl hui
    have hat : ∀ L, Ent L [Old w] → Has L b (o + i * 3) [.int .i64 kd, .int .i64 tg, .slice a1 q c1] := fun L hL => by
      obtain ⟨_, _, e, h⟩ := (hR L hL).row_ hl hui
      simp only [Option.some.injEq, Addr.mk.injEq, and_true] at e
      obtain ⟨rfl, rfl⟩ := e
      exact h
    refine Sx.pv rfl ⟨by omega, by omega⟩ ?_
    refine Sx.ld rfl (hat _ (by repeat (first | exact Ent.refl _ | (refine Ent.take1 ?_) | (refine Ent.trans Ent.drop ?_)))) rfl ?_
    refine Sx.al fun g => ?_
    refine Sx.st rfl rfl rfl rfl rfl rfl ?_
    dsimp only [lay]
    repeat' (first | (refine Sx.pvs rfl ?_) | (refine Sx.nil ?_) | (refine Krg.i ?_) | (refine Ksq.nm ?_) | (refine Ksq.rt ?_) | (refine Ksq.ex ?_) | (refine Kbl.nm ?_) | (refine Kbl.rt ?_) | (refine Kbl.hit rfl ?_) | (refine Kbl.miss rfl ?_) | (refine Klp.rt ?_) | (refine Klp.ex ?_) | (refine Cx.sq ?_) | (refine Cx.rg ?_) | (refine Cx.bl ?_) | (refine Cx.sk ?_) | (refine Cx.rt ?_) | (refine Cx.ex ?_) | (refine Cx.yes rfl ?_) | (refine Cx.no rfl ?_) | (refine Sx.on rfl ?_) | (refine Sx.off rfl ?_) | (refine Sx.ldb rfl (by rfl) ?_) | (refine Sx.ldbs rfl rfl ?_) | (refine Sx.stb rfl rfl rfl rfl (by rfl) (by rfl) ?_) | (refine Sx.pv rfl trivial ?_) | (refine Sx.pk rfl rfl rfl ?_))
    refine Cx.ifp rfl (fun h => ?_) (fun hq40 => ?_)
    · repeat' (first | (refine Sx.pvs rfl ?_) | (refine Sx.nil ?_) | (refine Krg.i ?_) | (refine Ksq.nm ?_) | (refine Ksq.rt ?_) | (refine Ksq.ex ?_) | (refine Kbl.nm ?_) | (refine Kbl.rt ?_) | (refine Kbl.hit rfl ?_) | (refine Kbl.miss rfl ?_) | (refine Klp.rt ?_) | (refine Klp.ex ?_) | (refine Cx.sq ?_) | (refine Cx.rg ?_) | (refine Cx.bl ?_) | (refine Cx.sk ?_) | (refine Cx.rt ?_) | (refine Cx.ex ?_) | (refine Cx.yes rfl ?_) | (refine Cx.no rfl ?_) | (refine Sx.on rfl ?_) | (refine Sx.off rfl ?_) | (refine Sx.ldb rfl (by rfl) ?_) | (refine Sx.ldbs rfl rfl ?_) | (refine Sx.stb rfl rfl rfl rfl (by rfl) (by rfl) ?_) | (refine Sx.pv rfl trivial ?_) | (refine Sx.pk rfl rfl rfl ?_))
      refine Kr.one (.inr rfl) rfl (Ent.refl _) ⟨rfl, ?_⟩
      repeat (first | exact Ent.refl _ | (refine Ent.take1 ?_) | (refine Ent.trans Ent.drop ?_))
    repeat' (first | (refine Sx.pvs rfl ?_) | (refine Sx.nil ?_) | (refine Krg.i ?_) | (refine Ksq.nm ?_) | (refine Ksq.rt ?_) | (refine Ksq.ex ?_) | (refine Kbl.nm ?_) | (refine Kbl.rt ?_) | (refine Kbl.hit rfl ?_) | (refine Kbl.miss rfl ?_) | (refine Klp.rt ?_) | (refine Klp.ex ?_) | (refine Cx.sq ?_) | (refine Cx.rg ?_) | (refine Cx.bl ?_) | (refine Cx.sk ?_) | (refine Cx.rt ?_) | (refine Cx.ex ?_) | (refine Cx.yes rfl ?_) | (refine Cx.no rfl ?_) | (refine Sx.on rfl ?_) | (refine Sx.off rfl ?_) | (refine Sx.ldb rfl (by rfl) ?_) | (refine Sx.ldbs rfl rfl ?_) | (refine Sx.stb rfl rfl rfl rfl (by rfl) (by rfl) ?_) | (refine Sx.pv rfl trivial ?_) | (refine Sx.pk rfl rfl rfl ?_))
    refine Cx.ordc rfl (by kernel_rfl) ?_
    repeat' (first | (refine Ev.pass 0 rfl (by kernel_rfl) ?_) | (refine Ev.stpH (by kernel_rfl) rfl rfl ?_) | (refine Ev.done ?_) | (refine Ev.ldbH (by kernel_rfl) rfl rfl (by rfl) ?_) | (refine Ev.ldbsH (by kernel_rfl) rfl rfl rfl ?_) | (refine Ev.pvH (by kernel_rfl) rfl rfl ⟨by omega, by omega⟩ ?_) | (refine Ev.pvH (by kernel_rfl) rfl rfl (by decide) ?_) | fail)
    refine Ev.cakH (by kernel_rfl) rfl rfl (Fx.kept (limboOpen (b := s) (m := m) (now := tg) htg2)) ?_
    repeat' (first | (refine Ev.pass 0 rfl (by kernel_rfl) ?_) | (refine Ev.stpH (by kernel_rfl) rfl rfl ?_) | (refine Ev.done ?_) | (refine Ev.ldbH (by kernel_rfl) rfl rfl (by rfl) ?_) | (refine Ev.ldbsH (by kernel_rfl) rfl rfl rfl ?_) | (refine Ev.pvH (by kernel_rfl) rfl rfl ⟨by omega, by omega⟩ ?_) | (refine Ev.pvH (by kernel_rfl) rfl rfl (by decide) ?_) | fail)
    refine Ev.cakH (by kernel_rfl) rfl rfl (refOpen (b := x) (m := m) (now := tg) htg2) ?_
    repeat' (first | (refine Ev.pass 0 rfl (by kernel_rfl) ?_) | (refine Ev.stpH (by kernel_rfl) rfl rfl ?_) | (refine Ev.done ?_) | (refine Ev.ldbH (by kernel_rfl) rfl rfl (by rfl) ?_) | (refine Ev.ldbsH (by kernel_rfl) rfl rfl rfl ?_) | (refine Ev.pvH (by kernel_rfl) rfl rfl ⟨by omega, by omega⟩ ?_) | (refine Ev.pvH (by kernel_rfl) rfl rfl (by decide) ?_) | fail)
    refine Cx.cno rfl (by cases anyOpen tg m <;> rfl) ?_
    repeat' (first | (refine Sx.pvs rfl ?_) | (refine Sx.nil ?_) | (refine Krg.i ?_) | (refine Ksq.nm ?_) | (refine Ksq.rt ?_) | (refine Ksq.ex ?_) | (refine Kbl.nm ?_) | (refine Kbl.rt ?_) | (refine Kbl.hit rfl ?_) | (refine Kbl.miss rfl ?_) | (refine Klp.rt ?_) | (refine Klp.ex ?_) | (refine Cx.sq ?_) | (refine Cx.rg ?_) | (refine Cx.bl ?_) | (refine Cx.sk ?_) | (refine Cx.rt ?_) | (refine Cx.ex ?_) | (refine Cx.yes rfl ?_) | (refine Cx.no rfl ?_) | (refine Sx.on rfl ?_) | (refine Sx.off rfl ?_) | (refine Sx.ldb rfl (by rfl) ?_) | (refine Sx.ldbs rfl rfl ?_) | (refine Sx.stb rfl rfl rfl rfl (by rfl) (by rfl) ?_) | (refine Sx.pv rfl trivial ?_) | (refine Sx.pk rfl rfl rfl ?_))
    refine Sx.ca rfl (number kd 4 (by omega) (by omega)) ?_
    rintro v L' ⟨rfl, rfl⟩
    have hz1 := Int.emod_nonneg kd (show (4 : Int) ≠ 0 by omega)
    have hz2 := Int.emod_lt_of_pos kd (show (0 : Int) < 4 by omega)
    generalize hz : kd % 4 = z at hz1 hz2 ⊢
    refine Sx.pvs rfl ?_
    refine Sx.nil ?_
    refine Krg.i ?_
    refine Ksq.nm ?_
    refine Cx.jn (β := {m' : Lm // m'.size ≤ 40 * (i + 1)}) (fun _ => [(0, .slice (some ⟨b, o, none⟩) rows.length c), (3, .bool true), (4, .pointer (some ⟨s, 0, none⟩)), (5, .pointer (some ⟨x, 0, none⟩)), (6, .int .i64 i)])
      (fun m' => pt (some ⟨s, 0, none⟩) (LimboO m'.1) :: pt (some ⟨x, 0, none⟩) (RLimboO m'.1) :: [Old w]) ?_ ?_
    · refine Cx.ifp rfl (fun h3 => ?_) (fun h3 => ?_)
      · refine Cx.sq ?_
        refine Cx.ordc rfl (by kernel_rfl) ?_
        repeat' (first | (refine Ev.pass 0 rfl (by kernel_rfl) ?_) | (refine Ev.stpH (by kernel_rfl) rfl rfl ?_) | (refine Ev.done ?_) | (refine Ev.ldbH (by kernel_rfl) rfl rfl (by rfl) ?_) | (refine Ev.ldbsH (by kernel_rfl) rfl rfl rfl ?_) | (refine Ev.pvH (by kernel_rfl) rfl rfl ⟨by omega, by omega⟩ ?_) | (refine Ev.pvH (by kernel_rfl) rfl rfl (by decide) ?_) | fail)
        refine Ev.apnH (by kernel_rfl) rfl rfl rfl (hR1 _ (by repeat (first | exact Ent.refl _ | (refine Ent.take1 ?_) | (refine Ent.trans Ent.drop ?_)))) (ones_ints _) (by omega) (by omega) (.dep rfl (.keep (fun v L' ⟨_, _, _, _, _, e⟩ => by subst e; exact Has.cell rfl) .nil)) fun ra ca hca hka => ?_
        repeat' (first | (refine Ev.pass 0 rfl (by kernel_rfl) ?_) | (refine Ev.stpH (by kernel_rfl) rfl rfl ?_) | (refine Ev.done ?_) | (refine Ev.ldbH (by kernel_rfl) rfl rfl (by rfl) ?_) | (refine Ev.ldbsH (by kernel_rfl) rfl rfl rfl ?_) | (refine Ev.pvH (by kernel_rfl) rfl rfl ⟨by omega, by omega⟩ ?_) | (refine Ev.pvH (by kernel_rfl) rfl rfl (by decide) ?_) | fail)
        refine Ev.caH (by kernel_rfl) rfl rfl (limboRetire (b := s) (m := m) (ys := f i) (Rd.any (a := ra) (by simp [length_ints, hq]) hka) (by omega)) (Pres.deps (by kernel_rfl)) ?_
        obtain ⟨z1, z2⟩ := size_retire m tg (f i)
        rintro v L' (⟨hrf, rfl, rfl⟩ | ⟨hnr, r1, k1, rfl, rfl⟩)
        · repeat' (first | (refine Ev.pass 0 rfl (by kernel_rfl) ?_) | (refine Ev.stpH (by kernel_rfl) rfl rfl ?_) | (refine Ev.done ?_) | (refine Ev.ldbH (by kernel_rfl) rfl rfl (by rfl) ?_) | (refine Ev.ldbsH (by kernel_rfl) rfl rfl rfl ?_) | (refine Ev.pvH (by kernel_rfl) rfl rfl ⟨by omega, by omega⟩ ?_) | (refine Ev.pvH (by kernel_rfl) rfl rfl (by decide) ?_) | fail)
          repeat' (first | (refine Sx.pvs rfl ?_) | (refine Sx.nil ?_) | (refine Krg.i ?_) | (refine Ksq.nm ?_) | (refine Ksq.rt ?_) | (refine Ksq.ex ?_) | (refine Kbl.nm ?_) | (refine Kbl.rt ?_) | (refine Kbl.hit rfl ?_) | (refine Kbl.miss rfl ?_) | (refine Klp.rt ?_) | (refine Klp.ex ?_) | (refine Cx.sq ?_) | (refine Cx.rg ?_) | (refine Cx.bl ?_) | (refine Cx.sk ?_) | (refine Cx.rt ?_) | (refine Cx.ex ?_) | (refine Cx.yes rfl ?_) | (refine Cx.no rfl ?_) | (refine Sx.on rfl ?_) | (refine Sx.off rfl ?_) | (refine Sx.ldb rfl (by rfl) ?_) | (refine Sx.ldbs rfl rfl ?_) | (refine Sx.stb rfl rfl rfl rfl (by rfl) (by rfl) ?_) | (refine Sx.pv rfl trivial ?_) | (refine Sx.pk rfl rfl rfl ?_))
          refine Sx.ca rfl (refRetire (b := x) (m := m) (ys := f i) (hR1 _ (by repeat (first | exact Ent.refl _ | (refine Ent.take1 ?_) | (refine Ent.trans Ent.drop ?_)))) (by omega)) ?_
          rintro v L' (⟨_, rfl, rfl⟩ | ⟨hn2, _⟩)
          rotate_left
          · exact absurd hrf hn2
          repeat' (first | (refine Sx.pvs rfl ?_) | (refine Sx.nil ?_) | (refine Krg.i ?_) | (refine Ksq.nm ?_) | (refine Ksq.rt ?_) | (refine Ksq.ex ?_) | (refine Kbl.nm ?_) | (refine Kbl.rt ?_) | (refine Kbl.hit rfl ?_) | (refine Kbl.miss rfl ?_) | (refine Klp.rt ?_) | (refine Klp.ex ?_) | (refine Cx.sq ?_) | (refine Cx.rg ?_) | (refine Cx.bl ?_) | (refine Cx.sk ?_) | (refine Cx.rt ?_) | (refine Cx.ex ?_) | (refine Cx.yes rfl ?_) | (refine Cx.no rfl ?_) | (refine Sx.on rfl ?_) | (refine Sx.off rfl ?_) | (refine Sx.ldb rfl (by rfl) ?_) | (refine Sx.ldbs rfl rfl ?_) | (refine Sx.stb rfl rfl rfl rfl (by rfl) (by rfl) ?_) | (refine Sx.pv rfl trivial ?_) | (refine Sx.pk rfl rfl rfl ?_))
          refine Sx.ca rfl (sameInts (xs := []) (ys := []) (Rd.nil _ _ _) (Rd.nil _ _ _) (by omega)) ?_
          rintro v L' ⟨rfl, rfl⟩
          repeat' (first | (refine Sx.pvs rfl ?_) | (refine Sx.nil ?_) | (refine Krg.i ?_) | (refine Ksq.nm ?_) | (refine Ksq.rt ?_) | (refine Ksq.ex ?_) | (refine Kbl.nm ?_) | (refine Kbl.rt ?_) | (refine Kbl.hit rfl ?_) | (refine Kbl.miss rfl ?_) | (refine Klp.rt ?_) | (refine Klp.ex ?_) | (refine Cx.sq ?_) | (refine Cx.rg ?_) | (refine Cx.bl ?_) | (refine Cx.sk ?_) | (refine Cx.rt ?_) | (refine Cx.ex ?_) | (refine Cx.yes rfl ?_) | (refine Cx.no rfl ?_) | (refine Sx.on rfl ?_) | (refine Sx.off rfl ?_) | (refine Sx.ldb rfl (by rfl) ?_) | (refine Sx.ldbs rfl rfl ?_) | (refine Sx.stb rfl rfl rfl rfl (by rfl) (by rfl) ?_) | (refine Sx.pv rfl trivial ?_) | (refine Sx.pk rfl rfl rfl ?_))
          refine Kjn.nm ⟨m, by omega⟩ (sub.cons rfl (sub.cons rfl (sub.cons rfl (sub.cons rfl (sub.cons rfl sub.nil))))) ?_
          repeat (first | exact Ent.refl _ | (refine Ent.take1 ?_) | (refine Ent.trans Ent.drop ?_))
        · repeat' (first | (refine Ev.pass 0 rfl (by kernel_rfl) ?_) | (refine Ev.stpH (by kernel_rfl) rfl rfl ?_) | (refine Ev.done ?_) | (refine Ev.ldbH (by kernel_rfl) rfl rfl (by rfl) ?_) | (refine Ev.ldbsH (by kernel_rfl) rfl rfl rfl ?_) | (refine Ev.pvH (by kernel_rfl) rfl rfl ⟨by omega, by omega⟩ ?_) | (refine Ev.pvH (by kernel_rfl) rfl rfl (by decide) ?_) | fail)
          repeat' (first | (refine Sx.pvs rfl ?_) | (refine Sx.nil ?_) | (refine Krg.i ?_) | (refine Ksq.nm ?_) | (refine Ksq.rt ?_) | (refine Ksq.ex ?_) | (refine Kbl.nm ?_) | (refine Kbl.rt ?_) | (refine Kbl.hit rfl ?_) | (refine Kbl.miss rfl ?_) | (refine Klp.rt ?_) | (refine Klp.ex ?_) | (refine Cx.sq ?_) | (refine Cx.rg ?_) | (refine Cx.bl ?_) | (refine Cx.sk ?_) | (refine Cx.rt ?_) | (refine Cx.ex ?_) | (refine Cx.yes rfl ?_) | (refine Cx.no rfl ?_) | (refine Sx.on rfl ?_) | (refine Sx.off rfl ?_) | (refine Sx.ldb rfl (by rfl) ?_) | (refine Sx.ldbs rfl rfl ?_) | (refine Sx.stb rfl rfl rfl rfl (by rfl) (by rfl) ?_) | (refine Sx.pv rfl trivial ?_) | (refine Sx.pk rfl rfl rfl ?_))
          refine Sx.ca rfl (refRetire (b := x) (m := m) (ys := f i) (hR1 _ (by repeat (first | exact Ent.refl _ | (refine Ent.take1 ?_) | (refine Ent.trans Ent.drop ?_)))) (by omega)) ?_
          rintro v L' (⟨hn2, _⟩ | ⟨_, r2, k2, rfl, rfl⟩)
          · exact absurd hn2 hnr
          refine Sx.rowkey (a := r1) fun hx1 hn1 _ hk1 => ?_
          refine Sx.rowkey (a := r2) fun hx2 hn2 _ hk2 => ?_
          repeat' (first | (refine Sx.pvs rfl ?_) | (refine Sx.nil ?_) | (refine Krg.i ?_) | (refine Ksq.nm ?_) | (refine Ksq.rt ?_) | (refine Ksq.ex ?_) | (refine Kbl.nm ?_) | (refine Kbl.rt ?_) | (refine Kbl.hit rfl ?_) | (refine Kbl.miss rfl ?_) | (refine Klp.rt ?_) | (refine Klp.ex ?_) | (refine Cx.sq ?_) | (refine Cx.rg ?_) | (refine Cx.bl ?_) | (refine Cx.sk ?_) | (refine Cx.rt ?_) | (refine Cx.ex ?_) | (refine Cx.yes rfl ?_) | (refine Cx.no rfl ?_) | (refine Sx.on rfl ?_) | (refine Sx.off rfl ?_) | (refine Sx.ldb rfl (by rfl) ?_) | (refine Sx.ldbs rfl rfl ?_) | (refine Sx.stb rfl rfl rfl rfl (by rfl) (by rfl) ?_) | (refine Sx.pv rfl trivial ?_) | (refine Sx.pk rfl rfl rfl ?_))
          refine Sx.ca rfl (sameInts (xs := outM m tg) (ys := outM m tg) (Rd.any (a := r1) hx1 (hk1.imp (fun h => h.2.1) id)) (Rd.any (a := r2) hx2 (hk2.imp (fun h => h.2.1) id)) (by omega)) ?_
          rintro v L' ⟨rfl, rfl⟩
          rw [decide_eq_true (rfl : outM m tg = outM m tg)]
          repeat' (first | (refine Sx.pvs rfl ?_) | (refine Sx.nil ?_) | (refine Krg.i ?_) | (refine Ksq.nm ?_) | (refine Ksq.rt ?_) | (refine Ksq.ex ?_) | (refine Kbl.nm ?_) | (refine Kbl.rt ?_) | (refine Kbl.hit rfl ?_) | (refine Kbl.miss rfl ?_) | (refine Klp.rt ?_) | (refine Klp.ex ?_) | (refine Cx.sq ?_) | (refine Cx.rg ?_) | (refine Cx.bl ?_) | (refine Cx.sk ?_) | (refine Cx.rt ?_) | (refine Cx.ex ?_) | (refine Cx.yes rfl ?_) | (refine Cx.no rfl ?_) | (refine Sx.on rfl ?_) | (refine Sx.off rfl ?_) | (refine Sx.ldb rfl (by rfl) ?_) | (refine Sx.ldbs rfl rfl ?_) | (refine Sx.stb rfl rfl rfl rfl (by rfl) (by rfl) ?_) | (refine Sx.pv rfl trivial ?_) | (refine Sx.pk rfl rfl rfl ?_))
          refine Kjn.nm ⟨retireM m tg (f i), by omega⟩ (sub.cons rfl (sub.cons rfl (sub.cons rfl (sub.cons rfl (sub.cons rfl sub.nil))))) ?_
          repeat (first | exact Ent.refl _ | (refine Ent.take1 ?_) | (refine Ent.trans Ent.drop ?_))
      · refine Cx.sq ?_
        refine Cx.ordc rfl (by kernel_rfl) ?_
        repeat' (first | (refine Ev.pass 0 rfl (by kernel_rfl) ?_) | (refine Ev.stpH (by kernel_rfl) rfl rfl ?_) | (refine Ev.done ?_) | (refine Ev.ldbH (by kernel_rfl) rfl rfl (by rfl) ?_) | (refine Ev.ldbsH (by kernel_rfl) rfl rfl rfl ?_) | (refine Ev.pvH (by kernel_rfl) rfl rfl ⟨by omega, by omega⟩ ?_) | (refine Ev.pvH (by kernel_rfl) rfl rfl (by decide) ?_) | fail)
        refine Ev.pass 2 rfl (by kernel_rfl) ?_
        refine Ev.bring 1 rfl ?_
        repeat' (first | (refine Ev.pass 0 rfl (by kernel_rfl) ?_) | (refine Ev.stpH (by kernel_rfl) rfl rfl ?_) | (refine Ev.done ?_) | (refine Ev.ldbH (by kernel_rfl) rfl rfl (by rfl) ?_) | (refine Ev.ldbsH (by kernel_rfl) rfl rfl rfl ?_) | (refine Ev.pvH (by kernel_rfl) rfl rfl ⟨by omega, by omega⟩ ?_) | (refine Ev.pvH (by kernel_rfl) rfl rfl (by decide) ?_) | fail)
        have z1 := size_ready tg m
        refine Ev.caH (by kernel_rfl) rfl rfl (limboReadyK (b := s) (m := m) (now := tg) (by omega) htg2) (.keep (fun v L' ⟨_, _, _, _, e⟩ => by subst e; exact Has.cell rfl) (.dep rfl .nil)) ?_
        rintro v L' ⟨r1, k1, hk1, rfl, rfl⟩
        repeat' (first | (refine Ev.pass 0 rfl (by kernel_rfl) ?_) | (refine Ev.stpH (by kernel_rfl) rfl rfl ?_) | (refine Ev.done ?_) | (refine Ev.ldbH (by kernel_rfl) rfl rfl (by rfl) ?_) | (refine Ev.ldbsH (by kernel_rfl) rfl rfl rfl ?_) | (refine Ev.pvH (by kernel_rfl) rfl rfl ⟨by omega, by omega⟩ ?_) | (refine Ev.pvH (by kernel_rfl) rfl rfl (by decide) ?_) | fail)
        refine Ev.caH (by kernel_rfl) rfl rfl (refReadyK (b := x) (m := m) (now := tg) (by omega) htg2) (Pres.deps (by kernel_rfl)) ?_
        rintro v L' ⟨r2, k2, hk2, rfl, rfl⟩
        repeat' (first | (refine Ev.pass 0 rfl (by kernel_rfl) ?_) | (refine Ev.stpH (by kernel_rfl) rfl rfl ?_) | (refine Ev.done ?_) | (refine Ev.ldbH (by kernel_rfl) rfl rfl (by rfl) ?_) | (refine Ev.ldbsH (by kernel_rfl) rfl rfl rfl ?_) | (refine Ev.pvH (by kernel_rfl) rfl rfl ⟨by omega, by omega⟩ ?_) | (refine Ev.pvH (by kernel_rfl) rfl rfl (by decide) ?_) | fail)
        refine Ev.cakH (by kernel_rfl) rfl rfl (sameInts (xs := (readyAll tg m).1) (ys := (readyAll tg m).1) (Rd.any (a := r1) (by simp [length_ints]) hk1) (Rd.any (a := r2) (by simp [length_ints]) hk2) (by omega)) ?_
        rw [decide_eq_true (rfl : (readyAll tg m).1 = (readyAll tg m).1)]
        repeat' (first | (refine Ev.pass 0 rfl (by kernel_rfl) ?_) | (refine Ev.stpH (by kernel_rfl) rfl rfl ?_) | (refine Ev.done ?_) | (refine Ev.ldbH (by kernel_rfl) rfl rfl (by rfl) ?_) | (refine Ev.ldbsH (by kernel_rfl) rfl rfl rfl ?_) | (refine Ev.pvH (by kernel_rfl) rfl rfl ⟨by omega, by omega⟩ ?_) | (refine Ev.pvH (by kernel_rfl) rfl rfl (by decide) ?_) | fail)
        repeat' (first | (refine Sx.pvs rfl ?_) | (refine Sx.nil ?_) | (refine Krg.i ?_) | (refine Ksq.nm ?_) | (refine Ksq.rt ?_) | (refine Ksq.ex ?_) | (refine Kbl.nm ?_) | (refine Kbl.rt ?_) | (refine Kbl.hit rfl ?_) | (refine Kbl.miss rfl ?_) | (refine Klp.rt ?_) | (refine Klp.ex ?_) | (refine Cx.sq ?_) | (refine Cx.rg ?_) | (refine Cx.bl ?_) | (refine Cx.sk ?_) | (refine Cx.rt ?_) | (refine Cx.ex ?_) | (refine Cx.yes rfl ?_) | (refine Cx.no rfl ?_) | (refine Sx.on rfl ?_) | (refine Sx.off rfl ?_) | (refine Sx.ldb rfl (by rfl) ?_) | (refine Sx.ldbs rfl rfl ?_) | (refine Sx.stb rfl rfl rfl rfl (by rfl) (by rfl) ?_) | (refine Sx.pv rfl trivial ?_) | (refine Sx.pk rfl rfl rfl ?_))
        refine Kjn.nm ⟨(readyAll tg m).2, by omega⟩ (sub.cons rfl (sub.cons rfl (sub.cons rfl (sub.cons rfl (sub.cons rfl sub.nil))))) ?_
        repeat (first | exact Ent.refl _ | (refine Ent.take1 ?_) | (refine Ent.trans Ent.drop ?_))
    · rintro ⟨m', hm'⟩
      dsimp only at hm' ⊢
      repeat' (first | (refine Sx.pvs rfl ?_) | (refine Sx.nil ?_) | (refine Krg.i ?_) | (refine Ksq.nm ?_) | (refine Ksq.rt ?_) | (refine Ksq.ex ?_) | (refine Kbl.nm ?_) | (refine Kbl.rt ?_) | (refine Kbl.hit rfl ?_) | (refine Kbl.miss rfl ?_) | (refine Klp.rt ?_) | (refine Klp.ex ?_) | (refine Cx.sq ?_) | (refine Cx.rg ?_) | (refine Cx.bl ?_) | (refine Cx.sk ?_) | (refine Cx.rt ?_) | (refine Cx.ex ?_) | (refine Cx.yes rfl ?_) | (refine Cx.no rfl ?_) | (refine Sx.on rfl ?_) | (refine Sx.off rfl ?_) | (refine Sx.ldb rfl (by rfl) ?_) | (refine Sx.ldbs rfl rfl ?_) | (refine Sx.stb rfl rfl rfl rfl (by rfl) (by rfl) ?_) | (refine Sx.pv rfl trivial ?_) | (refine Sx.pk rfl rfl rfl ?_))
      refine Cx.lp (α := {q : Int // -1 ≤ q ∧ q ≤ 4}) (fun q => [(0, .slice (some ⟨b, o, none⟩) rows.length c), (3, .bool true), (4, .pointer (some ⟨s, 0, none⟩)), (5, .pointer (some ⟨x, 0, none⟩)), (6, .int .i64 i), (12, .int .i64 q.1)])
        (fun _ => pt (some ⟨s, 0, none⟩) (LimboO m') :: pt (some ⟨x, 0, none⟩) (RLimboO m') :: [Old w]) (fun q => (4 - q.1).toNat) ⟨-1, by omega, by omega⟩ (sub.cons rfl (sub.cons rfl (sub.cons rfl (sub.cons rfl (sub.cons rfl (sub.cons rfl sub.nil)))))) (Ent.refl _) ?_
      rintro ⟨q1, hq1, hq2⟩
      dsimp only
      repeat' (first | (refine Sx.pvs rfl ?_) | (refine Sx.nil ?_) | (refine Krg.i ?_) | (refine Ksq.nm ?_) | (refine Ksq.rt ?_) | (refine Ksq.ex ?_) | (refine Kbl.nm ?_) | (refine Kbl.rt ?_) | (refine Kbl.hit rfl ?_) | (refine Kbl.miss rfl ?_) | (refine Klp.rt ?_) | (refine Klp.ex ?_) | (refine Cx.sq ?_) | (refine Cx.rg ?_) | (refine Cx.bl ?_) | (refine Cx.sk ?_) | (refine Cx.rt ?_) | (refine Cx.ex ?_) | (refine Cx.yes rfl ?_) | (refine Cx.no rfl ?_) | (refine Sx.on rfl ?_) | (refine Sx.off rfl ?_) | (refine Sx.ldb rfl (by rfl) ?_) | (refine Sx.ldbs rfl rfl ?_) | (refine Sx.stb rfl rfl rfl rfl (by rfl) (by rfl) ?_) | (refine Sx.pv rfl trivial ?_) | (refine Sx.pk rfl rfl rfl ?_))
      refine Cx.ifp rfl (fun h4 => ?_) (fun h4 => ?_)
      · repeat' (first | (refine Sx.pvs rfl ?_) | (refine Sx.nil ?_) | (refine Krg.i ?_) | (refine Ksq.nm ?_) | (refine Ksq.rt ?_) | (refine Ksq.ex ?_) | (refine Kbl.nm ?_) | (refine Kbl.rt ?_) | (refine Kbl.hit rfl ?_) | (refine Kbl.miss rfl ?_) | (refine Klp.rt ?_) | (refine Klp.ex ?_) | (refine Cx.sq ?_) | (refine Cx.rg ?_) | (refine Cx.bl ?_) | (refine Cx.sk ?_) | (refine Cx.rt ?_) | (refine Cx.ex ?_) | (refine Cx.yes rfl ?_) | (refine Cx.no rfl ?_) | (refine Sx.on rfl ?_) | (refine Sx.off rfl ?_) | (refine Sx.ldb rfl (by rfl) ?_) | (refine Sx.ldbs rfl rfl ?_) | (refine Sx.stb rfl rfl rfl rfl (by rfl) (by rfl) ?_) | (refine Sx.pv rfl trivial ?_) | (refine Sx.pk rfl rfl rfl ?_))
        refine Sx.ca rfl (limboBucket (b := s) (m := m') (k := q1) (by omega)) ?_
        rintro v L' (⟨hno, rfl, rfl⟩ | ⟨hyes, r1, k1, rfl, rfl⟩)
        · repeat' (first | (refine Sx.pvs rfl ?_) | (refine Sx.nil ?_) | (refine Krg.i ?_) | (refine Ksq.nm ?_) | (refine Ksq.rt ?_) | (refine Ksq.ex ?_) | (refine Kbl.nm ?_) | (refine Kbl.rt ?_) | (refine Kbl.hit rfl ?_) | (refine Kbl.miss rfl ?_) | (refine Klp.rt ?_) | (refine Klp.ex ?_) | (refine Cx.sq ?_) | (refine Cx.rg ?_) | (refine Cx.bl ?_) | (refine Cx.sk ?_) | (refine Cx.rt ?_) | (refine Cx.ex ?_) | (refine Cx.yes rfl ?_) | (refine Cx.no rfl ?_) | (refine Sx.on rfl ?_) | (refine Sx.off rfl ?_) | (refine Sx.ldb rfl (by rfl) ?_) | (refine Sx.ldbs rfl rfl ?_) | (refine Sx.stb rfl rfl rfl rfl (by rfl) (by rfl) ?_) | (refine Sx.pv rfl trivial ?_) | (refine Sx.pk rfl rfl rfl ?_))
          refine Sx.ca rfl (refBucket (b := x) (m := m') (k := q1) (by omega)) ?_
          rintro v L' (⟨_, rfl, rfl⟩ | ⟨hyes, _⟩)
          rotate_left
          · exact absurd hno hyes
          repeat' (first | (refine Sx.pvs rfl ?_) | (refine Sx.nil ?_) | (refine Krg.i ?_) | (refine Ksq.nm ?_) | (refine Ksq.rt ?_) | (refine Ksq.ex ?_) | (refine Kbl.nm ?_) | (refine Kbl.rt ?_) | (refine Kbl.hit rfl ?_) | (refine Kbl.miss rfl ?_) | (refine Klp.rt ?_) | (refine Klp.ex ?_) | (refine Cx.sq ?_) | (refine Cx.rg ?_) | (refine Cx.bl ?_) | (refine Cx.sk ?_) | (refine Cx.rt ?_) | (refine Cx.ex ?_) | (refine Cx.yes rfl ?_) | (refine Cx.no rfl ?_) | (refine Sx.on rfl ?_) | (refine Sx.off rfl ?_) | (refine Sx.ldb rfl (by rfl) ?_) | (refine Sx.ldbs rfl rfl ?_) | (refine Sx.stb rfl rfl rfl rfl (by rfl) (by rfl) ?_) | (refine Sx.pv rfl trivial ?_) | (refine Sx.pk rfl rfl rfl ?_))
          refine Sx.ca rfl (sameInts (xs := []) (ys := []) (Rd.nil _ _ _) (Rd.nil _ _ _) (by omega)) ?_
          rintro v L' ⟨rfl, rfl⟩
          repeat' (first | (refine Sx.pvs rfl ?_) | (refine Sx.nil ?_) | (refine Krg.i ?_) | (refine Ksq.nm ?_) | (refine Ksq.rt ?_) | (refine Ksq.ex ?_) | (refine Kbl.nm ?_) | (refine Kbl.rt ?_) | (refine Kbl.hit rfl ?_) | (refine Kbl.miss rfl ?_) | (refine Klp.rt ?_) | (refine Klp.ex ?_) | (refine Cx.sq ?_) | (refine Cx.rg ?_) | (refine Cx.bl ?_) | (refine Cx.sk ?_) | (refine Cx.rt ?_) | (refine Cx.ex ?_) | (refine Cx.yes rfl ?_) | (refine Cx.no rfl ?_) | (refine Sx.on rfl ?_) | (refine Sx.off rfl ?_) | (refine Sx.ldb rfl (by rfl) ?_) | (refine Sx.ldbs rfl rfl ?_) | (refine Sx.stb rfl rfl rfl rfl (by rfl) (by rfl) ?_) | (refine Sx.pv rfl trivial ?_) | (refine Sx.pk rfl rfl rfl ?_))
          rw [w64 (n := q1 + 1) (by omega) (by omega)]
          refine Klp.nm ⟨q1 + 1, by omega, by omega⟩ (sub.cons rfl (sub.cons rfl (sub.cons rfl (sub.cons rfl (sub.cons rfl (sub.cons rfl sub.nil)))))) ?_ (by dsimp only; omega)
          repeat (first | exact Ent.refl _ | (refine Ent.take1 ?_) | (refine Ent.trans Ent.drop ?_))
        · repeat' (first | (refine Sx.pvs rfl ?_) | (refine Sx.nil ?_) | (refine Krg.i ?_) | (refine Ksq.nm ?_) | (refine Ksq.rt ?_) | (refine Ksq.ex ?_) | (refine Kbl.nm ?_) | (refine Kbl.rt ?_) | (refine Kbl.hit rfl ?_) | (refine Kbl.miss rfl ?_) | (refine Klp.rt ?_) | (refine Klp.ex ?_) | (refine Cx.sq ?_) | (refine Cx.rg ?_) | (refine Cx.bl ?_) | (refine Cx.sk ?_) | (refine Cx.rt ?_) | (refine Cx.ex ?_) | (refine Cx.yes rfl ?_) | (refine Cx.no rfl ?_) | (refine Sx.on rfl ?_) | (refine Sx.off rfl ?_) | (refine Sx.ldb rfl (by rfl) ?_) | (refine Sx.ldbs rfl rfl ?_) | (refine Sx.stb rfl rfl rfl rfl (by rfl) (by rfl) ?_) | (refine Sx.pv rfl trivial ?_) | (refine Sx.pk rfl rfl rfl ?_))
          refine Sx.ca rfl (refBucket (b := x) (m := m') (k := q1) (by omega)) ?_
          rintro v L' (⟨hno, _⟩ | ⟨_, r2, k2, rfl, rfl⟩)
          · exact absurd hno hyes
          have hz3 : (m'.items q1.toNat).length ≤ m'.size := by unfold Lm.items Lm.size; split <;> omega
          refine Sx.rowkey (a := r1) fun hx1 hn1 _ hk1 => ?_
          refine Sx.rowkey (a := r2) fun hx2 hn2 _ hk2 => ?_
          repeat' (first | (refine Sx.pvs rfl ?_) | (refine Sx.nil ?_) | (refine Krg.i ?_) | (refine Ksq.nm ?_) | (refine Ksq.rt ?_) | (refine Ksq.ex ?_) | (refine Kbl.nm ?_) | (refine Kbl.rt ?_) | (refine Kbl.hit rfl ?_) | (refine Kbl.miss rfl ?_) | (refine Klp.rt ?_) | (refine Klp.ex ?_) | (refine Cx.sq ?_) | (refine Cx.rg ?_) | (refine Cx.bl ?_) | (refine Cx.sk ?_) | (refine Cx.rt ?_) | (refine Cx.ex ?_) | (refine Cx.yes rfl ?_) | (refine Cx.no rfl ?_) | (refine Sx.on rfl ?_) | (refine Sx.off rfl ?_) | (refine Sx.ldb rfl (by rfl) ?_) | (refine Sx.ldbs rfl rfl ?_) | (refine Sx.stb rfl rfl rfl rfl (by rfl) (by rfl) ?_) | (refine Sx.pv rfl trivial ?_) | (refine Sx.pk rfl rfl rfl ?_))
          refine Sx.gyes rfl (by simp) ?_
          repeat' (first | (refine Sx.pvs rfl ?_) | (refine Sx.nil ?_) | (refine Krg.i ?_) | (refine Ksq.nm ?_) | (refine Ksq.rt ?_) | (refine Ksq.ex ?_) | (refine Kbl.nm ?_) | (refine Kbl.rt ?_) | (refine Kbl.hit rfl ?_) | (refine Kbl.miss rfl ?_) | (refine Klp.rt ?_) | (refine Klp.ex ?_) | (refine Cx.sq ?_) | (refine Cx.rg ?_) | (refine Cx.bl ?_) | (refine Cx.sk ?_) | (refine Cx.rt ?_) | (refine Cx.ex ?_) | (refine Cx.yes rfl ?_) | (refine Cx.no rfl ?_) | (refine Sx.on rfl ?_) | (refine Sx.off rfl ?_) | (refine Sx.ldb rfl (by rfl) ?_) | (refine Sx.ldbs rfl rfl ?_) | (refine Sx.stb rfl rfl rfl rfl (by rfl) (by rfl) ?_) | (refine Sx.pv rfl trivial ?_) | (refine Sx.pk rfl rfl rfl ?_))
          refine Sx.ca rfl (sameInts (xs := m'.items q1.toNat) (ys := m'.items q1.toNat) (Rd.any (a := r1) hx1 (hk1.imp (fun h => h.2.1) id)) (Rd.any (a := r2) hx2 (hk2.imp (fun h => h.2.1) id)) (by omega)) ?_
          rintro v L' ⟨rfl, rfl⟩
          rw [decide_eq_true (rfl : m'.items q1.toNat = m'.items q1.toNat)]
          repeat' (first | (refine Sx.pvs rfl ?_) | (refine Sx.nil ?_) | (refine Krg.i ?_) | (refine Ksq.nm ?_) | (refine Ksq.rt ?_) | (refine Ksq.ex ?_) | (refine Kbl.nm ?_) | (refine Kbl.rt ?_) | (refine Kbl.hit rfl ?_) | (refine Kbl.miss rfl ?_) | (refine Klp.rt ?_) | (refine Klp.ex ?_) | (refine Cx.sq ?_) | (refine Cx.rg ?_) | (refine Cx.bl ?_) | (refine Cx.sk ?_) | (refine Cx.rt ?_) | (refine Cx.ex ?_) | (refine Cx.yes rfl ?_) | (refine Cx.no rfl ?_) | (refine Sx.on rfl ?_) | (refine Sx.off rfl ?_) | (refine Sx.ldb rfl (by rfl) ?_) | (refine Sx.ldbs rfl rfl ?_) | (refine Sx.stb rfl rfl rfl rfl (by rfl) (by rfl) ?_) | (refine Sx.pv rfl trivial ?_) | (refine Sx.pk rfl rfl rfl ?_))
          rw [w64 (n := q1 + 1) (by omega) (by omega)]
          refine Klp.nm ⟨q1 + 1, by omega, by omega⟩ (sub.cons rfl (sub.cons rfl (sub.cons rfl (sub.cons rfl (sub.cons rfl (sub.cons rfl sub.nil)))))) ?_ (by dsimp only; omega)
          repeat (first | exact Ent.refl _ | (refine Ent.take1 ?_) | (refine Ent.trans Ent.drop ?_))
      · repeat' (first | (refine Sx.pvs rfl ?_) | (refine Sx.nil ?_) | (refine Krg.i ?_) | (refine Ksq.nm ?_) | (refine Ksq.rt ?_) | (refine Ksq.ex ?_) | (refine Kbl.nm ?_) | (refine Kbl.rt ?_) | (refine Kbl.hit rfl ?_) | (refine Kbl.miss rfl ?_) | (refine Klp.rt ?_) | (refine Klp.ex ?_) | (refine Cx.sq ?_) | (refine Cx.rg ?_) | (refine Cx.bl ?_) | (refine Cx.sk ?_) | (refine Cx.rt ?_) | (refine Cx.ex ?_) | (refine Cx.yes rfl ?_) | (refine Cx.no rfl ?_) | (refine Sx.on rfl ?_) | (refine Sx.off rfl ?_) | (refine Sx.ldb rfl (by rfl) ?_) | (refine Sx.ldbs rfl rfl ?_) | (refine Sx.stb rfl rfl rfl rfl (by rfl) (by rfl) ?_) | (refine Sx.pv rfl trivial ?_) | (refine Sx.pk rfl rfl rfl ?_))
        refine Sx.ca rfl (limboLen (b := s) (m := m') (by omega)) ?_
        rintro v L' ⟨rfl, rfl⟩
        repeat' (first | (refine Sx.pvs rfl ?_) | (refine Sx.nil ?_) | (refine Krg.i ?_) | (refine Ksq.nm ?_) | (refine Ksq.rt ?_) | (refine Ksq.ex ?_) | (refine Kbl.nm ?_) | (refine Kbl.rt ?_) | (refine Kbl.hit rfl ?_) | (refine Kbl.miss rfl ?_) | (refine Klp.rt ?_) | (refine Klp.ex ?_) | (refine Cx.sq ?_) | (refine Cx.rg ?_) | (refine Cx.bl ?_) | (refine Cx.sk ?_) | (refine Cx.rt ?_) | (refine Cx.ex ?_) | (refine Cx.yes rfl ?_) | (refine Cx.no rfl ?_) | (refine Sx.on rfl ?_) | (refine Sx.off rfl ?_) | (refine Sx.ldb rfl (by rfl) ?_) | (refine Sx.ldbs rfl rfl ?_) | (refine Sx.stb rfl rfl rfl rfl (by rfl) (by rfl) ?_) | (refine Sx.pv rfl trivial ?_) | (refine Sx.pk rfl rfl rfl ?_))
        refine Sx.ca rfl (refLimboLen (b := x) (m := m') (by omega)) ?_
        rintro v L' ⟨rfl, rfl⟩
        repeat' (first | (refine Sx.pvs rfl ?_) | (refine Sx.nil ?_) | (refine Krg.i ?_) | (refine Ksq.nm ?_) | (refine Ksq.rt ?_) | (refine Ksq.ex ?_) | (refine Kbl.nm ?_) | (refine Kbl.rt ?_) | (refine Kbl.hit rfl ?_) | (refine Kbl.miss rfl ?_) | (refine Klp.rt ?_) | (refine Klp.ex ?_) | (refine Cx.sq ?_) | (refine Cx.rg ?_) | (refine Cx.bl ?_) | (refine Cx.sk ?_) | (refine Cx.rt ?_) | (refine Cx.ex ?_) | (refine Cx.yes rfl ?_) | (refine Cx.no rfl ?_) | (refine Sx.on rfl ?_) | (refine Sx.off rfl ?_) | (refine Sx.ldb rfl (by rfl) ?_) | (refine Sx.ldbs rfl rfl ?_) | (refine Sx.stb rfl rfl rfl rfl (by rfl) (by rfl) ?_) | (refine Sx.pv rfl trivial ?_) | (refine Sx.pk rfl rfl rfl ?_))
        refine Cx.ifn rfl (fun h => absurd rfl h) (fun _ => ?_)
        repeat' (first | (refine Sx.pvs rfl ?_) | (refine Sx.nil ?_) | (refine Krg.i ?_) | (refine Ksq.nm ?_) | (refine Ksq.rt ?_) | (refine Ksq.ex ?_) | (refine Kbl.nm ?_) | (refine Kbl.rt ?_) | (refine Kbl.hit rfl ?_) | (refine Kbl.miss rfl ?_) | (refine Klp.rt ?_) | (refine Klp.ex ?_) | (refine Cx.sq ?_) | (refine Cx.rg ?_) | (refine Cx.bl ?_) | (refine Cx.sk ?_) | (refine Cx.rt ?_) | (refine Cx.ex ?_) | (refine Cx.yes rfl ?_) | (refine Cx.no rfl ?_) | (refine Sx.on rfl ?_) | (refine Sx.off rfl ?_) | (refine Sx.ldb rfl (by rfl) ?_) | (refine Sx.ldbs rfl rfl ?_) | (refine Sx.stb rfl rfl rfl rfl (by rfl) (by rfl) ?_) | (refine Sx.pv rfl trivial ?_) | (refine Sx.pk rfl rfl rfl ?_))
        rw [w64 (n := (i : Int) + 1) (by omega) (by omega)]
        refine Klp.nm ⟨(i + 1, m'), by dsimp only; omega, hm'⟩ (sub.cons rfl (sub.cons rfl (sub.cons rfl (sub.cons rfl (sub.cons rfl sub.nil))))) ?_ (by dsimp only; omega)
        repeat (first | exact Ent.refl _ | (refine Ent.take1 ?_) | (refine Ent.trans Ent.drop ?_))
  · repeat' (first | (refine Sx.pvs rfl ?_) | (refine Sx.nil ?_) | (refine Krg.i ?_) | (refine Ksq.nm ?_) | (refine Ksq.rt ?_) | (refine Ksq.ex ?_) | (refine Kbl.nm ?_) | (refine Kbl.rt ?_) | (refine Kbl.hit rfl ?_) | (refine Kbl.miss rfl ?_) | (refine Klp.rt ?_) | (refine Klp.ex ?_) | (refine Cx.sq ?_) | (refine Cx.rg ?_) | (refine Cx.bl ?_) | (refine Cx.sk ?_) | (refine Cx.rt ?_) | (refine Cx.ex ?_) | (refine Cx.yes rfl ?_) | (refine Cx.no rfl ?_) | (refine Sx.on rfl ?_) | (refine Sx.off rfl ?_) | (refine Sx.ldb rfl (by rfl) ?_) | (refine Sx.ldbs rfl rfl ?_) | (refine Sx.stb rfl rfl rfl rfl (by rfl) (by rfl) ?_) | (refine Sx.pv rfl trivial ?_) | (refine Sx.pk rfl rfl rfl ?_))
    refine Kr.one (.inr rfl) rfl (Ent.refl _) ⟨rfl, ?_⟩
    repeat (first | exact Ent.refl _ | (refine Ent.take1 ?_) | (refine Ent.trans Ent.drop ?_))
end
end Go.Proofs.Ytinomeobmpaakaa
