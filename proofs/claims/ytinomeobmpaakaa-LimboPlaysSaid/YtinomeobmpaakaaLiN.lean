/-
  The document's limbo: Open, Len, Bucket, Ready.
-/
import Derived.Test.YtinomeobmpaakaaLiM
set_option linter.unusedVariables false
set_option linter.unusedSimpArgs false
namespace Go.Proofs.Ytinomeobmpaakaa
open Go
attribute [local irreducible] Sx Cx Rx Fx Krg Ksq Kbl Klp Kr

section
variable {L F : St}
theorem anyOpen_least {now : Int} {m : Lm} (h : 2 ≤ now) : decide (0 ≤ leastI (leastUp now m 3)) = anyOpen now m := by
  refine decide_eq_decide.2 ?_
  cases hl : leastUp now m 3 with
  | none =>
    have hn := leastUp_none hl
    simp [leastI, hn 0 (by omega), hn 1 (by omega), hn 2 (by omega)]
  | some j =>
    have hj := leastUp_lt hl
    have h1 := hj.1
    simp only [leastI]
    refine ⟨fun _ => ⟨h, ?_⟩, fun _ => by omega⟩
    rcases (show j = 0 ∨ j = 1 ∨ j = 2 by omega) with rfl | rfl | rfl
    · exact .inl hj.2
    · exact .inr (.inl hj.2)
    · exact .inr (.inr hj.2)
theorem refOpen {b : Nat} {m : Lm} {now : Int} {F : St} [t : Take L (some ⟨b, 0, none⟩) (RLimboO m) F] (h3 : now ≤ 9223372036854775807) :
    Fx Try.prog 46 [.pointer (some ⟨b, 0, none⟩), .int .i64 now] L (fun v L' => v = .bool (anyOpen now m) ∧ L = L') := by
  refine Fx.mk Try.func46 k46 (Nat.le_of_ble_eq_true rfl) ?_
  dsimp only [c46, envOf, Nat.reduceAdd]
  repeat' (first | (refine Sx.pvs rfl ?_) | (refine Sx.nil ?_) | (refine Krg.i ?_) | (refine Ksq.nm ?_) | (refine Ksq.rt ?_) | (refine Ksq.ex ?_) | (refine Kbl.nm ?_) | (refine Kbl.rt ?_) | (refine Kbl.hit rfl ?_) | (refine Kbl.miss rfl ?_) | (refine Klp.rt ?_) | (refine Klp.ex ?_) | (refine Cx.sq ?_) | (refine Cx.rg ?_) | (refine Cx.bl ?_) | (refine Cx.sk ?_) | (refine Cx.rt ?_) | (refine Cx.ex ?_) | (refine Cx.yes rfl ?_) | (refine Cx.no rfl ?_) | (refine Sx.on rfl ?_) | (refine Sx.off rfl ?_) | (refine Sx.ldb rfl (by rfl) ?_) | (refine Sx.ldbs rfl rfl ?_) | (refine Sx.stb rfl rfl rfl rfl (by rfl) (by rfl) ?_) | (refine Sx.pv rfl trivial ?_) | (refine Sx.pk rfl rfl rfl ?_))
  refine Sx.ifp rfl (fun h => ?_) (fun h => ?_)
  · repeat' (first | (refine Sx.pvs rfl ?_) | (refine Sx.nil ?_) | (refine Krg.i ?_) | (refine Ksq.nm ?_) | (refine Ksq.rt ?_) | (refine Ksq.ex ?_) | (refine Kbl.nm ?_) | (refine Kbl.rt ?_) | (refine Kbl.hit rfl ?_) | (refine Kbl.miss rfl ?_) | (refine Klp.rt ?_) | (refine Klp.ex ?_) | (refine Cx.sq ?_) | (refine Cx.rg ?_) | (refine Cx.bl ?_) | (refine Cx.sk ?_) | (refine Cx.rt ?_) | (refine Cx.ex ?_) | (refine Cx.yes rfl ?_) | (refine Cx.no rfl ?_) | (refine Sx.on rfl ?_) | (refine Sx.off rfl ?_) | (refine Sx.ldb rfl (by rfl) ?_) | (refine Sx.ldbs rfl rfl ?_) | (refine Sx.stb rfl rfl rfl rfl (by rfl) (by rfl) ?_) | (refine Sx.pv rfl trivial ?_) | (refine Sx.pk rfl rfl rfl ?_))
    refine Sx.ca rfl (refLeast (b := b) (m := m) (F := F) h h3) ?_
    rintro v L' ⟨rfl, rfl⟩
    repeat' (first | (refine Sx.pvs rfl ?_) | (refine Sx.nil ?_) | (refine Krg.i ?_) | (refine Ksq.nm ?_) | (refine Ksq.rt ?_) | (refine Ksq.ex ?_) | (refine Kbl.nm ?_) | (refine Kbl.rt ?_) | (refine Kbl.hit rfl ?_) | (refine Kbl.miss rfl ?_) | (refine Klp.rt ?_) | (refine Klp.ex ?_) | (refine Cx.sq ?_) | (refine Cx.rg ?_) | (refine Cx.bl ?_) | (refine Cx.sk ?_) | (refine Cx.rt ?_) | (refine Cx.ex ?_) | (refine Cx.yes rfl ?_) | (refine Cx.no rfl ?_) | (refine Sx.on rfl ?_) | (refine Sx.off rfl ?_) | (refine Sx.ldb rfl (by rfl) ?_) | (refine Sx.ldbs rfl rfl ?_) | (refine Sx.stb rfl rfl rfl rfl (by rfl) (by rfl) ?_) | (refine Sx.pv rfl trivial ?_) | (refine Sx.pk rfl rfl rfl ?_))
    exact Kr.one (.inr rfl) rfl (Ent.refl _) ⟨congrArg Value.bool (anyOpen_least h), rfl⟩
  · have h' : ¬ 2 ≤ now := h
    repeat' (first | (refine Sx.pvs rfl ?_) | (refine Sx.nil ?_) | (refine Krg.i ?_) | (refine Ksq.nm ?_) | (refine Ksq.rt ?_) | (refine Ksq.ex ?_) | (refine Kbl.nm ?_) | (refine Kbl.rt ?_) | (refine Kbl.hit rfl ?_) | (refine Kbl.miss rfl ?_) | (refine Klp.rt ?_) | (refine Klp.ex ?_) | (refine Cx.sq ?_) | (refine Cx.rg ?_) | (refine Cx.bl ?_) | (refine Cx.sk ?_) | (refine Cx.rt ?_) | (refine Cx.ex ?_) | (refine Cx.yes rfl ?_) | (refine Cx.no rfl ?_) | (refine Sx.on rfl ?_) | (refine Sx.off rfl ?_) | (refine Sx.ldb rfl (by rfl) ?_) | (refine Sx.ldbs rfl rfl ?_) | (refine Sx.stb rfl rfl rfl rfl (by rfl) (by rfl) ?_) | (refine Sx.pv rfl trivial ?_) | (refine Sx.pk rfl rfl rfl ?_))
    exact Kr.one (.inr rfl) rfl (Ent.refl _) ⟨by simp [anyOpen, h'], rfl⟩
theorem refLimboLen {b : Nat} {m : Lm} {F : St} [t : Take L (some ⟨b, 0, none⟩) (RLimboO m) F] (hb : m.size ≤ 1000000000) :
    Fx Try.prog 50 [.pointer (some ⟨b, 0, none⟩)] L (fun v L' => v = .int .i64 m.size ∧ L = L') := by
  have hs : m.size = m.x0.length + m.x1.length + m.x2.length := rfl
  refine Fx.kept (t := t) ?_
  refine Fx.mk Try.func50 k50 (Nat.le_of_ble_eq_true rfl) ?_
  dsimp only [c50, envOf, Nat.reduceAdd]
  refine Cx.openp (t := t) rfl ?_
  rintro ⟨⟨⟨r0, c0⟩, ⟨r1, c1⟩, ⟨r2, c2⟩⟩, ⟨u0, u1, u2, l⟩⟩
  simp only [refL, List.cons_append, List.nil_append]
  refine Cx.liftp fun hT => ?_
  repeat' (first | (refine Sx.pvs rfl ?_) | (refine Sx.nil ?_) | (refine Krg.i ?_) | (refine Ksq.nm ?_) | (refine Ksq.rt ?_) | (refine Ksq.ex ?_) | (refine Kbl.nm ?_) | (refine Kbl.rt ?_) | (refine Kbl.hit rfl ?_) | (refine Kbl.miss rfl ?_) | (refine Klp.rt ?_) | (refine Klp.ex ?_) | (refine Cx.sq ?_) | (refine Cx.rg ?_) | (refine Cx.bl ?_) | (refine Cx.sk ?_) | (refine Cx.rt ?_) | (refine Cx.ex ?_) | (refine Cx.yes rfl ?_) | (refine Cx.no rfl ?_) | (refine Sx.on rfl ?_) | (refine Sx.off rfl ?_) | (refine Sx.ldb rfl (by rfl) ?_) | (refine Sx.ldbs rfl rfl ?_) | (refine Sx.stb rfl rfl rfl rfl (by rfl) (by rfl) ?_) | (refine Sx.pv rfl trivial ?_) | (refine Sx.pk rfl rfl rfl ?_))
  refine Cx.ordc rfl (by kernel_rfl) ?_
  repeat' (first | (refine Ev.pass 0 rfl (by kernel_rfl) ?_) | (refine Ev.stpH (by kernel_rfl) rfl rfl ?_) | (refine Ev.done ?_) | (refine Ev.ldbH (by kernel_rfl) rfl rfl (by rfl) ?_) | (refine Ev.ldbsH (by kernel_rfl) rfl rfl rfl ?_) | (refine Ev.pvH (by kernel_rfl) rfl rfl ⟨by omega, by omega⟩ ?_) | (refine Ev.pvH (by kernel_rfl) rfl rfl (by decide) ?_) | fail)
  rw [w64 (n := (m.x0.length : Int) + m.x1.length) (by omega) (by omega), w64 (n := (m.x0.length : Int) + m.x1.length + m.x2.length) (by omega) (by omega)]
  repeat' (first | (refine Sx.pvs rfl ?_) | (refine Sx.nil ?_) | (refine Krg.i ?_) | (refine Ksq.nm ?_) | (refine Ksq.rt ?_) | (refine Ksq.ex ?_) | (refine Kbl.nm ?_) | (refine Kbl.rt ?_) | (refine Kbl.hit rfl ?_) | (refine Kbl.miss rfl ?_) | (refine Klp.rt ?_) | (refine Klp.ex ?_) | (refine Cx.sq ?_) | (refine Cx.rg ?_) | (refine Cx.bl ?_) | (refine Cx.sk ?_) | (refine Cx.rt ?_) | (refine Cx.ex ?_) | (refine Cx.yes rfl ?_) | (refine Cx.no rfl ?_) | (refine Sx.on rfl ?_) | (refine Sx.off rfl ?_) | (refine Sx.ldb rfl (by rfl) ?_) | (refine Sx.ldbs rfl rfl ?_) | (refine Sx.stb rfl rfl rfl rfl (by rfl) (by rfl) ?_) | (refine Sx.pv rfl trivial ?_) | (refine Sx.pk rfl rfl rfl ?_))
  refine Kr.one (.inr rfl) rfl (RLimboO.close (a := some ⟨b, 0, none⟩) (r0 := r0) (r1 := r1) (r2 := r2) m hT rfl rfl rfl rfl rfl rfl rfl rfl rfl rfl) ⟨?_, rfl⟩
  refine congrArg (Value.int .i64) ?_
  omega
theorem refBucket {b : Nat} {m : Lm} {k : Int} {F : St} [t : Take L (some ⟨b, 0, none⟩) (RLimboO m) F] (hb : m.size ≤ 1000000000) :
    Fx Try.prog 49 [.pointer (some ⟨b, 0, none⟩), .int .i64 k] L (fun v L' =>
      ((k < 0 ∨ 3 ≤ k ∨ m.items k.toNat = []) ∧ v = .tuple #[.int .i64 0, .slice none 0 0] ∧ L' = pt (some ⟨b, 0, none⟩) (RLimboO m) :: F) ∨
      (¬ (k < 0 ∨ 3 ≤ k ∨ m.items k.toNat = []) ∧ ∃ ro co, v = .tuple #[.int .i64 (m.tag k.toNat), .slice ro (m.items k.toNat).length co] ∧ L' = pt ro (Row 3 1 (m.items k.toNat).length co (ints (m.items k.toNat))) :: pt (some ⟨b, 0, none⟩) (RLimboO m) :: F)) := by
  have hs : m.size = m.x0.length + m.x1.length + m.x2.length := rfl
  refine Fx.mk Try.func49 k49 (Nat.le_of_ble_eq_true rfl) ?_
  dsimp only [c49, envOf, Nat.reduceAdd]
  refine Cx.openp (t := t) rfl ?_
  rintro ⟨⟨⟨r0, c0⟩, ⟨r1, c1⟩, ⟨r2, c2⟩⟩, ⟨u0, u1, u2, l⟩⟩
  simp only [refL, List.cons_append, List.nil_append]
  refine Cx.liftp fun hT => ?_
  refine Cx.rowkey (a := r0) fun hx0 hn0 _ hk0 => ?_
  refine Cx.rowkey (a := r1) fun hx1 hn1 _ hk1 => ?_
  refine Cx.rowkey (a := r2) fun hx2 hn2 _ hk2 => ?_
  repeat' (first | (refine Sx.pvs rfl ?_) | (refine Sx.nil ?_) | (refine Krg.i ?_) | (refine Ksq.nm ?_) | (refine Ksq.rt ?_) | (refine Ksq.ex ?_) | (refine Kbl.nm ?_) | (refine Kbl.rt ?_) | (refine Kbl.hit rfl ?_) | (refine Kbl.miss rfl ?_) | (refine Klp.rt ?_) | (refine Klp.ex ?_) | (refine Cx.sq ?_) | (refine Cx.rg ?_) | (refine Cx.bl ?_) | (refine Cx.sk ?_) | (refine Cx.rt ?_) | (refine Cx.ex ?_) | (refine Cx.yes rfl ?_) | (refine Cx.no rfl ?_) | (refine Sx.on rfl ?_) | (refine Sx.off rfl ?_) | (refine Sx.ldb rfl (by rfl) ?_) | (refine Sx.ldbs rfl rfl ?_) | (refine Sx.stb rfl rfl rfl rfl (by rfl) (by rfl) ?_) | (refine Sx.pv rfl trivial ?_) | (refine Sx.pk rfl rfl rfl ?_))
  refine Sx.ifp rfl (fun h1 => ?_) (fun h1 => ?_)
  · repeat' (first | (refine Sx.pvs rfl ?_) | (refine Sx.nil ?_) | (refine Krg.i ?_) | (refine Ksq.nm ?_) | (refine Ksq.rt ?_) | (refine Ksq.ex ?_) | (refine Kbl.nm ?_) | (refine Kbl.rt ?_) | (refine Kbl.hit rfl ?_) | (refine Kbl.miss rfl ?_) | (refine Klp.rt ?_) | (refine Klp.ex ?_) | (refine Cx.sq ?_) | (refine Cx.rg ?_) | (refine Cx.bl ?_) | (refine Cx.sk ?_) | (refine Cx.rt ?_) | (refine Cx.ex ?_) | (refine Cx.yes rfl ?_) | (refine Cx.no rfl ?_) | (refine Sx.on rfl ?_) | (refine Sx.off rfl ?_) | (refine Sx.ldb rfl (by rfl) ?_) | (refine Sx.ldbs rfl rfl ?_) | (refine Sx.stb rfl rfl rfl rfl (by rfl) (by rfl) ?_) | (refine Sx.pv rfl trivial ?_) | (refine Sx.pk rfl rfl rfl ?_))
    exact Kr.two (.inr rfl) rfl rfl (RLimboO.close (a := some ⟨b, 0, none⟩) (r0 := r0) (r1 := r1) (r2 := r2) m hT rfl rfl rfl rfl rfl rfl rfl rfl rfl rfl) (.inl ⟨.inl h1, rfl, rfl⟩)
  repeat' (first | (refine Sx.pvs rfl ?_) | (refine Sx.nil ?_) | (refine Krg.i ?_) | (refine Ksq.nm ?_) | (refine Ksq.rt ?_) | (refine Ksq.ex ?_) | (refine Kbl.nm ?_) | (refine Kbl.rt ?_) | (refine Kbl.hit rfl ?_) | (refine Kbl.miss rfl ?_) | (refine Klp.rt ?_) | (refine Klp.ex ?_) | (refine Cx.sq ?_) | (refine Cx.rg ?_) | (refine Cx.bl ?_) | (refine Cx.sk ?_) | (refine Cx.rt ?_) | (refine Cx.ex ?_) | (refine Cx.yes rfl ?_) | (refine Cx.no rfl ?_) | (refine Sx.on rfl ?_) | (refine Sx.off rfl ?_) | (refine Sx.ldb rfl (by rfl) ?_) | (refine Sx.ldbs rfl rfl ?_) | (refine Sx.stb rfl rfl rfl rfl (by rfl) (by rfl) ?_) | (refine Sx.pv rfl trivial ?_) | (refine Sx.pk rfl rfl rfl ?_))
  refine Sx.ifp rfl (fun h2 => ?_) (fun h2 => ?_)
  · repeat' (first | (refine Sx.pvs rfl ?_) | (refine Sx.nil ?_) | (refine Krg.i ?_) | (refine Ksq.nm ?_) | (refine Ksq.rt ?_) | (refine Ksq.ex ?_) | (refine Kbl.nm ?_) | (refine Kbl.rt ?_) | (refine Kbl.hit rfl ?_) | (refine Kbl.miss rfl ?_) | (refine Klp.rt ?_) | (refine Klp.ex ?_) | (refine Cx.sq ?_) | (refine Cx.rg ?_) | (refine Cx.bl ?_) | (refine Cx.sk ?_) | (refine Cx.rt ?_) | (refine Cx.ex ?_) | (refine Cx.yes rfl ?_) | (refine Cx.no rfl ?_) | (refine Sx.on rfl ?_) | (refine Sx.off rfl ?_) | (refine Sx.ldb rfl (by rfl) ?_) | (refine Sx.ldbs rfl rfl ?_) | (refine Sx.stb rfl rfl rfl rfl (by rfl) (by rfl) ?_) | (refine Sx.pv rfl trivial ?_) | (refine Sx.pk rfl rfl rfl ?_))
    exact Kr.two (.inr rfl) rfl rfl (RLimboO.close (a := some ⟨b, 0, none⟩) (r0 := r0) (r1 := r1) (r2 := r2) m hT rfl rfl rfl rfl rfl rfl rfl rfl rfl rfl) (.inl ⟨.inr (.inl (by omega)), rfl, rfl⟩)
  rcases (show k = 0 ∨ k = 1 ∨ k = 2 by omega) with rfl | rfl | rfl
  · repeat' (first | (refine Sx.pvs rfl ?_) | (refine Sx.nil ?_) | (refine Krg.i ?_) | (refine Ksq.nm ?_) | (refine Ksq.rt ?_) | (refine Ksq.ex ?_) | (refine Kbl.nm ?_) | (refine Kbl.rt ?_) | (refine Kbl.hit rfl ?_) | (refine Kbl.miss rfl ?_) | (refine Klp.rt ?_) | (refine Klp.ex ?_) | (refine Cx.sq ?_) | (refine Cx.rg ?_) | (refine Cx.bl ?_) | (refine Cx.sk ?_) | (refine Cx.rt ?_) | (refine Cx.ex ?_) | (refine Cx.yes rfl ?_) | (refine Cx.no rfl ?_) | (refine Sx.on rfl ?_) | (refine Sx.off rfl ?_) | (refine Sx.ldb rfl (by rfl) ?_) | (refine Sx.ldbs rfl rfl ?_) | (refine Sx.stb rfl rfl rfl rfl (by rfl) (by rfl) ?_) | (refine Sx.pv rfl trivial ?_) | (refine Sx.pk rfl rfl rfl ?_) | (refine Sx.pv rfl ⟨by omega, by omega⟩ ?_) | (refine Sx.pv rfl (by decide) ?_) | fail)
    refine Cx.ifp rfl (fun h3 => ?_) (fun h3 => ?_)
    · repeat' (first | (refine Sx.pvs rfl ?_) | (refine Sx.nil ?_) | (refine Krg.i ?_) | (refine Ksq.nm ?_) | (refine Ksq.rt ?_) | (refine Ksq.ex ?_) | (refine Kbl.nm ?_) | (refine Kbl.rt ?_) | (refine Kbl.hit rfl ?_) | (refine Kbl.miss rfl ?_) | (refine Klp.rt ?_) | (refine Klp.ex ?_) | (refine Cx.sq ?_) | (refine Cx.rg ?_) | (refine Cx.bl ?_) | (refine Cx.sk ?_) | (refine Cx.rt ?_) | (refine Cx.ex ?_) | (refine Cx.yes rfl ?_) | (refine Cx.no rfl ?_) | (refine Sx.on rfl ?_) | (refine Sx.off rfl ?_) | (refine Sx.ldb rfl (by rfl) ?_) | (refine Sx.ldbs rfl rfl ?_) | (refine Sx.stb rfl rfl rfl rfl (by rfl) (by rfl) ?_) | (refine Sx.pv rfl trivial ?_) | (refine Sx.pk rfl rfl rfl ?_))
      exact Kr.two (.inr rfl) rfl rfl (RLimboO.close (a := some ⟨b, 0, none⟩) (r0 := r0) (r1 := r1) (r2 := r2) m hT rfl rfl rfl rfl rfl rfl rfl rfl rfl rfl) (.inl ⟨.inr (.inr (List.eq_nil_of_length_eq_zero (by simpa [Lm.items] using h3))), rfl, rfl⟩)
    have h4 : m.x0 ≠ [] := fun e => h3 (by rw [e]; rfl)
    have hu := hT.h0 h4
    repeat' (first | (refine Sx.pvs rfl ?_) | (refine Sx.nil ?_) | (refine Krg.i ?_) | (refine Ksq.nm ?_) | (refine Ksq.rt ?_) | (refine Ksq.ex ?_) | (refine Kbl.nm ?_) | (refine Kbl.rt ?_) | (refine Kbl.hit rfl ?_) | (refine Kbl.miss rfl ?_) | (refine Klp.rt ?_) | (refine Klp.ex ?_) | (refine Cx.sq ?_) | (refine Cx.rg ?_) | (refine Cx.bl ?_) | (refine Cx.sk ?_) | (refine Cx.rt ?_) | (refine Cx.ex ?_) | (refine Cx.yes rfl ?_) | (refine Cx.no rfl ?_) | (refine Sx.on rfl ?_) | (refine Sx.off rfl ?_) | (refine Sx.ldb rfl (by rfl) ?_) | (refine Sx.ldbs rfl rfl ?_) | (refine Sx.stb rfl rfl rfl rfl (by rfl) (by rfl) ?_) | (refine Sx.pv rfl trivial ?_) | (refine Sx.pk rfl rfl rfl ?_))
    refine Cx.ordc rfl (by kernel_rfl) ?_
    repeat' (first | (refine Ev.pass 0 rfl (by kernel_rfl) ?_) | (refine Ev.stpH (by kernel_rfl) rfl rfl ?_) | (refine Ev.done ?_) | (refine Ev.ldbH (by kernel_rfl) rfl rfl (by rfl) ?_) | (refine Ev.ldbsH (by kernel_rfl) rfl rfl rfl ?_) | (refine Ev.pvH (by kernel_rfl) rfl rfl ⟨by omega, by omega⟩ ?_) | (refine Ev.pvH (by kernel_rfl) rfl rfl (by decide) ?_) | fail)
    refine Ev.apnH (by kernel_rfl) rfl rfl rfl (Rd.any (a := r0) hx0 (hk0.imp (fun h => h.2.1) id)) (ones_ints _) (by simp [maxLen]; omega) (by omega) (.dep rfl (.keep (fun v L' ⟨_, _, _, _, _, e⟩ => by subst e; exact Has.cell rfl) .nil)) fun ra ca hc _ => ?_
    repeat' (first | (refine Ev.pass 0 rfl (by kernel_rfl) ?_) | (refine Ev.stpH (by kernel_rfl) rfl rfl ?_) | (refine Ev.done ?_) | (refine Ev.ldbH (by kernel_rfl) rfl rfl (by rfl) ?_) | (refine Ev.ldbsH (by kernel_rfl) rfl rfl rfl ?_) | (refine Ev.pvH (by kernel_rfl) rfl rfl ⟨by omega, by omega⟩ ?_) | (refine Ev.pvH (by kernel_rfl) rfl rfl (by decide) ?_) | fail)
    repeat' (first | (refine Sx.pvs rfl ?_) | (refine Sx.nil ?_) | (refine Krg.i ?_) | (refine Ksq.nm ?_) | (refine Ksq.rt ?_) | (refine Ksq.ex ?_) | (refine Kbl.nm ?_) | (refine Kbl.rt ?_) | (refine Kbl.hit rfl ?_) | (refine Kbl.miss rfl ?_) | (refine Klp.rt ?_) | (refine Klp.ex ?_) | (refine Cx.sq ?_) | (refine Cx.rg ?_) | (refine Cx.bl ?_) | (refine Cx.sk ?_) | (refine Cx.rt ?_) | (refine Cx.ex ?_) | (refine Cx.yes rfl ?_) | (refine Cx.no rfl ?_) | (refine Sx.on rfl ?_) | (refine Sx.off rfl ?_) | (refine Sx.ldb rfl (by rfl) ?_) | (refine Sx.ldbs rfl rfl ?_) | (refine Sx.stb rfl rfl rfl rfl (by rfl) (by rfl) ?_) | (refine Sx.pv rfl trivial ?_) | (refine Sx.pk rfl rfl rfl ?_))
    refine Kr.two (.inr rfl) rfl rfl ?_ (.inr ⟨?_, ra, ca, by rw [hu]; rfl, rfl⟩)
    · exact Ent.cons (RLimboO.close (a := some ⟨b, 0, none⟩) (r0 := r0) (r1 := r1) (r2 := r2) m hT rfl rfl rfl rfl rfl rfl rfl rfl rfl rfl)
    · rintro (h | h | h)
      · omega
      · omega
      · exact h4 h
  · repeat' (first | (refine Sx.pvs rfl ?_) | (refine Sx.nil ?_) | (refine Krg.i ?_) | (refine Ksq.nm ?_) | (refine Ksq.rt ?_) | (refine Ksq.ex ?_) | (refine Kbl.nm ?_) | (refine Kbl.rt ?_) | (refine Kbl.hit rfl ?_) | (refine Kbl.miss rfl ?_) | (refine Klp.rt ?_) | (refine Klp.ex ?_) | (refine Cx.sq ?_) | (refine Cx.rg ?_) | (refine Cx.bl ?_) | (refine Cx.sk ?_) | (refine Cx.rt ?_) | (refine Cx.ex ?_) | (refine Cx.yes rfl ?_) | (refine Cx.no rfl ?_) | (refine Sx.on rfl ?_) | (refine Sx.off rfl ?_) | (refine Sx.ldb rfl (by rfl) ?_) | (refine Sx.ldbs rfl rfl ?_) | (refine Sx.stb rfl rfl rfl rfl (by rfl) (by rfl) ?_) | (refine Sx.pv rfl trivial ?_) | (refine Sx.pk rfl rfl rfl ?_) | (refine Sx.pv rfl ⟨by omega, by omega⟩ ?_) | (refine Sx.pv rfl (by decide) ?_) | fail)
    refine Cx.ifp rfl (fun h3 => ?_) (fun h3 => ?_)
    · repeat' (first | (refine Sx.pvs rfl ?_) | (refine Sx.nil ?_) | (refine Krg.i ?_) | (refine Ksq.nm ?_) | (refine Ksq.rt ?_) | (refine Ksq.ex ?_) | (refine Kbl.nm ?_) | (refine Kbl.rt ?_) | (refine Kbl.hit rfl ?_) | (refine Kbl.miss rfl ?_) | (refine Klp.rt ?_) | (refine Klp.ex ?_) | (refine Cx.sq ?_) | (refine Cx.rg ?_) | (refine Cx.bl ?_) | (refine Cx.sk ?_) | (refine Cx.rt ?_) | (refine Cx.ex ?_) | (refine Cx.yes rfl ?_) | (refine Cx.no rfl ?_) | (refine Sx.on rfl ?_) | (refine Sx.off rfl ?_) | (refine Sx.ldb rfl (by rfl) ?_) | (refine Sx.ldbs rfl rfl ?_) | (refine Sx.stb rfl rfl rfl rfl (by rfl) (by rfl) ?_) | (refine Sx.pv rfl trivial ?_) | (refine Sx.pk rfl rfl rfl ?_))
      exact Kr.two (.inr rfl) rfl rfl (RLimboO.close (a := some ⟨b, 0, none⟩) (r0 := r0) (r1 := r1) (r2 := r2) m hT rfl rfl rfl rfl rfl rfl rfl rfl rfl rfl) (.inl ⟨.inr (.inr (List.eq_nil_of_length_eq_zero (by simpa [Lm.items] using h3))), rfl, rfl⟩)
    have h4 : m.x1 ≠ [] := fun e => h3 (by rw [e]; rfl)
    have hu := hT.h1 h4
    repeat' (first | (refine Sx.pvs rfl ?_) | (refine Sx.nil ?_) | (refine Krg.i ?_) | (refine Ksq.nm ?_) | (refine Ksq.rt ?_) | (refine Ksq.ex ?_) | (refine Kbl.nm ?_) | (refine Kbl.rt ?_) | (refine Kbl.hit rfl ?_) | (refine Kbl.miss rfl ?_) | (refine Klp.rt ?_) | (refine Klp.ex ?_) | (refine Cx.sq ?_) | (refine Cx.rg ?_) | (refine Cx.bl ?_) | (refine Cx.sk ?_) | (refine Cx.rt ?_) | (refine Cx.ex ?_) | (refine Cx.yes rfl ?_) | (refine Cx.no rfl ?_) | (refine Sx.on rfl ?_) | (refine Sx.off rfl ?_) | (refine Sx.ldb rfl (by rfl) ?_) | (refine Sx.ldbs rfl rfl ?_) | (refine Sx.stb rfl rfl rfl rfl (by rfl) (by rfl) ?_) | (refine Sx.pv rfl trivial ?_) | (refine Sx.pk rfl rfl rfl ?_))
    refine Cx.ordc rfl (by kernel_rfl) ?_
    repeat' (first | (refine Ev.pass 0 rfl (by kernel_rfl) ?_) | (refine Ev.stpH (by kernel_rfl) rfl rfl ?_) | (refine Ev.done ?_) | (refine Ev.ldbH (by kernel_rfl) rfl rfl (by rfl) ?_) | (refine Ev.ldbsH (by kernel_rfl) rfl rfl rfl ?_) | (refine Ev.pvH (by kernel_rfl) rfl rfl ⟨by omega, by omega⟩ ?_) | (refine Ev.pvH (by kernel_rfl) rfl rfl (by decide) ?_) | fail)
    refine Ev.apnH (by kernel_rfl) rfl rfl rfl (Rd.any (a := r1) hx1 (hk1.imp (fun h => h.2.1) id)) (ones_ints _) (by simp [maxLen]; omega) (by omega) (.dep rfl (.keep (fun v L' ⟨_, _, _, _, _, e⟩ => by subst e; exact Has.cell rfl) .nil)) fun ra ca hc _ => ?_
    repeat' (first | (refine Ev.pass 0 rfl (by kernel_rfl) ?_) | (refine Ev.stpH (by kernel_rfl) rfl rfl ?_) | (refine Ev.done ?_) | (refine Ev.ldbH (by kernel_rfl) rfl rfl (by rfl) ?_) | (refine Ev.ldbsH (by kernel_rfl) rfl rfl rfl ?_) | (refine Ev.pvH (by kernel_rfl) rfl rfl ⟨by omega, by omega⟩ ?_) | (refine Ev.pvH (by kernel_rfl) rfl rfl (by decide) ?_) | fail)
    repeat' (first | (refine Sx.pvs rfl ?_) | (refine Sx.nil ?_) | (refine Krg.i ?_) | (refine Ksq.nm ?_) | (refine Ksq.rt ?_) | (refine Ksq.ex ?_) | (refine Kbl.nm ?_) | (refine Kbl.rt ?_) | (refine Kbl.hit rfl ?_) | (refine Kbl.miss rfl ?_) | (refine Klp.rt ?_) | (refine Klp.ex ?_) | (refine Cx.sq ?_) | (refine Cx.rg ?_) | (refine Cx.bl ?_) | (refine Cx.sk ?_) | (refine Cx.rt ?_) | (refine Cx.ex ?_) | (refine Cx.yes rfl ?_) | (refine Cx.no rfl ?_) | (refine Sx.on rfl ?_) | (refine Sx.off rfl ?_) | (refine Sx.ldb rfl (by rfl) ?_) | (refine Sx.ldbs rfl rfl ?_) | (refine Sx.stb rfl rfl rfl rfl (by rfl) (by rfl) ?_) | (refine Sx.pv rfl trivial ?_) | (refine Sx.pk rfl rfl rfl ?_))
    refine Kr.two (.inr rfl) rfl rfl ?_ (.inr ⟨?_, ra, ca, by rw [hu]; rfl, rfl⟩)
    · exact Ent.cons (RLimboO.close (a := some ⟨b, 0, none⟩) (r0 := r0) (r1 := r1) (r2 := r2) m hT rfl rfl rfl rfl rfl rfl rfl rfl rfl rfl)
    · rintro (h | h | h)
      · omega
      · omega
      · exact h4 h
  · repeat' (first | (refine Sx.pvs rfl ?_) | (refine Sx.nil ?_) | (refine Krg.i ?_) | (refine Ksq.nm ?_) | (refine Ksq.rt ?_) | (refine Ksq.ex ?_) | (refine Kbl.nm ?_) | (refine Kbl.rt ?_) | (refine Kbl.hit rfl ?_) | (refine Kbl.miss rfl ?_) | (refine Klp.rt ?_) | (refine Klp.ex ?_) | (refine Cx.sq ?_) | (refine Cx.rg ?_) | (refine Cx.bl ?_) | (refine Cx.sk ?_) | (refine Cx.rt ?_) | (refine Cx.ex ?_) | (refine Cx.yes rfl ?_) | (refine Cx.no rfl ?_) | (refine Sx.on rfl ?_) | (refine Sx.off rfl ?_) | (refine Sx.ldb rfl (by rfl) ?_) | (refine Sx.ldbs rfl rfl ?_) | (refine Sx.stb rfl rfl rfl rfl (by rfl) (by rfl) ?_) | (refine Sx.pv rfl trivial ?_) | (refine Sx.pk rfl rfl rfl ?_) | (refine Sx.pv rfl ⟨by omega, by omega⟩ ?_) | (refine Sx.pv rfl (by decide) ?_) | fail)
    refine Cx.ifp rfl (fun h3 => ?_) (fun h3 => ?_)
    · repeat' (first | (refine Sx.pvs rfl ?_) | (refine Sx.nil ?_) | (refine Krg.i ?_) | (refine Ksq.nm ?_) | (refine Ksq.rt ?_) | (refine Ksq.ex ?_) | (refine Kbl.nm ?_) | (refine Kbl.rt ?_) | (refine Kbl.hit rfl ?_) | (refine Kbl.miss rfl ?_) | (refine Klp.rt ?_) | (refine Klp.ex ?_) | (refine Cx.sq ?_) | (refine Cx.rg ?_) | (refine Cx.bl ?_) | (refine Cx.sk ?_) | (refine Cx.rt ?_) | (refine Cx.ex ?_) | (refine Cx.yes rfl ?_) | (refine Cx.no rfl ?_) | (refine Sx.on rfl ?_) | (refine Sx.off rfl ?_) | (refine Sx.ldb rfl (by rfl) ?_) | (refine Sx.ldbs rfl rfl ?_) | (refine Sx.stb rfl rfl rfl rfl (by rfl) (by rfl) ?_) | (refine Sx.pv rfl trivial ?_) | (refine Sx.pk rfl rfl rfl ?_))
      exact Kr.two (.inr rfl) rfl rfl (RLimboO.close (a := some ⟨b, 0, none⟩) (r0 := r0) (r1 := r1) (r2 := r2) m hT rfl rfl rfl rfl rfl rfl rfl rfl rfl rfl) (.inl ⟨.inr (.inr (List.eq_nil_of_length_eq_zero (by simpa [Lm.items] using h3))), rfl, rfl⟩)
    have h4 : m.x2 ≠ [] := fun e => h3 (by rw [e]; rfl)
    have hu := hT.h2 h4
    repeat' (first | (refine Sx.pvs rfl ?_) | (refine Sx.nil ?_) | (refine Krg.i ?_) | (refine Ksq.nm ?_) | (refine Ksq.rt ?_) | (refine Ksq.ex ?_) | (refine Kbl.nm ?_) | (refine Kbl.rt ?_) | (refine Kbl.hit rfl ?_) | (refine Kbl.miss rfl ?_) | (refine Klp.rt ?_) | (refine Klp.ex ?_) | (refine Cx.sq ?_) | (refine Cx.rg ?_) | (refine Cx.bl ?_) | (refine Cx.sk ?_) | (refine Cx.rt ?_) | (refine Cx.ex ?_) | (refine Cx.yes rfl ?_) | (refine Cx.no rfl ?_) | (refine Sx.on rfl ?_) | (refine Sx.off rfl ?_) | (refine Sx.ldb rfl (by rfl) ?_) | (refine Sx.ldbs rfl rfl ?_) | (refine Sx.stb rfl rfl rfl rfl (by rfl) (by rfl) ?_) | (refine Sx.pv rfl trivial ?_) | (refine Sx.pk rfl rfl rfl ?_))
    refine Cx.ordc rfl (by kernel_rfl) ?_
    repeat' (first | (refine Ev.pass 0 rfl (by kernel_rfl) ?_) | (refine Ev.stpH (by kernel_rfl) rfl rfl ?_) | (refine Ev.done ?_) | (refine Ev.ldbH (by kernel_rfl) rfl rfl (by rfl) ?_) | (refine Ev.ldbsH (by kernel_rfl) rfl rfl rfl ?_) | (refine Ev.pvH (by kernel_rfl) rfl rfl ⟨by omega, by omega⟩ ?_) | (refine Ev.pvH (by kernel_rfl) rfl rfl (by decide) ?_) | fail)
    refine Ev.apnH (by kernel_rfl) rfl rfl rfl (Rd.any (a := r2) hx2 (hk2.imp (fun h => h.2.1) id)) (ones_ints _) (by simp [maxLen]; omega) (by omega) (.dep rfl (.keep (fun v L' ⟨_, _, _, _, _, e⟩ => by subst e; exact Has.cell rfl) .nil)) fun ra ca hc _ => ?_
    repeat' (first | (refine Ev.pass 0 rfl (by kernel_rfl) ?_) | (refine Ev.stpH (by kernel_rfl) rfl rfl ?_) | (refine Ev.done ?_) | (refine Ev.ldbH (by kernel_rfl) rfl rfl (by rfl) ?_) | (refine Ev.ldbsH (by kernel_rfl) rfl rfl rfl ?_) | (refine Ev.pvH (by kernel_rfl) rfl rfl ⟨by omega, by omega⟩ ?_) | (refine Ev.pvH (by kernel_rfl) rfl rfl (by decide) ?_) | fail)
    repeat' (first | (refine Sx.pvs rfl ?_) | (refine Sx.nil ?_) | (refine Krg.i ?_) | (refine Ksq.nm ?_) | (refine Ksq.rt ?_) | (refine Ksq.ex ?_) | (refine Kbl.nm ?_) | (refine Kbl.rt ?_) | (refine Kbl.hit rfl ?_) | (refine Kbl.miss rfl ?_) | (refine Klp.rt ?_) | (refine Klp.ex ?_) | (refine Cx.sq ?_) | (refine Cx.rg ?_) | (refine Cx.bl ?_) | (refine Cx.sk ?_) | (refine Cx.rt ?_) | (refine Cx.ex ?_) | (refine Cx.yes rfl ?_) | (refine Cx.no rfl ?_) | (refine Sx.on rfl ?_) | (refine Sx.off rfl ?_) | (refine Sx.ldb rfl (by rfl) ?_) | (refine Sx.ldbs rfl rfl ?_) | (refine Sx.stb rfl rfl rfl rfl (by rfl) (by rfl) ?_) | (refine Sx.pv rfl trivial ?_) | (refine Sx.pk rfl rfl rfl ?_))
    refine Kr.two (.inr rfl) rfl rfl ?_ (.inr ⟨?_, ra, ca, by rw [hu]; rfl, rfl⟩)
    · exact Ent.cons (RLimboO.close (a := some ⟨b, 0, none⟩) (r0 := r0) (r1 := r1) (r2 := r2) m hT rfl rfl rfl rfl rfl rfl rfl rfl rfl rfl)
    · rintro (h | h | h)
      · omega
      · omega
      · exact h4 h
theorem RTag.put0 {m : Lm} {u0 u1 u2 l : Int} (h : RTag m u0 u1 u2 l) : RTag (m.put 0 0 []) u0 u1 u2 l := ⟨fun x => absurd rfl x, h.h1, h.h2, h.hl⟩
theorem RTag.put1 {m : Lm} {u0 u1 u2 l : Int} (h : RTag m u0 u1 u2 l) : RTag (m.put 1 0 []) u0 u1 u2 l := ⟨h.h0, fun x => absurd rfl x, h.h2, h.hl⟩
theorem RTag.put2 {m : Lm} {u0 u1 u2 l : Int} (h : RTag m u0 u1 u2 l) : RTag (m.put 2 0 []) u0 u1 u2 l := ⟨h.h0, h.h1, fun x => absurd rfl x, h.hl⟩
set_option maxHeartbeats 4000000 in
theorem refReady {b : Nat} {m : Lm} {now : Int} {F : St} [t : Take L (some ⟨b, 0, none⟩) (RLimboO m) F] (hb : m.size ≤ 100000000) (hnow : now ≤ 9223372036854775807) :
    Fx Try.prog 48 [.pointer (some ⟨b, 0, none⟩), .int .i64 now] L (fun v L' => ∃ ro co, v = .slice ro (readyAll now m).1.length co ∧
      L' = pt ro (Row 3 1 (readyAll now m).1.length co (ints (readyAll now m).1)) :: pt (some ⟨b, 0, none⟩) (RLimboO (readyAll now m).2) :: F) := by
  refine Fx.mk Try.func48 k48 (Nat.le_of_ble_eq_true rfl) ?_
  dsimp only [c48, envOf, Nat.reduceAdd]
  refine Cx.ent (Ent.trans (Ent.of t.out) (Ent.rownil 3 1)) ?_
  repeat' (first | (refine Sx.pvs rfl ?_) | (refine Sx.nil ?_) | (refine Krg.i ?_) | (refine Ksq.nm ?_) | (refine Ksq.rt ?_) | (refine Ksq.ex ?_) | (refine Kbl.nm ?_) | (refine Kbl.rt ?_) | (refine Kbl.hit rfl ?_) | (refine Kbl.miss rfl ?_) | (refine Klp.rt ?_) | (refine Klp.ex ?_) | (refine Cx.sq ?_) | (refine Cx.rg ?_) | (refine Cx.bl ?_) | (refine Cx.sk ?_) | (refine Cx.rt ?_) | (refine Cx.ex ?_) | (refine Cx.yes rfl ?_) | (refine Cx.no rfl ?_) | (refine Sx.on rfl ?_) | (refine Sx.off rfl ?_) | (refine Sx.ldb rfl (by rfl) ?_) | (refine Sx.ldbs rfl rfl ?_) | (refine Sx.stb rfl rfl rfl rfl (by rfl) (by rfl) ?_) | (refine Sx.pv rfl trivial ?_) | (refine Sx.pk rfl rfl rfl ?_))
  refine Cx.lp (α := {p : (List Int × Lm) × (Option Addr × Nat) // p.1.1.length + p.1.2.size = m.size ∧ p.1.1 ++ (readyAll now p.1.2).1 = (readyAll now m).1 ∧ (readyAll now p.1.2).2 = (readyAll now m).2})
    (fun p => [(0, .pointer (some ⟨b, 0, none⟩)), (1, .int .i64 now), (5, .slice p.1.2.1 p.1.1.1.length p.1.2.2)])
    (fun p => pt p.1.2.1 (Row 3 1 p.1.1.1.length p.1.2.2 (ints p.1.1.1)) :: pt (some ⟨b, 0, none⟩) (RLimboO p.1.1.2) :: F) (fun p => p.1.1.2.cnt) ⟨(([], m), (none, 0)), by simp, by simp, rfl⟩ (sub.cons rfl (sub.cons rfl (sub.cons rfl sub.nil))) (Ent.refl _) ?_
  rintro ⟨⟨⟨out, m'⟩, ⟨ro, co⟩⟩, hsz, he1, he2⟩
  dsimp only at hsz he1 he2 ⊢
  repeat' (first | (refine Sx.pvs rfl ?_) | (refine Sx.nil ?_) | (refine Krg.i ?_) | (refine Ksq.nm ?_) | (refine Ksq.rt ?_) | (refine Ksq.ex ?_) | (refine Kbl.nm ?_) | (refine Kbl.rt ?_) | (refine Kbl.hit rfl ?_) | (refine Kbl.miss rfl ?_) | (refine Klp.rt ?_) | (refine Klp.ex ?_) | (refine Cx.sq ?_) | (refine Cx.rg ?_) | (refine Cx.bl ?_) | (refine Cx.sk ?_) | (refine Cx.rt ?_) | (refine Cx.ex ?_) | (refine Cx.yes rfl ?_) | (refine Cx.no rfl ?_) | (refine Sx.on rfl ?_) | (refine Sx.off rfl ?_) | (refine Sx.ldb rfl (by rfl) ?_) | (refine Sx.ldbs rfl rfl ?_) | (refine Sx.stb rfl rfl rfl rfl (by rfl) (by rfl) ?_) | (refine Sx.pv rfl trivial ?_) | (refine Sx.pk rfl rfl rfl ?_))
  refine Sx.ca rfl (refOpen (b := b) (m := m') hnow) ?_
  rintro v L' ⟨rfl, rfl⟩
  repeat' (first | (refine Sx.pvs rfl ?_) | (refine Sx.nil ?_) | (refine Krg.i ?_) | (refine Ksq.nm ?_) | (refine Ksq.rt ?_) | (refine Ksq.ex ?_) | (refine Kbl.nm ?_) | (refine Kbl.rt ?_) | (refine Kbl.hit rfl ?_) | (refine Kbl.miss rfl ?_) | (refine Klp.rt ?_) | (refine Klp.ex ?_) | (refine Cx.sq ?_) | (refine Cx.rg ?_) | (refine Cx.bl ?_) | (refine Cx.sk ?_) | (refine Cx.rt ?_) | (refine Cx.ex ?_) | (refine Cx.yes rfl ?_) | (refine Cx.no rfl ?_) | (refine Sx.on rfl ?_) | (refine Sx.off rfl ?_) | (refine Sx.ldb rfl (by rfl) ?_) | (refine Sx.ldbs rfl rfl ?_) | (refine Sx.stb rfl rfl rfl rfl (by rfl) (by rfl) ?_) | (refine Sx.pv rfl trivial ?_) | (refine Sx.pk rfl rfl rfl ?_))
  have hall : ∀ o, 2 ≤ now → leastUp now m' 3 = o → readyAll now m' = match o with
        | none => ([], m')
        | some j => (m'.items j ++ (readyAll now (m'.put j 0 [])).1, (readyAll now (m'.put j 0 [])).2) := by
      intro o h2 ho
      unfold readyAll
      simp only [if_pos h2]
      cases o with
      | none =>
        cases hc : m'.cnt with
        | zero => rfl
        | succ c => simp [readyM, ho]
      | some j =>
        rw [cnt_put (leastUp_lt ho).1 (open_ne (leastUp_lt ho).2)]
        simp [readyM, ho]
  refine Cx.cd rfl (fun hop => ?_) (fun hop => ?_)
  · have h2 : 2 ≤ now := (of_decide_eq_true hop).1
    rw [← anyOpen_least h2] at hop
    have hl := of_decide_eq_true hop
    repeat' (first | (refine Sx.pvs rfl ?_) | (refine Sx.nil ?_) | (refine Krg.i ?_) | (refine Ksq.nm ?_) | (refine Ksq.rt ?_) | (refine Ksq.ex ?_) | (refine Kbl.nm ?_) | (refine Kbl.rt ?_) | (refine Kbl.hit rfl ?_) | (refine Kbl.miss rfl ?_) | (refine Klp.rt ?_) | (refine Klp.ex ?_) | (refine Cx.sq ?_) | (refine Cx.rg ?_) | (refine Cx.bl ?_) | (refine Cx.sk ?_) | (refine Cx.rt ?_) | (refine Cx.ex ?_) | (refine Cx.yes rfl ?_) | (refine Cx.no rfl ?_) | (refine Sx.on rfl ?_) | (refine Sx.off rfl ?_) | (refine Sx.ldb rfl (by rfl) ?_) | (refine Sx.ldbs rfl rfl ?_) | (refine Sx.stb rfl rfl rfl rfl (by rfl) (by rfl) ?_) | (refine Sx.pv rfl trivial ?_) | (refine Sx.pk rfl rfl rfl ?_))
    refine Sx.ca rfl (refLeast (b := b) (m := m') h2 hnow) ?_
    rintro v L' ⟨rfl, rfl⟩
    rcases hlu : leastUp now m' 3 with _ | j
    · rw [hlu] at hl; exact absurd hl (by decide)
    have hra := hall _ h2 hlu
    have hj := (leastUp_lt hlu).1
    have hne := open_ne (leastUp_lt hlu).2
    have hsp := size_put (m := m') hj
    have hcp := cnt_put hj hne
    have hm1 : out.length + (m'.x0.length + m'.x1.length + m'.x2.length) = m.size := hsz
    dsimp only at hra
    rw [hra, ← List.append_assoc] at he1
    rw [hra] at he2
    simp only [leastI]
    refine Sx.openp (a := some ⟨b, 0, none⟩) rfl ?_
    rintro ⟨⟨⟨r0, c0⟩, ⟨r1, c1⟩, ⟨r2, c2⟩⟩, ⟨u0, u1, u2, l⟩⟩
    simp only [refL, List.cons_append, List.nil_append]
    refine Sx.liftp fun hT => ?_
    rcases (show j = 0 ∨ j = 1 ∨ j = 2 by omega) with rfl | rfl | rfl
    · repeat' (first | (refine Sx.pvs rfl ?_) | (refine Sx.nil ?_) | (refine Krg.i ?_) | (refine Ksq.nm ?_) | (refine Ksq.rt ?_) | (refine Ksq.ex ?_) | (refine Kbl.nm ?_) | (refine Kbl.rt ?_) | (refine Kbl.hit rfl ?_) | (refine Kbl.miss rfl ?_) | (refine Klp.rt ?_) | (refine Klp.ex ?_) | (refine Cx.sq ?_) | (refine Cx.rg ?_) | (refine Cx.bl ?_) | (refine Cx.sk ?_) | (refine Cx.rt ?_) | (refine Cx.ex ?_) | (refine Cx.yes rfl ?_) | (refine Cx.no rfl ?_) | (refine Sx.on rfl ?_) | (refine Sx.off rfl ?_) | (refine Sx.ldb rfl (by rfl) ?_) | (refine Sx.ldbs rfl rfl ?_) | (refine Sx.stb rfl rfl rfl rfl (by rfl) (by rfl) ?_) | (refine Sx.pv rfl trivial ?_) | (refine Sx.pk rfl rfl rfl ?_) | (refine Sx.pv rfl ⟨by omega, by omega⟩ ?_) | (refine Sx.pv rfl (by decide) ?_) | fail)
      refine Sx.rowkey (a := r0) fun hxj hnj _ hkj => ?_
      refine Sx.ap (ra := ro) rfl rfl (Rd.any (a := r0) hxj (hkj.imp (fun h => h.2.1) id)) (ones_ints _) (by simp [maxLen]; omega) (by omega) fun ra ca hc => ?_
      repeat' (first | (refine Sx.pvs rfl ?_) | (refine Sx.nil ?_) | (refine Krg.i ?_) | (refine Ksq.nm ?_) | (refine Ksq.rt ?_) | (refine Ksq.ex ?_) | (refine Kbl.nm ?_) | (refine Kbl.rt ?_) | (refine Kbl.hit rfl ?_) | (refine Kbl.miss rfl ?_) | (refine Klp.rt ?_) | (refine Klp.ex ?_) | (refine Cx.sq ?_) | (refine Cx.rg ?_) | (refine Cx.bl ?_) | (refine Cx.sk ?_) | (refine Cx.rt ?_) | (refine Cx.ex ?_) | (refine Cx.yes rfl ?_) | (refine Cx.no rfl ?_) | (refine Sx.on rfl ?_) | (refine Sx.off rfl ?_) | (refine Sx.ldb rfl (by rfl) ?_) | (refine Sx.ldbs rfl rfl ?_) | (refine Sx.stb rfl rfl rfl rfl (by rfl) (by rfl) ?_) | (refine Sx.pv rfl trivial ?_) | (refine Sx.pk rfl rfl rfl ?_) | (refine Sx.pv rfl ⟨by omega, by omega⟩ ?_) | (refine Sx.pv rfl (by decide) ?_) | fail)
      refine Klp.nm ⟨((out ++ m'.items 0, m'.put 0 0 []), (ra, ca)), by dsimp only; rw [List.length_append]; omega, he1, he2⟩ (sub.cons rfl (sub.cons rfl (sub.cons ?_ sub.nil))) ?_ (by dsimp only; omega)
      · show _ = some (Value.slice ra (out ++ m'.items 0).length ca)
        rw [show (out ++ m'.items 0).length = out.length + m'.x0.length by simp [Lm.items]]
        rfl
      · dsimp only
        rw [ints_append, List.length_append]
        refine Ent.take1 (t := inferInstance) ?_
        refine Ent.trans (Ent.rownil 3 1) ?_
        refine Ent.trans (RLimboO.close (a := some ⟨b, 0, none⟩) (r0 := none) (r1 := r1) (r2 := r2) (m'.put 0 0 []) hT.put0 rfl rfl rfl rfl rfl rfl rfl rfl rfl rfl) ?_
        repeat (first | exact Ent.refl _ | (refine Ent.take1 ?_) | (refine Ent.trans Ent.drop ?_))
    · repeat' (first | (refine Sx.pvs rfl ?_) | (refine Sx.nil ?_) | (refine Krg.i ?_) | (refine Ksq.nm ?_) | (refine Ksq.rt ?_) | (refine Ksq.ex ?_) | (refine Kbl.nm ?_) | (refine Kbl.rt ?_) | (refine Kbl.hit rfl ?_) | (refine Kbl.miss rfl ?_) | (refine Klp.rt ?_) | (refine Klp.ex ?_) | (refine Cx.sq ?_) | (refine Cx.rg ?_) | (refine Cx.bl ?_) | (refine Cx.sk ?_) | (refine Cx.rt ?_) | (refine Cx.ex ?_) | (refine Cx.yes rfl ?_) | (refine Cx.no rfl ?_) | (refine Sx.on rfl ?_) | (refine Sx.off rfl ?_) | (refine Sx.ldb rfl (by rfl) ?_) | (refine Sx.ldbs rfl rfl ?_) | (refine Sx.stb rfl rfl rfl rfl (by rfl) (by rfl) ?_) | (refine Sx.pv rfl trivial ?_) | (refine Sx.pk rfl rfl rfl ?_) | (refine Sx.pv rfl ⟨by omega, by omega⟩ ?_) | (refine Sx.pv rfl (by decide) ?_) | fail)
      refine Sx.rowkey (a := r1) fun hxj hnj _ hkj => ?_
      refine Sx.ap (ra := ro) rfl rfl (Rd.any (a := r1) hxj (hkj.imp (fun h => h.2.1) id)) (ones_ints _) (by simp [maxLen]; omega) (by omega) fun ra ca hc => ?_
      repeat' (first | (refine Sx.pvs rfl ?_) | (refine Sx.nil ?_) | (refine Krg.i ?_) | (refine Ksq.nm ?_) | (refine Ksq.rt ?_) | (refine Ksq.ex ?_) | (refine Kbl.nm ?_) | (refine Kbl.rt ?_) | (refine Kbl.hit rfl ?_) | (refine Kbl.miss rfl ?_) | (refine Klp.rt ?_) | (refine Klp.ex ?_) | (refine Cx.sq ?_) | (refine Cx.rg ?_) | (refine Cx.bl ?_) | (refine Cx.sk ?_) | (refine Cx.rt ?_) | (refine Cx.ex ?_) | (refine Cx.yes rfl ?_) | (refine Cx.no rfl ?_) | (refine Sx.on rfl ?_) | (refine Sx.off rfl ?_) | (refine Sx.ldb rfl (by rfl) ?_) | (refine Sx.ldbs rfl rfl ?_) | (refine Sx.stb rfl rfl rfl rfl (by rfl) (by rfl) ?_) | (refine Sx.pv rfl trivial ?_) | (refine Sx.pk rfl rfl rfl ?_) | (refine Sx.pv rfl ⟨by omega, by omega⟩ ?_) | (refine Sx.pv rfl (by decide) ?_) | fail)
      refine Klp.nm ⟨((out ++ m'.items 1, m'.put 1 0 []), (ra, ca)), by dsimp only; rw [List.length_append]; omega, he1, he2⟩ (sub.cons rfl (sub.cons rfl (sub.cons ?_ sub.nil))) ?_ (by dsimp only; omega)
      · show _ = some (Value.slice ra (out ++ m'.items 1).length ca)
        rw [show (out ++ m'.items 1).length = out.length + m'.x1.length by simp [Lm.items]]
        rfl
      · dsimp only
        rw [ints_append, List.length_append]
        refine Ent.take1 (t := inferInstance) ?_
        refine Ent.trans (Ent.rownil 3 1) ?_
        refine Ent.trans (RLimboO.close (a := some ⟨b, 0, none⟩) (r0 := r0) (r1 := none) (r2 := r2) (m'.put 1 0 []) hT.put1 rfl rfl rfl rfl rfl rfl rfl rfl rfl rfl) ?_
        repeat (first | exact Ent.refl _ | (refine Ent.take1 ?_) | (refine Ent.trans Ent.drop ?_))
    · repeat' (first | (refine Sx.pvs rfl ?_) | (refine Sx.nil ?_) | (refine Krg.i ?_) | (refine Ksq.nm ?_) | (refine Ksq.rt ?_) | (refine Ksq.ex ?_) | (refine Kbl.nm ?_) | (refine Kbl.rt ?_) | (refine Kbl.hit rfl ?_) | (refine Kbl.miss rfl ?_) | (refine Klp.rt ?_) | (refine Klp.ex ?_) | (refine Cx.sq ?_) | (refine Cx.rg ?_) | (refine Cx.bl ?_) | (refine Cx.sk ?_) | (refine Cx.rt ?_) | (refine Cx.ex ?_) | (refine Cx.yes rfl ?_) | (refine Cx.no rfl ?_) | (refine Sx.on rfl ?_) | (refine Sx.off rfl ?_) | (refine Sx.ldb rfl (by rfl) ?_) | (refine Sx.ldbs rfl rfl ?_) | (refine Sx.stb rfl rfl rfl rfl (by rfl) (by rfl) ?_) | (refine Sx.pv rfl trivial ?_) | (refine Sx.pk rfl rfl rfl ?_) | (refine Sx.pv rfl ⟨by omega, by omega⟩ ?_) | (refine Sx.pv rfl (by decide) ?_) | fail)
      refine Sx.rowkey (a := r2) fun hxj hnj _ hkj => ?_
      refine Sx.ap (ra := ro) rfl rfl (Rd.any (a := r2) hxj (hkj.imp (fun h => h.2.1) id)) (ones_ints _) (by simp [maxLen]; omega) (by omega) fun ra ca hc => ?_
      repeat' (first | (refine Sx.pvs rfl ?_) | (refine Sx.nil ?_) | (refine Krg.i ?_) | (refine Ksq.nm ?_) | (refine Ksq.rt ?_) | (refine Ksq.ex ?_) | (refine Kbl.nm ?_) | (refine Kbl.rt ?_) | (refine Kbl.hit rfl ?_) | (refine Kbl.miss rfl ?_) | (refine Klp.rt ?_) | (refine Klp.ex ?_) | (refine Cx.sq ?_) | (refine Cx.rg ?_) | (refine Cx.bl ?_) | (refine Cx.sk ?_) | (refine Cx.rt ?_) | (refine Cx.ex ?_) | (refine Cx.yes rfl ?_) | (refine Cx.no rfl ?_) | (refine Sx.on rfl ?_) | (refine Sx.off rfl ?_) | (refine Sx.ldb rfl (by rfl) ?_) | (refine Sx.ldbs rfl rfl ?_) | (refine Sx.stb rfl rfl rfl rfl (by rfl) (by rfl) ?_) | (refine Sx.pv rfl trivial ?_) | (refine Sx.pk rfl rfl rfl ?_) | (refine Sx.pv rfl ⟨by omega, by omega⟩ ?_) | (refine Sx.pv rfl (by decide) ?_) | fail)
      refine Klp.nm ⟨((out ++ m'.items 2, m'.put 2 0 []), (ra, ca)), by dsimp only; rw [List.length_append]; omega, he1, he2⟩ (sub.cons rfl (sub.cons rfl (sub.cons ?_ sub.nil))) ?_ (by dsimp only; omega)
      · show _ = some (Value.slice ra (out ++ m'.items 2).length ca)
        rw [show (out ++ m'.items 2).length = out.length + m'.x2.length by simp [Lm.items]]
        rfl
      · dsimp only
        rw [ints_append, List.length_append]
        refine Ent.take1 (t := inferInstance) ?_
        refine Ent.trans (Ent.rownil 3 1) ?_
        refine Ent.trans (RLimboO.close (a := some ⟨b, 0, none⟩) (r0 := r0) (r1 := r1) (r2 := none) (m'.put 2 0 []) hT.put2 rfl rfl rfl rfl rfl rfl rfl rfl rfl rfl) ?_
        repeat (first | exact Ent.refl _ | (refine Ent.take1 ?_) | (refine Ent.trans Ent.drop ?_))
  · repeat' (first | (refine Sx.pvs rfl ?_) | (refine Sx.nil ?_) | (refine Krg.i ?_) | (refine Ksq.nm ?_) | (refine Ksq.rt ?_) | (refine Ksq.ex ?_) | (refine Kbl.nm ?_) | (refine Kbl.rt ?_) | (refine Kbl.hit rfl ?_) | (refine Kbl.miss rfl ?_) | (refine Klp.rt ?_) | (refine Klp.ex ?_) | (refine Cx.sq ?_) | (refine Cx.rg ?_) | (refine Cx.bl ?_) | (refine Cx.sk ?_) | (refine Cx.rt ?_) | (refine Cx.ex ?_) | (refine Cx.yes rfl ?_) | (refine Cx.no rfl ?_) | (refine Sx.on rfl ?_) | (refine Sx.off rfl ?_) | (refine Sx.ldb rfl (by rfl) ?_) | (refine Sx.ldbs rfl rfl ?_) | (refine Sx.stb rfl rfl rfl rfl (by rfl) (by rfl) ?_) | (refine Sx.pv rfl trivial ?_) | (refine Sx.pk rfl rfl rfl ?_))
    have hra : readyAll now m' = ([], m') := by
      by_cases h2 : 2 ≤ now
      · rw [← anyOpen_least h2] at hop
        have hl := of_decide_eq_false hop
        rcases hlu : leastUp now m' 3 with _ | j
        · exact hall _ h2 hlu
        · rw [hlu] at hl; exact absurd (show (0 : Int) ≤ leastI (some j) by simp [leastI]) hl
      · unfold readyAll; rw [if_neg h2]
    rw [hra] at he1 he2
    simp only [List.append_nil] at he1
    subst he1; subst he2
    exact Kr.one (.inr rfl) rfl (Ent.refl _) ⟨ro, co, rfl, rfl⟩
end
end Go.Proofs.Ytinomeobmpaakaa
