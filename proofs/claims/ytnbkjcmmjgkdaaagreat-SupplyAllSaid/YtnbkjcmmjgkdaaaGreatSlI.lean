/-
  Regions that draw their order: whatever the order, what is told holds at the end.
-/
import Derived.Test.YtnbkjcmmjgkdaaaGreatSlH
set_option linter.unusedSimpArgs false
set_option linter.unusedVariables false
namespace Go.Proofs.YtnbkjcmmjgkdaaaGreat
open Go

theorem go_acc (m : Region.Mode) (ops : Array Oper) : ∀ (fuel t : Nat) (listed : Array Bool) (acc : List Nat),
    Region.linearise.go m ops fuel t listed acc = acc.reverse ++ Region.linearise.go m ops fuel t listed []
  | 0, t, listed, acc => by simp [Region.linearise.go]
  | fuel + 1, t, listed, acc => by
    simp only [Region.linearise.go]
    split
    · rename_i i hi
      rw [go_acc m ops fuel _ _ (i :: acc), go_acc m ops fuel _ _ [i]]
      simp
    · simp

/-- An operation looks at its operands alone. -/
theorem resolve_congr {ρ ρ' : Operand → Value} {c : Call} {ty : TypeId} (h : ∀ x ∈ c.operands, ρ x = ρ' x) : resolve ρ c ty = resolve ρ' c ty := by
  have ha : c.args.map ρ = c.args.map ρ' := Array.map_congr_left fun x hx => h x (by simp [Call.operands, hx])
  unfold resolve
  cases hc : c.callee with
  | value f => simp only [ha, h f (by simp [Call.operands, hc])]
  | invoke r m => simp only [ha, h r (by simp [Call.operands, hc])]
  | builtin b => simp only [ha]
theorem map_congr_parts {ρ ρ' : Operand → Value} {ps : Array (Nat × Operand)} (h : ∀ x ∈ (ps.toList.map (·.2)).toArray, ρ x = ρ' x) : (ps.map fun (i, x) => (i, ρ x)) = ps.map fun (i, x) => (i, ρ' x) := by
  apply Array.map_congr_left
  rintro ⟨i, x⟩ hx
  simp only [Prod.mk.injEq, true_and]
  exact h x (by simp; exact ⟨i, hx⟩)
theorem optmap_congr {ρ ρ' : Operand → Value} {o : Option Operand} (h : ∀ x ∈ o.toArray, ρ x = ρ' x) : o.map ρ = o.map ρ' := by
  cases o with
  | none => rfl
  | some x => simp [h x (by simp)]
theorem execOp_congr {P : Program} {o : Oper} {s : S} (hs : cS P o = some s) {ρ ρ' : Operand → Value} (h : ∀ x ∈ o.op.operands, ρ x = ρ' x) : execOp ρ o = execOp ρ' o := by
  unfold cS at hs
  unfold execOp
  split at hs
  case h_1 => rename_i x ho; rw [ho] at h ⊢; simp only [h x (by simp [Op.operands])]
  case h_2 => rename_i x ho; rw [ho] at h ⊢; simp only [h x (by simp [Op.operands])]
  case h_3 => rename_i c a b ho; rw [ho] at h ⊢; simp only [h c (by simp [Op.operands]), h a (by simp [Op.operands]), h b (by simp [Op.operands])]
  case h_4 => rename_i ho; rw [ho]
  case h_5 => rename_i x ho; rw [ho] at h ⊢; simp only [h x (by simp [Op.operands])]
  case h_6 => rename_i t ps ho; rw [ho] at h ⊢; simp only [map_congr_parts h]
  case h_7 => rename_i t n ps ho; rw [ho] at h ⊢; simp only [map_congr_parts h]
  case h_8 => rename_i t x ho; rw [ho] at h ⊢; simp only [h x (by simp [Op.operands])]
  case h_9 => rename_i t x y ho; rw [ho] at h ⊢; simp only [h x (by simp [Op.operands]), h y (by simp [Op.operands])]
  case h_10 => rename_i x ho; rw [ho] at h ⊢; simp only [h x (by simp [Op.operands])]
  case h_11 => rename_i op t x y u ho; rw [ho] at h ⊢; simp only [h x (by simp [Op.operands]), h y (by simp [Op.operands])]
  case h_12 => rename_i t x ho; rw [ho] at h ⊢; simp only [h x (by simp [Op.operands])]
  case h_13 => rename_i t x ho; rw [ho] at h ⊢; simp only [h x (by simp [Op.operands])]
  case h_14 => rename_i t u x ho; rw [ho] at h ⊢; simp only [h x (by simp [Op.operands])]
  case h_15 =>
    rename_i fn p q ho; rw [ho] at h ⊢
    have h1 : p.map ρ = p.map ρ' := Array.map_congr_left fun x hx => h x (by simp [Op.operands, hx])
    have h2 : q.map ρ = q.map ρ' := Array.map_congr_left fun x hx => h x (by simp [Op.operands, hx])
    simp only [h1, h2]
  case h_16 => rename_i t x y ho; rw [ho] at h ⊢; simp only [h x (by simp [Op.operands]), h y (by simp [Op.operands])]
  case h_17 =>
    rename_i t x lo hi mx ho; rw [ho] at h ⊢
    have h1 : lo.map ρ = lo.map ρ' := optmap_congr fun y hy => h y (by simp only [Op.operands, Array.mem_append]; simp [hy])
    have h2 : hi.map ρ = hi.map ρ' := optmap_congr fun y hy => h y (by simp only [Op.operands, Array.mem_append]; simp [hy])
    have h3 : mx.map ρ = mx.map ρ' := optmap_congr fun y hy => h y (by simp only [Op.operands, Array.mem_append]; simp [hy])
    simp only [h x (by simp [Op.operands]), h1, h2, h3]
  case h_18 => rename_i t x i ho; rw [ho] at h ⊢; simp only [h x (by simp [Op.operands])]
  case h_19 => rename_i t x i ho; rw [ho] at h ⊢; simp only [h x (by simp [Op.operands])]
  case h_20 => rename_i t x y ho; rw [ho] at h ⊢; simp only [h x (by simp [Op.operands]), h y (by simp [Op.operands])]
  case h_21 => rename_i t x y ho; rw [ho] at h ⊢; simp only [h x (by simp [Op.operands]), h y (by simp [Op.operands])]
  case h_22 => rename_i x i ho; rw [ho] at h ⊢; simp only [h x (by simp [Op.operands])]
  case h_23 => rename_i c ho; rw [ho] at h ⊢; simp only [resolve_congr h]
  case h_24 => cases hs

/-! Bits. -/
theorem bit_eq (m n : Nat) : bit m n = m.testBit n := by
  unfold bit
  rw [Nat.testBit_eq_decide_div_mod_eq]
  have h1 : Nat.land (Nat.shiftRight m n) 1 = m / 2 ^ n % 2 := by
    show (m >>> n) &&& 1 = _
    rw [Nat.and_one_is_mod, Nat.shiftRight_eq_div_pow]
  rw [h1]
  by_cases h : m / 2 ^ n % 2 = 1
  · simp [h]
  · cases hb : Nat.beq (m / 2 ^ n % 2) 1 with
    | true => exact absurd (Nat.eq_of_beq_eq_true hb) h
    | false => simp [h]
theorem bit_lor (a b n : Nat) : bit (Nat.lor a b) n = (bit a n || bit b n) := by
  simp only [bit_eq]
  exact Nat.testBit_or a b n
theorem bit_shift (d n : Nat) : bit (Nat.shiftLeft 1 d) n = decide (d = n) := by
  simp only [bit_eq]
  show (1 <<< d).testBit n = _
  rw [Nat.one_shiftLeft]
  exact Nat.testBit_two_pow
theorem bit_zero (n : Nat) : bit 0 n = false := by rw [bit_eq]; exact Nat.zero_testBit n
theorem bit_clos (acc : List Nat) (n : Nat) : ∀ l : List Nat, bit (clos acc l) n = true ↔ ∃ d ∈ l, n = d ∨ bit (acc.getD d 0) n = true
  | [] => by simp [clos, bit_zero]
  | d :: l => by
    have ih := bit_clos acc n l
    have : clos acc (d :: l) = Nat.lor (Nat.lor (clos acc l) (acc.getD d 0)) (Nat.shiftLeft 1 d) := rfl
    rw [this, bit_lor, bit_lor, bit_shift]
    simp only [Bool.or_eq_true, ih, decide_eq_true_eq, List.mem_cons, exists_eq_or_imp]
    constructor
    · rintro ((h | h) | h)
      · exact .inr h
      · exact .inl (.inr h)
      · exact .inl (.inl h.symm)
    · rintro ((h | h) | h)
      · exact .inr h.symm
      · exact .inl (.inr h)
      · exact .inl (.inl h)

/-- May the two come in either order? (p has been told already, y is still to come.) -/
def sepB (p y : It) : Bool :=
  (match p.g.d with
   | none => true
   | some d => (!(y.rs.contains d) || bit y.ds p.i) && (match y.g.d with | none => true | some d' => !(Nat.beq d d'))) &&
  (match y.g.d with | none => true | some d => !(p.rs.contains d))
/-- Has all come that goes ahead of it? -/
def ready (x : It) (rem : List It) : Bool := rem.all fun y => !(bit x.ds y.i)
def without (rem : List It) (i : Nat) : List It := rem.filter fun y => !(Nat.beq y.i i)
def readies (rem : List It) : List It := rem.filter fun x => ready x rem

section
variable {P : Program} {N : Nat}
/-- A region's operations, all of them. -/
structure All (P : Program) (N : Nat) (ops : Array Oper) (all : List It) : Prop where
  it : ∀ i x, all[i]? = some x → x.i = i ∧ ∃ o, ops[i]? = some o ∧ cG P N ops o = some x.g ∧ x.rs = tmpsOf o.op.operands.toList ++ (match x.g.g with | some p => [p.1] | none => []) ∧
    (∀ d ∈ direct o, d < i ∧ bit x.ds d = true) ∧ ∀ n, bit x.ds n = true → ∃ d ∈ direct o, n = d ∨ ∃ y, all[d]? = some y ∧ bit y.ds n = true
  sz : all.length = ops.size
/-- What an operation that has been told ahead of its time comes to, when its time comes. -/
def Late (P : Program) (N : Nat) (ops : Array Oper) (b : Act) (Φ : St → Prop) (p : It × Value) : Prop :=
  ∀ (o : Oper) (a : Act) (w0 w : World) (L : St), ops[p.1.i]? = some o → (∀ r ∈ p.1.rs, a.tmps[r]? = b.tmps[r]?) → Φ L → Sat w0 w L →
    (Region.wanted o (yielded ops a.tmps) = true ∧ (execOp a.eval o).run P w = .ok (.value p.2) w) ∨ (Region.wanted o (yielded ops a.tmps) = false ∧ p.2 = undef)
/-- Of which memory what was told of an operation is told: of the present one, or of all that fit. -/
def Pn (sl : List Nat) (L : St) (Φ : St → Prop) (i : Nat) : St → Prop := fun M => (i ∈ sl ∧ M = L) ∨ (i ∉ sl ∧ Φ M)
structure Inv (P : Program) (N : Nat) (ops : Array Oper) (all rem : List It) (sl : List Nat) (pend : List (It × Value)) (listed : Array Bool) (fuel : Nat) (a b : Act) (Φ : St → Prop) (L : St) : Prop where
  ri : ∀ x ∈ rem, all[x.i]? = some x
  pi : ∀ p ∈ pend, all[p.1.i]? = some p.1
  ls : listed.size = ops.size
  lt : ∀ i, i < ops.size → (listed.getD i true = false ↔ (∃ x ∈ rem, x.i = i) ∨ ∃ p ∈ pend, p.1.i = i)
  dc : ∀ j o, listed.getD j false = true → ops[j]? = some o → ∀ d ∈ direct o, listed.getD d false = true
  fu : fuel = rem.length + pend.length
  nr : (rem.map (·.i)).Nodup
  np : (pend.map (·.1.i)).Nodup
  rp : ∀ x ∈ rem, ∀ p ∈ pend, x.i ≠ p.1.i
  sz : a.tmps.size = N
  df : a.defers = b.defers
  rel : ∀ r, (∀ p ∈ pend, p.1.g.d ≠ some r) → a.tmps[r]? = b.tmps[r]?
  pv : ∀ p ∈ pend, (∀ d, p.1.g.d = some d → b.tmps[d]? = some p.2)
  la : ∀ p ∈ pend, Late P N ops b (Pn sl L Φ p.1.i) p
  sr : ∀ p ∈ pend, ∀ y ∈ rem, sepB p.1 y = true
  sp : ∀ p ∈ pend, ∀ q ∈ pend, ∀ d, q.1.g.d = some d → d ∈ p.1.rs → bit p.1.ds q.1.i = true
  sd : ∀ p ∈ pend, ∀ q ∈ pend, p.1.i ≠ q.1.i → ∀ d, q.1.g.d = some d → p.1.g.d ≠ some d

/-- What an operation looks at is on its list. -/
theorem All.evals {ops : Array Oper} {all : List It} (A : All P N ops all) {x : It} (h : all[x.i]? = some x) {o : Oper} (ho : ops[x.i]? = some o) {a b : Act} (hr : ∀ r ∈ x.rs, a.tmps[r]? = b.tmps[r]?) :
    execOp a.eval o = execOp b.eval o ∧ Region.wanted o (yielded ops a.tmps) = Region.wanted o (yielded ops b.tmps) := by
  obtain ⟨_, o', ho', hg, hrs, _⟩ := A.it _ _ h
  rw [ho] at ho'; cases ho'
  obtain ⟨hs, hd, hN, hgd⟩ := cG_inv hg
  rw [hrs] at hr
  constructor
  · refine execOp_congr hs fun y hy => ?_
    cases y with
    | tmp t =>
      have := hr t (List.mem_append_left _ (by simp only [tmpsOf, List.mem_filterMap]; exact ⟨.tmp t, by simpa using hy, rfl⟩))
      simp [Act.eval, this]
    | const v => rfl
    | global g => rfl
    | func f => rfl
  · rcases hgd with ⟨h1, _⟩ | ⟨j, want, q, t, h1, h2, h3, h4⟩
    · simp [Region.wanted, h1]
    · have := hr t (List.mem_append_right _ (by rw [h4]; simp))
      simp [Region.wanted, h1, yielded, h2, h3, this]
/-- All that goes ahead, near or far, has come. -/
theorem All.reach {ops : Array Oper} {all : List It} (A : All P N ops all) {listed : Array Bool} (dc : ∀ j o, listed.getD j false = true → ops[j]? = some o → ∀ d ∈ direct o, listed.getD d false = true) :
    ∀ (m i : Nat), i < m → ∀ x o, all[i]? = some x → ops[i]? = some o → (∀ d ∈ direct o, listed.getD d false = true) → ∀ n, bit x.ds n = true → listed.getD n false = true := by
  intro m
  induction m with
  | zero => intro i hi; omega
  | succ m ih =>
    intro i hi x o hx ho hd n hn
    obtain ⟨_, o', ho', _, _, hdir, hcl⟩ := A.it i x hx
    rw [ho] at ho'; cases ho'
    obtain ⟨d, hdm, h | ⟨y, hy, hyn⟩⟩ := hcl n hn
    · rw [h]; exact hd d hdm
    · obtain ⟨_, o2, ho2, _⟩ := A.it d y hy
      exact ih d (by have := (hdir d hdm).1; omega) y o2 hy ho2 (dc d o2 (hd d hdm) ho2) n hyn
theorem filter_perm {rem : List It} {x : It} (hx : x ∈ rem) (hn : (rem.map (·.i)).Nodup) : rem.length = (without rem x.i).length + 1 := by
  induction rem with
  | nil => cases hx
  | cons y l ih =>
    simp only [List.map_cons, List.nodup_cons] at hn
    have hnot : ∀ z ∈ l, z.i ≠ y.i := fun z hz h => hn.1 (by rw [← h]; exact List.mem_map_of_mem hz)
    by_cases hxy : y.i = x.i
    · have hw : without (y :: l) x.i = l := by
        unfold without
        rw [List.filter_cons]
        have : Nat.beq y.i x.i = true := by simp [hxy]
        rw [this]
        simp only [Bool.not_true, Bool.false_eq_true, if_false]
        refine List.filter_eq_self.2 fun z hz => ?_
        have h2 := hnot z hz
        cases hb : Nat.beq z.i x.i with
        | false => rfl
        | true => exact absurd (Nat.eq_of_beq_eq_true hb) (by rw [← hxy]; exact h2)
      rw [hw]; rfl
    · have hxl : x ∈ l := by
        rcases List.mem_cons.1 hx with h | h
        · subst h; exact absurd rfl hxy
        · exact h
      have hw : without (y :: l) x.i = y :: without l x.i := by
        unfold without
        rw [List.filter_cons]
        have : Nat.beq y.i x.i = false := by
          cases hb : Nat.beq y.i x.i with
          | false => rfl
          | true => exact absurd (Nat.eq_of_beq_eq_true hb) hxy
        rw [this]
        simp
      rw [hw, List.length_cons, List.length_cons, ih hxl hn.2]
theorem mem_without {rem : List It} {i : Nat} {y : It} : y ∈ without rem i ↔ y ∈ rem ∧ y.i ≠ i := by
  unfold without
  rw [List.mem_filter]
  constructor
  · rintro ⟨h1, h2⟩
    refine ⟨h1, fun h => ?_⟩
    subst h; simp at h2
  · rintro ⟨h1, h2⟩
    refine ⟨h1, ?_⟩
    cases hb : Nat.beq y.i i with
    | false => rfl
    | true => exact absurd (Nat.eq_of_beq_eq_true hb) h2
theorem nodup_without {rem : List It} {i : Nat} (h : (rem.map (·.i)).Nodup) : ((without rem i).map (·.i)).Nodup :=
  List.Sublist.nodup (List.Sublist.map _ List.filter_sublist) h

/-- All orders of what is left: K holds at the end; what Φ says holds all the way; sl: those that have been told of the present memory alone. -/
def Rx (P : Program) (N : Nat) (rem : List It) (sl : List Nat) (Φ : St → Prop) (e : En) (K : En → St → Prop) (L : St) : Prop :=
  ∀ (ops : Array Oper) (all : List It) (Q : Exit → Act → World → Prop) (pend : List (It × Value)) (a b : Act) (w0 w : World) (fuel t : Nat) (listed : Array Bool),
    All P N ops all → Inv P N ops all rem sl pend listed fuel a b Φ L → Ok N b e → Sat w0 w L → Φ L →
    (∀ a' w' e' L', K e' L' → Ok N a' e' → Sat w0 w' L' → Q .normal a' w') →
    wpOps P ops Q (Region.linearise.go .any ops fuel t listed []) a w

theorem set_listed {listed : Array Bool} {i j : Nat} (hi : i < listed.size) : (listed.setIfInBounds i true).getD j true = if i = j then true else listed.getD j true := by
  simp only [Array.getD_eq_getD_getElem?, Array.getElem?_setIfInBounds]
  by_cases h : i = j
  · subst h; simp [hi]
  · simp [h]

theorem sepB_iff {p y : It} (h : sepB p y = true) : (∀ d, p.g.d = some d → (d ∈ y.rs → bit y.ds p.i = true) ∧ y.g.d ≠ some d) ∧ (∀ d, y.g.d = some d → d ∉ p.rs) := by
  unfold sepB at h
  simp only [Bool.and_eq_true] at h
  obtain ⟨h1, h2⟩ := h
  constructor
  · intro d hd
    rw [hd] at h1
    simp only [Bool.and_eq_true, Bool.or_eq_true, Bool.not_eq_true', List.contains_eq_mem, decide_eq_true_eq, decide_eq_false_iff_not] at h1
    refine ⟨fun hm => h1.1.resolve_left (fun h => h hm), fun hy => ?_⟩
    have := h1.2
    rw [hy] at this
    simp at this
  · intro d hd
    rw [hd] at h2
    simpa using h2
theorem put_get {b : Act} {d : Option Nat} {v : Value} {r : Nat} (h : d ≠ some r) : (b.put d v).tmps[r]? = b.tmps[r]? := by
  cases d with
  | none => rfl
  | some d =>
    have : d ≠ r := fun h' => h (by rw [h'])
    simp [Act.put, Array.getElem?_setIfInBounds, this]
theorem put_same {b : Act} {d : Nat} {v : Value} (h : d < b.tmps.size) : (b.put (some d) v).tmps[d]? = some v := by
  simp [Act.put, Array.getElem?_setIfInBounds, h]

/-- One that may be told ahead of its time. -/
theorem Rx.eagerG {rem : List It} {sl sl' : List Nat} {Φ Ψ : St → Prop} {e : En} {K : En → St → Prop} {L : St} {x : It} {v : Value} (hx : x ∈ rem) (hs : (without rem x.i).all (sepB x) = true) (hself : ∀ d, x.g.d = some d → d ∉ x.rs)
    (hrun : ∀ (ops : Array Oper) (all : List It) (o : Oper) (a : Act) (w0 w : World) (M : St), All P N ops all → all[x.i]? = some x → ops[x.i]? = some o → Ok N a e → Pn sl' L Ψ x.i M → Sat w0 w M →
      (Region.wanted o (yielded ops a.tmps) = true ∧ (execOp a.eval o).run P w = .ok (.value v) w) ∨ (Region.wanted o (yielded ops a.tmps) = false ∧ v = undef))
    (hΨ : ∀ i M, i ≠ x.i → Pn sl' L Ψ i M → Pn sl L Φ i M) (hL : Φ L → Ψ L) (k : Rx P N (without rem x.i) sl' Ψ (e.put x.g.d v) K L) : Rx P N rem sl Φ e K L := by
  intro ops all Q pend a b w0 w fuel t listed A inv ok s hP kk
  have hax := inv.ri x hx
  obtain ⟨_, ox, hox, hg, _, _⟩ := A.it _ _ hax
  have hdN : ∀ i, x.g.d = some i → i < N := (cG_inv hg).2.2.1
  have hsep : ∀ y ∈ without rem x.i, sepB x y = true := by simpa using hs
  refine k ops all Q ((x, v) :: pend) a (b.put x.g.d v) w0 w fuel t listed A ?_ (ok.put x.g.d v hdN) s (hL hP) kk
  have hpx : ∀ p ∈ pend, _ := fun p hp => sepB_iff (inv.sr p hp x hx)
  have hbx : ∀ p ∈ pend, ∀ r ∈ p.1.rs, (b.put x.g.d v).tmps[r]? = b.tmps[r]? := fun p hp r hr => put_get fun h => (hpx p hp).2 r h hr
  constructor
  case ri => exact fun y hy => inv.ri y (mem_without.1 hy).1
  case pi =>
    intro p hp
    rcases List.mem_cons.1 hp with rfl | hp
    · exact hax
    · exact inv.pi p hp
  case ls => exact inv.ls
  case lt =>
    intro i hi
    rw [inv.lt i hi]
    constructor
    · rintro (⟨y, hy, rfl⟩ | ⟨p, hp, rfl⟩)
      · by_cases h : y.i = x.i
        · exact .inr ⟨(x, v), by simp, h.symm⟩
        · exact .inl ⟨y, mem_without.2 ⟨hy, h⟩, rfl⟩
      · exact .inr ⟨p, by simp [hp], rfl⟩
    · rintro (⟨y, hy, rfl⟩ | ⟨p, hp, rfl⟩)
      · exact .inl ⟨y, (mem_without.1 hy).1, rfl⟩
      · rcases List.mem_cons.1 hp with rfl | hp
        · exact .inl ⟨x, hx, rfl⟩
        · exact .inr ⟨p, hp, rfl⟩
  case dc => exact inv.dc
  case fu => rw [inv.fu, filter_perm hx inv.nr, List.length_cons]; omega
  case nr => exact nodup_without inv.nr
  case np =>
    simp only [List.map_cons, List.nodup_cons]
    refine ⟨fun h => ?_, inv.np⟩
    obtain ⟨p, hp, hpi⟩ := List.mem_map.1 h
    exact inv.rp x hx p hp hpi.symm
  case rp =>
    intro y hy p hp
    rcases List.mem_cons.1 hp with rfl | hp
    · exact (mem_without.1 hy).2
    · exact inv.rp y (mem_without.1 hy).1 p hp
  case sz => exact inv.sz
  case df =>
    rw [inv.df]
    cases x.g.d <;> rfl
  case rel =>
    intro r hr
    rw [put_get (hr (x, v) (by simp))]
    exact inv.rel r fun p hp => hr p (by simp [hp])
  case pv =>
    intro p hp d hd
    rcases List.mem_cons.1 hp with rfl | hp
    · simp only at hd
      rw [hd]
      exact put_same (by rw [ok.size]; exact hdN d hd)
    · rw [put_get (((hpx p hp).1 d hd).2)]
      exact inv.pv p hp d hd
  case la =>
    intro p hp
    rcases List.mem_cons.1 hp with rfl | hp
    · intro o a2 w0 w L ho hr hP hS
      rw [hox] at ho; cases ho
      have hr2 : ∀ r ∈ x.rs, a2.tmps[r]? = b.tmps[r]? := fun r hrx => by
        rw [hr r hrx]
        exact put_get fun h => hself r h hrx
      obtain ⟨e1, e2⟩ := A.evals hax hox hr2
      rw [e1, e2]
      exact hrun ops all ox b w0 w L A hax hox ok hP hS
    · intro o a2 w0 w L ho hr hP hS
      exact inv.la p hp o a2 w0 w L ho (fun r hrp => (hr r hrp).trans (hbx p hp r hrp)) (hΨ _ _ (fun h => inv.rp x hx p hp h.symm) hP) hS
  case sr =>
    intro p hp y hy
    rcases List.mem_cons.1 hp with rfl | hp
    · exact hsep y hy
    · exact inv.sr p hp y (mem_without.1 hy).1
  case sp =>
    intro p hp q hq d hd hm
    rcases List.mem_cons.1 hp with rfl | hp
    · rcases List.mem_cons.1 hq with rfl | hq
      · exact absurd hm (hself d hd)
      · exact ((hpx q hq).1 d hd).1 hm
    · rcases List.mem_cons.1 hq with rfl | hq
      · exact absurd hm ((hpx p hp).2 d hd)
      · exact inv.sp p hp q hq d hd hm
  case sd =>
    intro p hp q hq hne d hd
    rcases List.mem_cons.1 hp with rfl | hp
    · rcases List.mem_cons.1 hq with rfl | hq
      · exact absurd rfl hne
      · exact ((hpx q hq).1 d hd).2
    · rcases List.mem_cons.1 hq with rfl | hq
      · intro hpd
        exact ((hpx p hp).1 d hpd).2 hd
      · exact inv.sd p hp q hq hne d hd

/-- What stands in a list with no two of one place: one of them told, the rest is what is left without it. -/
theorem getD_false {listed : Array Bool} {i : Nat} (h : listed.getD i false = true) : listed.getD i true = true ∧ i < listed.size := by
  rcases Nat.lt_or_ge i listed.size with hlt | hge
  · simp only [Array.getD_eq_getD_getElem?, Array.getElem?_eq_getElem hlt] at h ⊢
    exact ⟨h, hlt⟩
  · simp only [Array.getD_eq_getD_getElem?, Array.getElem?_eq_none hge] at h
    cases h
def withoutP (pend : List (It × Value)) (i : Nat) : List (It × Value) := pend.filter fun y => !(Nat.beq y.1.i i)
theorem mem_withoutP {pend : List (It × Value)} {i : Nat} {y : It × Value} : y ∈ withoutP pend i ↔ y ∈ pend ∧ y.1.i ≠ i := by
  unfold withoutP
  rw [List.mem_filter]
  constructor
  · rintro ⟨h1, h2⟩
    refine ⟨h1, fun h => ?_⟩
    subst h; simp at h2
  · rintro ⟨h1, h2⟩
    refine ⟨h1, ?_⟩
    cases hb : Nat.beq y.1.i i with
    | false => rfl
    | true => exact absurd (Nat.eq_of_beq_eq_true hb) h2
theorem nodup_withoutP {pend : List (It × Value)} {i : Nat} (h : (pend.map (·.1.i)).Nodup) : ((withoutP pend i).map (·.1.i)).Nodup :=
  List.Sublist.nodup (List.Sublist.map _ List.filter_sublist) h
theorem length_withoutP {pend : List (It × Value)} {p : It × Value} (hp : p ∈ pend) (hn : (pend.map (·.1.i)).Nodup) : pend.length = (withoutP pend p.1.i).length + 1 := by
  have h1 : p.1 ∈ pend.map (·.1) := List.mem_map_of_mem hp
  have h2 := filter_perm h1 (by rw [List.map_map]; exact hn)
  have h3 : without (pend.map (·.1)) p.1.i = (withoutP pend p.1.i).map (·.1) := by
    unfold without withoutP
    rw [List.filter_map]
    rfl
  rw [h3] at h2
  simpa using h2
/-- There is always one that may come next. -/
theorem exists_ready {ops : Array Oper} {all rem : List It} {sl : List Nat} {pend : List (It × Value)} {listed : Array Bool} {fuel : Nat} {a b : Act} {Φ : St → Prop} {L : St} (A : All P N ops all) (inv : Inv P N ops all rem sl pend listed fuel a b Φ L) (hf : 0 < fuel) :
    ∃ i, i < ops.size ∧ listed.getD i true = false ∧ ((ops[i]?).map (·.after.all fun e => !Region.binds .any e || listed.getD e.on false)).getD false = true := by
  have step : ∀ n i, i < n → i < ops.size → listed.getD i true = false → ∃ i, i < ops.size ∧ listed.getD i true = false ∧ ((ops[i]?).map (·.after.all fun e => !Region.binds .any e || listed.getD e.on false)).getD false = true := by
    intro n
    induction n with
    | zero => intro i hi; omega
    | succ n ih =>
      intro i hi his hl
      have hlen : i < all.length := by rw [A.sz]; exact his
      obtain ⟨_, o, ho, _, _, hdir, _⟩ := A.it i _ (List.getElem?_eq_getElem hlen)
      by_cases hall : (o.after.all fun e => !Region.binds .any e || listed.getD e.on false) = true
      · exact ⟨i, his, hl, by rw [ho]; exact hall⟩
      · simp only [Array.all_eq_true', Bool.or_eq_true, Bool.not_eq_true', Classical.not_forall, not_or] at hall
        obtain ⟨ed, hed, hb, hnl⟩ := hall
        have hmem : ed.on ∈ direct o := List.mem_map.2 ⟨ed, List.mem_filter.2 ⟨by simpa using hed, by simpa using hb⟩, rfl⟩
        have hlt := (hdir _ hmem).1
        have hos : ed.on < ops.size := by omega
        refine ih ed.on (by omega) hos ?_
        simp only [Array.getD_eq_getD_getElem?] at hnl ⊢
        have hsz : ed.on < listed.size := by rw [inv.ls]; exact hos
        rw [Array.getElem?_eq_getElem hsz] at hnl ⊢
        simpa using hnl
  have hne : rem ≠ [] ∨ pend ≠ [] := by
    rw [inv.fu] at hf
    cases rem with
    | cons x l => exact .inl (by simp)
    | nil => cases pend with
      | cons p l => exact .inr (by simp)
      | nil => simp at hf
  have hi : ∃ i, i < ops.size ∧ listed.getD i true = false := by
    rcases hne with h | h
    · obtain ⟨x, l, rfl⟩ := List.exists_cons_of_ne_nil h
      have hx := inv.ri x (by simp)
      have hlt : x.i < ops.size := by rw [← A.sz]; exact (List.getElem?_eq_some_iff.1 hx).1
      exact ⟨x.i, hlt, (inv.lt x.i hlt).2 (.inl ⟨x, by simp, rfl⟩)⟩
    · obtain ⟨p, l, rfl⟩ := List.exists_cons_of_ne_nil h
      have hx := inv.pi p (by simp)
      have hlt : p.1.i < ops.size := by rw [← A.sz]; exact (List.getElem?_eq_some_iff.1 hx).1
      exact ⟨p.1.i, hlt, (inv.lt p.1.i hlt).2 (.inr ⟨p, by simp, rfl⟩)⟩
  obtain ⟨i, h1, h2⟩ := hi
  exact step (i + 1) i (by omega) h1 h2

/-- Whichever of those that are ready comes next. -/
theorem Rx.all {rem : List It} {sl : List Nat} {Φ : St → Prop} {e : En} {K : En → St → Prop} {L : St} (h0 : rem = [] → K e L)
    (h : ∀ x ∈ readies rem, (∀ i ∈ sl, bit x.ds i = true) ∧ Sx P N [x.g] e (fun e' L' => Φ L' ∧ Rx P N (without rem x.i) [] Φ e' K L') L) : Rx P N rem sl Φ e K L := by
  intro ops all Q pend
  induction hlen : pend.length using Nat.strongRecOn generalizing pend with
  | _ n ih =>
    intro a b w0 w fuel t listed A inv ok s hP kk
    cases fuel with
    | zero =>
      have hfu := inv.fu
      have hr : rem = [] := List.eq_nil_of_length_eq_zero (by omega)
      have hp : pend = [] := List.eq_nil_of_length_eq_zero (by omega)
      subst hp
      simp only [Region.linearise.go, List.reverse_nil, wpOps]
      refine kk a w e L (h0 hr) ⟨inv.sz, by rw [inv.df]; exact ok.defers, fun i v hi => ?_⟩ s
      rw [inv.rel i (by simp)]
      exact ok.get i v hi
    | succ f =>
      simp only [Region.linearise.go]
      generalize hrs : (List.range ops.size).filter (fun i => !listed.getD i true && ((ops[i]?).map (·.after.all fun e => !Region.binds .any e || listed.getD e.on false)).getD false) = rs
      have hne : 0 < rs.length := by
        obtain ⟨i, h1, h2, h3⟩ := exists_ready A inv (by omega)
        have : i ∈ rs := by
          rw [← hrs, List.mem_filter]
          exact ⟨List.mem_range.2 h1, by rw [h2, h3]; rfl⟩
        exact List.length_pos_of_mem this
      have hget : ∃ i, rs[t % rs.length]? = some i := ⟨_, List.getElem?_eq_getElem (Nat.mod_lt _ hne)⟩
      obtain ⟨i, hi⟩ := hget
      rw [hi]
      simp only
      have himem : i ∈ rs := List.mem_of_getElem? hi
      rw [← hrs, List.mem_filter, List.mem_range] at himem
      obtain ⟨his, hcond⟩ := himem
      simp only [Bool.and_eq_true, Bool.not_eq_true'] at hcond
      obtain ⟨hil, hir⟩ := hcond
      rw [go_acc]
      simp only [List.reverse_cons, List.reverse_nil, List.nil_append, List.singleton_append]
      -- what goes ahead of it has come
      have hlen : i < all.length := by rw [A.sz]; exact his
      have hdirl : ∀ (o : Oper), ops[i]? = some o → ∀ d ∈ direct o, listed.getD d false = true := by
        intro o ho d hd
        obtain ⟨ed, hed, rfl⟩ := List.mem_map.1 hd
        obtain ⟨he1, he2⟩ := List.mem_filter.1 hed
        rw [ho] at hir
        simp only [Option.map_some, Option.getD_some, Array.all_eq_true'] at hir
        have := hir ed (by simpa using he1)
        rw [he2] at this
        simpa only [Bool.not_true, Bool.false_or] using this
      have hnotin : ∀ (x : It), all[i]? = some x → ∀ d, bit x.ds d = true → (∀ y ∈ rem, y.i ≠ d) ∧ ∀ p ∈ pend, p.1.i ≠ d := by
        intro x hx d hd
        obtain ⟨_, o, ho, _⟩ := A.it i x hx
        obtain ⟨h1, h2⟩ := getD_false (A.reach inv.dc (i + 1) i (by omega) x o hx ho (hdirl o ho) d hd)
        rw [inv.ls] at h2
        have h3 := inv.lt d h2
        rw [h1] at h3
        simp only [Bool.true_eq_false, false_iff, not_or, not_exists, not_and] at h3
        exact ⟨h3.1, h3.2⟩
      have hdc : ∀ j o, (listed.setIfInBounds i true).getD j false = true → ops[j]? = some o → ∀ d ∈ direct o, (listed.setIfInBounds i true).getD d false = true := by
        have key : ∀ j, (listed.setIfInBounds i true).getD j false = if i = j then true else listed.getD j false := by
          intro j
          simp only [Array.getD_eq_getD_getElem?, Array.getElem?_setIfInBounds]
          have hsz : i < listed.size := by rw [inv.ls]; exact his
          by_cases h : i = j
          · subst h; simp [hsz]
          · simp [h]
        intro j o hj ho d hd
        rw [key] at hj ⊢
        by_cases hid : i = d
        · simp [hid]
        · rw [if_neg hid]
          by_cases hij : i = j
          · subst hij; exact hdirl o ho d hd
          · rw [if_neg hij] at hj; exact inv.dc j o hj ho d hd
      have hlisted : (listed.setIfInBounds i true).size = ops.size := by simp [inv.ls]
      rcases (inv.lt i his).1 hil with ⟨x, hx, rfl⟩ | ⟨p, hp, rfl⟩
      · -- one of those that are left
        have hax := inv.ri x hx
        obtain ⟨_, o, ho, hg, _, _⟩ := A.it _ _ hax
        have hno := hnotin x hax
        have hrdy : x ∈ readies rem := by
          refine List.mem_filter.2 ⟨hx, ?_⟩
          simp only [ready, List.all_eq_true]
          intro y hy
          cases hb : bit x.ds y.i with
          | false => rfl
          | true => exact absurd rfl ((hno _ hb).1 y hy)
        obtain ⟨hsl, hx0⟩ := h x hrdy
        have hagree : ∀ r ∈ x.rs, a.tmps[r]? = b.tmps[r]? := by
          intro r hr
          refine inv.rel r fun p hp hpd => ?_
          have := ((sepB_iff (inv.sr p hp x hx)).1 r hpd).1 hr
          exact (hno _ this).2 p hp rfl
        obtain ⟨ev1, ev2⟩ := A.evals hax ho hagree
        have hnsl : ∀ p ∈ pend, p.1.i ∉ sl := fun p hp hps => (hno _ (hsl _ hps)).2 p hp rfl
        have hx1 := hx0 ops [o]
          (fun ex act w' => match ex with
            | .normal => ∃ e' L', (Φ L' ∧ Rx P N (without rem x.i) [] Φ e' K L') ∧ Ok N act e' ∧ Sat w0 w' L'
            | _ => False) b w0 w (by simp [cL, hg]) ok s (fun a' w' e' L' hk ok' s' => ⟨e', L', hk, ok', s'⟩)
        have hod : o.dst = x.g.d := (cG_inv hg).2.1
        have hdN : ∀ i, x.g.d = some i → i < N := (cG_inv hg).2.2.1
        -- the rest, from a real state that fits a told one
        have rest : ∀ (v : Value) (w' : World) (e' : En) (L' : St), Φ L' → Rx P N (without rem x.i) [] Φ e' K L' → Ok N (b.put o.dst v) e' → Sat w0 w' L' →
            wpOps P ops Q (Region.linearise.go .any ops f (t / rs.length) (listed.setIfInBounds x.i true) []) (a.put o.dst v) w' := by
          intro v w' e' L' hP' hR ok' s'
          rw [hod] at ok' ⊢
          refine hR ops all Q pend (a.put x.g.d v) (b.put x.g.d v) w0 w' f _ _ A ?_ ok' s' hP' kk
          have hpx : ∀ p ∈ pend, _ := fun p hp => sepB_iff (inv.sr p hp x hx)
          constructor
          case ri => exact fun y hy => inv.ri y (mem_without.1 hy).1
          case pi => exact inv.pi
          case ls => exact hlisted
          case lt =>
            intro j hj
            rw [set_listed (by rw [inv.ls]; exact his)]
            by_cases hij : x.i = j
            · subst hij
              simp only [if_true, Bool.true_eq_false, false_iff, not_or, not_exists, not_and]
              exact ⟨fun y hy => (mem_without.1 hy).2, fun p hp h => inv.rp x hx p hp h.symm⟩
            · rw [if_neg hij, inv.lt j hj]
              constructor
              · rintro (⟨y, hy, rfl⟩ | hp)
                · exact .inl ⟨y, mem_without.2 ⟨hy, fun h => hij h.symm⟩, rfl⟩
                · exact .inr hp
              · rintro (⟨y, hy, rfl⟩ | hp)
                · exact .inl ⟨y, (mem_without.1 hy).1, rfl⟩
                · exact .inr hp
          case dc => exact hdc
          case fu => have := inv.fu; rw [filter_perm hx inv.nr] at this; omega
          case nr => exact nodup_without inv.nr
          case np => exact inv.np
          case rp => exact fun y hy p hp => inv.rp y (mem_without.1 hy).1 p hp
          case sz => have := inv.sz; cases hd : x.g.d <;> simp [Act.put, this]
          case df =>
            have := inv.df
            cases hd : x.g.d <;> exact this
          case rel =>
            intro r hr
            by_cases hrd : x.g.d = some r
            · rw [hrd, put_same (by rw [inv.sz]; exact hdN r hrd), put_same (by rw [ok.size]; exact hdN r hrd)]
            · rw [put_get hrd, put_get hrd]
              exact inv.rel r hr
          case pv =>
            intro p hp d hd
            rw [put_get (((hpx p hp).1 d hd).2)]
            exact inv.pv p hp d hd
          case la =>
            intro p hp o2 a2 w0' w2 L2 ho2 hr2 hP2 hS2
            have hP3 : Pn sl L Φ p.1.i L2 := by
              rcases hP2 with ⟨h1, _⟩ | ⟨_, h2⟩
              · cases h1
              · exact .inr ⟨hnsl p hp, h2⟩
            refine inv.la p hp o2 a2 w0' w2 L2 ho2 (fun r hr => ?_) hP3 hS2
            rw [hr2 r hr]
            exact put_get fun h => (hpx p hp).2 r h hr
          case sr => exact fun p hp y hy => inv.sr p hp y (mem_without.1 hy).1
          case sp => exact inv.sp
          case sd => exact inv.sd
        simp only [wpOps, ho]
        simp only [wpList] at hx1
        rw [← ev2] at hx1
        by_cases hw : Region.wanted o (yielded ops a.tmps) = true
        · rw [if_pos hw] at hx1 ⊢
          rcases hx1 with hx1 | ⟨_, _, _, hx1⟩
          · left
            unfold Oper.wp at hx1 ⊢
            rw [← ev1] at hx1
            cases hr : (execOp a.eval o).run P w with
            | halt ht w' =>
              rw [hr] at hx1
              cases ht <;> exact hx1.elim
            | ok nx w' =>
              rw [hr] at hx1
              cases nx with
              | value v =>
                obtain ⟨e', L', ⟨h1, h2⟩, h3, h4⟩ := hx1
                exact rest v w' e' L' h1 h2 h3 h4
              | skip =>
                obtain ⟨e', L', ⟨h1, h2⟩, h3, h4⟩ := hx1
                exact rest undef w' e' L' h1 h2 h3 h4
              | defer d =>
                obtain ⟨e', L', ⟨h1, h2⟩, h3, h4⟩ := hx1
                exfalso
                have := h3.defers
                cases hd : o.dst <;> simp [Act.put, hd] at this
              | enter f2 args =>
                refine Calls.mono hx1 fun en w2 hh => ?_
                cases en with
                | returned v =>
                  obtain ⟨e', L', ⟨h1, h2⟩, h3, h4⟩ := hh
                  exact rest v w2 e' L' h1 h2 h3 h4
                | panicked c => exact hh.elim
                | outgrown => obtain ⟨_, _, hh⟩ := hh; exact hh.elim
              | row r args =>
                refine Rows.mono hx1 fun v w2 hh => ?_
                obtain ⟨e', L', ⟨h1, h2⟩, h3, h4⟩ := hh
                exact rest v w2 e' L' h1 h2 h3 h4
              | _ => exact hx1.elim
          · exact hx1.elim
        · rw [if_neg hw] at hx1 ⊢
          obtain ⟨e', L', ⟨h1, h2⟩, h3, h4⟩ := hx1
          exact rest undef w e' L' h1 h2 h3 h4
      · -- one that has been told
        have hap := inv.pi p hp
        obtain ⟨_, o, ho, hg, _, _⟩ := A.it _ _ hap
        have hno := hnotin p.1 hap
        have hagree : ∀ r ∈ p.1.rs, a.tmps[r]? = b.tmps[r]? := by
          intro r hr
          refine inv.rel r fun q hq hqd => ?_
          have := inv.sp p hp q hq r hqd hr
          exact (hno _ this).2 q hq rfl
        have hod : o.dst = p.1.g.d := (cG_inv hg).2.1
        have hdN : ∀ i, p.1.g.d = some i → i < N := (cG_inv hg).2.2.1
        have rest : wpOps P ops Q (Region.linearise.go .any ops f (t / rs.length) (listed.setIfInBounds p.1.i true) []) (a.put o.dst p.2) w := by
          refine ih (withoutP pend p.1.i).length ?_ (withoutP pend p.1.i) rfl (a.put o.dst p.2) b w0 w f _ _ A ?_ ok s hP kk
          · have := length_withoutP hp inv.np; omega
          constructor
          case ri => exact inv.ri
          case pi => exact fun q hq => inv.pi q (mem_withoutP.1 hq).1
          case ls => exact hlisted
          case lt =>
            intro j hj
            rw [set_listed (by rw [inv.ls]; exact his)]
            by_cases hij : p.1.i = j
            · subst hij
              simp only [if_true, Bool.true_eq_false, false_iff, not_or, not_exists, not_and]
              exact ⟨fun y hy h => inv.rp y hy p hp h, fun q hq => (mem_withoutP.1 hq).2⟩
            · rw [if_neg hij, inv.lt j hj]
              constructor
              · rintro (hy | ⟨q, hq, rfl⟩)
                · exact .inl hy
                · exact .inr ⟨q, mem_withoutP.2 ⟨hq, fun h => hij h.symm⟩, rfl⟩
              · rintro (hy | ⟨q, hq, rfl⟩)
                · exact .inl hy
                · exact .inr ⟨q, (mem_withoutP.1 hq).1, rfl⟩
          case dc => exact hdc
          case fu => have := inv.fu; rw [length_withoutP hp inv.np] at this; omega
          case nr => exact inv.nr
          case np => exact nodup_withoutP inv.np
          case rp => exact fun y hy q hq => inv.rp y hy q (mem_withoutP.1 hq).1
          case sz => have := inv.sz; cases hd : o.dst <;> simp [Act.put, this]
          case df =>
            have := inv.df
            cases hd : o.dst <;> exact this
          case rel =>
            intro r hr
            by_cases hrd : o.dst = some r
            · rw [hrd, put_same (by rw [inv.sz]; exact hdN r (by rw [← hod]; exact hrd))]
              exact (inv.pv p hp r (by rw [← hod]; exact hrd)).symm
            · rw [put_get hrd]
              refine inv.rel r fun q hq hqd => ?_
              by_cases hqi : q.1.i = p.1.i
              · have hqp : q = p := by
                  have : ∀ (l : List (It × Value)), (l.map (·.1.i)).Nodup → ∀ u v, u ∈ l → v ∈ l → v.1.i = u.1.i → v = u := by
                    intro l
                    induction l with
                    | nil => intro _ u v hu; cases hu
                    | cons z l ihl =>
                      intro hn u v hu hv huv
                      simp only [List.map_cons, List.nodup_cons] at hn
                      rcases List.mem_cons.1 hu with hu1 | hu1
                      · rcases List.mem_cons.1 hv with hv1 | hv1
                        · rw [hu1, hv1]
                        · exact (hn.1 (List.mem_map.2 ⟨v, hv1, by rw [huv, hu1]⟩)).elim
                      · rcases List.mem_cons.1 hv with hv1 | hv1
                        · exact (hn.1 (List.mem_map.2 ⟨u, hu1, by rw [← huv, hv1]⟩)).elim
                        · exact ihl hn.2 u v hu1 hv1 huv
                  exact this pend inv.np p q hp hq hqi
                subst hqp
                exact hrd (by rw [hod]; exact hqd)
              · exact hr q (mem_withoutP.2 ⟨hq, hqi⟩) hqd
          case pv => exact fun q hq => inv.pv q (mem_withoutP.1 hq).1
          case la => exact fun q hq => inv.la q (mem_withoutP.1 hq).1
          case sr => exact fun q hq => inv.sr q (mem_withoutP.1 hq).1
          case sp => exact fun q hq r hr => inv.sp q (mem_withoutP.1 hq).1 r (mem_withoutP.1 hr).1
          case sd => exact fun q hq r hr => inv.sd q (mem_withoutP.1 hq).1 r (mem_withoutP.1 hr).1
        simp only [wpOps, ho]
        rcases inv.la p hp o a w0 w L ho hagree (by by_cases h : p.1.i ∈ sl <;> simp [Pn, h, hP]) s with ⟨h1, h2⟩ | ⟨h1, h2⟩
        · rw [if_pos h1]
          left
          unfold Oper.wp
          rw [h2]
          exact rest
        · rw [if_neg (by rw [h1]; simp)]
          rw [← h2]
          exact rest

theorem cIts_inv {ops : Array Oper} : ∀ {os : List Oper} {acc : List Nat} {i : Nat} {l : List It}, cIts P N ops acc i os = some l →
    l.length = os.length ∧ ∀ k x, l[k]? = some x → ∃ o, os[k]? = some o ∧ cIt P N ops (acc ++ (l.take k).map (·.ds)) (i + k) o = some x
  | [], acc, i, l, h => by simp [cIts] at h; subst h; simp
  | o :: os, acc, i, l, h => by
    simp only [cIts] at h
    split at h
    · rename_i x hx
      split at h
      · rename_i l' hl; cases h
        obtain ⟨h1, h2⟩ := cIts_inv hl
        refine ⟨by simp [h1], fun k y hy => ?_⟩
        cases k with
        | zero => simp at hy; subst hy; exact ⟨o, by simp, by simpa using hx⟩
        | succ k =>
          obtain ⟨o', ho', hc⟩ := h2 k y (by simpa using hy)
          refine ⟨o', by simpa using ho', ?_⟩
          rw [show i + (k + 1) = i + 1 + k by omega]
          simpa using hc
      · cases h
    · cases h
theorem All.of {ops : Array Oper} {all : List It} (h : cIts P N ops [] 0 ops.toList = some all) (hd : ops.toList.zipIdx.all (fun p => (direct p.1).all fun d => Nat.blt d p.2) = true) : All P N ops all := by
  obtain ⟨h1, h2⟩ := cIts_inv h
  refine ⟨fun i x hx => ?_, by simpa using h1⟩
  obtain ⟨o, ho, hc⟩ := h2 i x hx
  simp only [Nat.zero_add, List.nil_append] at hc
  unfold cIt at hc
  split at hc
  · rename_i g hg; cases hc
    have ho' : ops[i]? = some o := by simpa using ho
    have hdir : ∀ d ∈ direct o, d < i := by
      intro d hdm
      have hm : (o, i) ∈ ops.toList.zipIdx := List.mk_mem_zipIdx_iff_getElem?.2 ho
      have := List.all_eq_true.1 hd _ hm
      have := List.all_eq_true.1 this d hdm
      simpa using this
    refine ⟨rfl, o, ho', hg, rfl, fun d hdm => ⟨hdir d hdm, (bit_clos _ _ _).2 ⟨d, hdm, .inl rfl⟩⟩, fun n hn => ?_⟩
    obtain ⟨d, hdm, hh⟩ := (bit_clos _ _ _).1 hn
    refine ⟨d, hdm, hh.imp id fun hb => ?_⟩
    have hlt := hdir d hdm
    have hil : i < all.length := (List.getElem?_eq_some_iff.1 hx).1
    have hdl : d < all.length := by omega
    refine ⟨all[d], List.getElem?_eq_getElem hdl, ?_⟩
    have : ((all.take i).map (·.ds)).getD d 0 = all[d].ds := by
      rw [List.getD_eq_getElem?_getD, List.getElem?_map, List.getElem?_take, if_pos hlt, List.getElem?_eq_getElem hdl]
      rfl
    rw [this] at hb
    exact hb
  · cases hc
/-- A region that draws its order. -/
theorem Cx.rd {l : List It} {e : En} {K : Kx} {L : St} (h : Rx P N l [] (fun _ => True) e (Krg K) L) : Cx P N (.rd l) e K L := by
  intro code Q a w0 w hc ok s k
  obtain ⟨id, ops, rfl, hdep, hl, hd⟩ := cC_rd hc
  refine wp_region_draw fun t => ?_
  have A := All.of hl hd
  have hsch : Region.schedule (P.follows .mixedOrders) ops t = Region.linearise.go .any ops ops.size t (Array.replicate ops.size false) [] := by
    unfold Region.schedule
    rw [if_pos hdep]
    rfl
  rw [hsch]
  refine h ops l Q [] a a w0 w.drew ops.size t _ A ?_ ok s.drew trivial fun a' w' e' L' hk ok' s' => k .nm a' w' e' L' hk ok' s'
  have hnd : (l.map (·.i)) = List.range l.length := by
    apply List.ext_getElem
    · simp
    · intro i h1 h2
      have h3 : i < l.length := by simpa using h1
      simp only [List.getElem_map, List.getElem_range]
      exact (A.it i _ (List.getElem?_eq_getElem h3)).1
  constructor
  case ri =>
    intro x hx
    obtain ⟨i, hi⟩ := List.mem_iff_getElem?.1 hx
    have := (A.it i x hi).1
    rw [this]; exact hi
  case pi => intro p hp; cases hp
  case ls => simp
  case lt =>
    intro i hi
    have hi' : i < l.length := by rw [A.sz]; exact hi
    constructor
    · intro _
      exact .inl ⟨l[i], List.getElem_mem hi', (A.it i _ (List.getElem?_eq_getElem hi')).1⟩
    · intro _
      simp [Array.getD_eq_getD_getElem?, hi]
  case dc =>
    intro j o hj
    simp only [Array.getD_eq_getD_getElem?, Array.getElem?_replicate] at hj
    split at hj <;> cases hj
  case fu => simp [A.sz]
  case nr => rw [hnd]; exact List.nodup_range
  case np => simp
  case rp => intro x _ p hp; cases hp
  case sz => exact ok.size
  case df => rfl
  case rel => intro r _; rfl
  case pv => intro p hp; cases hp
  case la => intro p hp; cases hp
  case sr => intro p hp; cases hp
  case sp => intro p hp; cases hp
  case sd => intro p hp; cases hp

/-! The rules as they are used. -/
section
variable {rem rem' : List It} {sl : List Nat} {Φ : St → Prop} {e : En} {K : En → St → Prop} {L F : St}
theorem wanted_of {ops : Array Oper} {all : List It} (A : All P N ops all) {x : It} {o : Oper} (h : all[x.i]? = some x) (ho : ops[x.i]? = some o) (hg : x.g.g = none) (a : Act) : Region.wanted o (yielded ops a.tmps) = true := by
  obtain ⟨_, o', ho', hc, _⟩ := A.it _ _ h
  rw [ho] at ho'; cases ho'
  rcases (cG_inv hc).2.2.2 with ⟨h1, _⟩ | ⟨_, _, _, _, _, _, _, h2⟩
  · simp [Region.wanted, h1]
  · rw [hg] at h2; cases h2
def selfB (x : It) : Bool := match x.g.d with | some d => !(x.rs.contains d) | none => true
theorem selfB_iff {x : It} (h : selfB x = true) : ∀ d, x.g.d = some d → d ∉ x.rs := by
  intro d hd
  unfold selfB at h
  rw [hd] at h
  simpa using h
theorem Rx.nil (h : K e L) : Rx P N [] sl Φ e K L := .all (fun _ => h) fun x hx => by simp [readies] at hx
/-- A plain operation, told ahead. -/
theorem Rx.pv {x : It} {φ : Prop} {v : Value} (j : Nat) (hx : rem[j]? = some x) (hg : x.g.g = none) (hp : Proofs.YtnbkjcmmjgkdaaaGreat.pv e x.g.s = some (φ, v)) (hφ : φ) (hs : (without rem x.i).all (sepB x) = true) (hself : selfB x = true)
    (k : Rx P N (without rem x.i) sl Φ (e.put x.g.d v) K L) : Rx P N rem sl Φ e K L := by
  refine Rx.eagerG (List.mem_of_getElem? hx) hs (selfB_iff hself) ?_ (fun i M _ h => h) id k
  intro ops all o a w0 w M A hax hox ok _ st
  obtain ⟨_, o', ho', hc, _⟩ := A.it _ _ hax
  rw [hox] at ho'; cases ho'
  exact .inl ⟨wanted_of A hax hox hg a, ok.runs (cG_inv hc).1 hp hφ w⟩
/-- A guard that says no, told ahead. -/
theorem Rx.off {x : It} {t : Nat} {b : Bool} (j : Nat) (hx : rem[j]? = some x) (hg : x.g.g = some (t, b)) (hb : offs e t b = true) (hs : (without rem x.i).all (sepB x) = true) (hself : selfB x = true)
    (k : Rx P N (without rem x.i) sl Φ (e.put x.g.d undef) K L) : Rx P N rem sl Φ e K L := by
  refine Rx.eagerG (List.mem_of_getElem? hx) hs (selfB_iff hself) ?_ (fun i M _ h => h) id k
  intro ops all o a w0 w M A hax hox ok _ st
  obtain ⟨_, o', ho', hc, _⟩ := A.it _ _ hax
  rw [hox] at ho'; cases ho'
  right
  refine ⟨?_, rfl⟩
  rcases (cG_inv hc).2.2.2 with ⟨_, h1⟩ | ⟨j, want, q, t', hgo, hq, ht, h2⟩
  · rw [hg] at h1; cases h1
  · rw [hg] at h2
    simp only [Option.some.injEq, Prod.mk.injEq] at h2
    obtain ⟨rfl, rfl⟩ := h2
    unfold offs at hb
    split at hb
    · rename_i c hc
      have hy := yielded_of hq ht (ok.get _ _ hc)
      simp only [Region.wanted, hgo, hy, boolOf]
      simp only [bne_iff_ne, ne_eq] at hb
      simpa using hb
    · rename_i c hc
      have hy := yielded_of hq ht (ok.get _ _ hc)
      simp [Region.wanted, hgo, hy, boolOf]
    · cases hb
/-- A plain operation behind a guard that says yes, told ahead. -/
theorem Rx.on {x : It} {t : Nat} {b : Bool} {φ : Prop} {v : Value} (j : Nat) (hx : rem[j]? = some x) (hg : x.g.g = some (t, b)) (hb : e.get t = some (.bool b)) (hp : Proofs.YtnbkjcmmjgkdaaaGreat.pv e x.g.s = some (φ, v)) (hφ : φ) (hs : (without rem x.i).all (sepB x) = true) (hself : selfB x = true)
    (k : Rx P N (without rem x.i) sl Φ (e.put x.g.d v) K L) : Rx P N rem sl Φ e K L := by
  refine Rx.eagerG (List.mem_of_getElem? hx) hs (selfB_iff hself) ?_ (fun i M _ h => h) id k
  intro ops all o a w0 w M A hax hox ok _ st
  obtain ⟨_, o', ho', hc, _⟩ := A.it _ _ hax
  rw [hox] at ho'; cases ho'
  refine .inl ⟨?_, ok.runs (cG_inv hc).1 hp hφ w⟩
  rcases (cG_inv hc).2.2.2 with ⟨_, h1⟩ | ⟨j, want, q, t', hgo, hq, ht, h2⟩
  · rw [hg] at h1; cases h1
  · rw [hg] at h2
    simp only [Option.some.injEq, Prod.mk.injEq] at h2
    obtain ⟨rfl, rfl⟩ := h2
    have hy := yielded_of hq ht (ok.get _ _ hb)
    simp [Region.wanted, hgo, hy, boolOf]
/-- A load, told ahead, whose cells stay as they are to the region's end. -/
theorem Rx.ldK {x : It} {d : Option Nat} {y : X} {n b off : Nat} {g : Bool} {vs : List Value} {v : Value} (j : Nat) (hx : rem[j]? = some x) (hg : x.g = ⟨d, none, .ld y n g⟩) (hy : y.get e = some (.pointer (some ⟨b, off, none⟩))) (hh : Has L b off vs) (hv : ldv n g vs = some v)
    (hs : (without rem x.i).all (sepB x) = true) (hself : selfB x = true) (k : Rx P N (without rem x.i) sl (fun M => Φ M ∧ Has M b off vs) (e.put d v) K L) : Rx P N rem sl Φ e K L := by
  have hd : x.g.d = d := by rw [hg]
  rw [← hd] at k
  refine Rx.eagerG (List.mem_of_getElem? hx) hs (selfB_iff hself) ?_ (fun i M _ h => h.imp id fun h => ⟨h.1, h.2.1⟩) (fun h => ⟨h, hh⟩) k
  intro ops all o a w0 w M A hax hox ok hM st
  obtain ⟨_, o', ho', hc, _⟩ := A.it _ _ hax
  rw [hox] at ho'; cases ho'
  have hs' := (cG_inv hc).1
  rw [hg] at hs'
  obtain ⟨t, z, ho, rfl, hag, hn⟩ := cS_ld hs'
  have hhM : Has M b off vs := by
    rcases hM with ⟨_, rfl⟩ | ⟨_, h⟩
    · exact hh
    · exact h.2
  exact .inl ⟨wanted_of A hax hox (by rw [hg]) a, ld_run ho hag hn (ok.eval hy) (hhM w0 w st) hv⟩
/-- A load, told ahead, behind which alone all comes that turns the memory. -/
theorem Rx.ldS {x : It} {d : Option Nat} {y : X} {n b off : Nat} {g : Bool} {vs : List Value} {v : Value} (j : Nat) (hx : rem[j]? = some x) (hg : x.g = ⟨d, none, .ld y n g⟩) (hy : y.get e = some (.pointer (some ⟨b, off, none⟩))) (hh : Has L b off vs) (hv : ldv n g vs = some v)
    (hs : (without rem x.i).all (sepB x) = true) (hself : selfB x = true) (k : Rx P N (without rem x.i) (x.i :: sl) Φ (e.put d v) K L) : Rx P N rem sl Φ e K L := by
  have hd : x.g.d = d := by rw [hg]
  rw [← hd] at k
  refine Rx.eagerG (sl' := x.i :: sl) (List.mem_of_getElem? hx) hs (selfB_iff hself) ?_ (fun i M hi h => ?_) id k
  · intro ops all o a w0 w M A hax hox ok hM st
    obtain ⟨_, o', ho', hc, _⟩ := A.it _ _ hax
    rw [hox] at ho'; cases ho'
    have hs' := (cG_inv hc).1
    rw [hg] at hs'
    obtain ⟨t, z, ho, rfl, hag, hn⟩ := cS_ld hs'
    have hhM : Has M b off vs := by
      rcases hM with ⟨_, rfl⟩ | ⟨h, _⟩
      · exact hh
      · exact absurd (by simp) h
    exact .inl ⟨wanted_of A hax hox (by rw [hg]) a, ld_run ho hag hn (ok.eval hy) (hhM w0 w st) hv⟩
  · rcases h with ⟨h1, h2⟩ | ⟨h1, h2⟩
    · exact .inl ⟨by rcases List.mem_cons.1 h1 with h | h; exact absurd h hi; exact h, h2⟩
    · exact .inr ⟨fun h => h1 (List.mem_cons_of_mem _ h), h2⟩
/-- One is ready. -/
theorem Rx.one {x : It} (hr : readies rem = [x]) (hsl : sl.all (bit x.ds) = true) (hw : without rem x.i = rem') (k : Sx P N [x.g] e (fun e' L' => Φ L' ∧ Rx P N rem' [] Φ e' K L') L) : Rx P N rem sl Φ e K L := by
  subst hw
  refine .all (fun h => ?_) fun y hy => ?_
  · subst h; simp [readies] at hr
  · rw [hr] at hy
    simp only [List.mem_singleton] at hy
    subst hy
    exact ⟨by simpa using hsl, k⟩
/-- Two are. -/
theorem Rx.two {x y : It} (hr : readies rem = [x, y]) (hsl : sl.all (bit x.ds) = true) (hsm : sl.all (bit y.ds) = true) (k : Sx P N [x.g] e (fun e' L' => Φ L' ∧ Rx P N (without rem x.i) [] Φ e' K L') L)
    (m : Sx P N [y.g] e (fun e' L' => Φ L' ∧ Rx P N (without rem y.i) [] Φ e' K L') L) : Rx P N rem sl Φ e K L := by
  refine .all (fun h => ?_) fun z hz => ?_
  · subst h; simp [readies] at hr
  · rw [hr] at hz
    simp only [List.mem_cons, List.not_mem_nil, or_false] at hz
    rcases hz with rfl | rfl
    · exact ⟨by simpa using hsl, k⟩
    · exact ⟨by simpa using hsm, m⟩
theorem Rx.ent (h : Ent L F) (hF : Φ L → Φ F) (hsl : sl = []) (k : Rx P N rem sl Φ e K F) : Rx P N rem sl Φ e K L := by
  intro ops all Q pend a b w0 w fuel t listed A inv ok s hP kk
  subst hsl
  refine k ops all Q pend a b w0 w fuel t listed A ⟨inv.ri, inv.pi, inv.ls, inv.lt, inv.dc, inv.fu, inv.nr, inv.np, inv.rp, inv.sz, inv.df, inv.rel, inv.pv, fun p hp => ?_, inv.sr, inv.sp, inv.sd⟩ ok (s.ent h) (hF hP) kk
  intro o a2 w0' w2 L2 ho2 hr2 hP2 hS2
  refine inv.la p hp o a2 w0' w2 L2 ho2 hr2 ?_ hS2
  rcases hP2 with ⟨h1, _⟩ | ⟨h1, h2⟩
  · cases h1
  · exact .inr ⟨h1, h2⟩
/-- May a plain operation be told now, these left ahead of it and these behind it? What it comes to. -/
def okx (x : It) (kept l : List It) (e : En) : Option Value :=
  match x.g.g, plain x.g.s && ready x kept && kept.all (fun y => sepB x y && !(Nat.beq y.i x.i)) && l.all (fun y => sepB x y && !(Nat.beq y.i x.i)) && selfB x with
  | none, true => match Proofs.YtnbkjcmmjgkdaaaGreat.pv e x.g.s with
    | some (_, v) => some v
    | none => none
  | _, _ => none
def eag : List It → List It → En → List It × En
  | [], kept, e => (List.reverseAux kept [], e)
  | x :: l, kept, e => match okx x kept l e with
    | some v => eag l kept (e.put x.g.d v)
    | none => eag l (x :: kept) e
theorem without_mid {kept l : List It} {x : It} (h1 : ∀ y ∈ kept, y.i ≠ x.i) (h2 : ∀ y ∈ l, y.i ≠ x.i) : without (kept.reverse ++ x :: l) x.i = kept.reverse ++ l := by
  have hb : ∀ y : It, y.i ≠ x.i → (!(Nat.beq y.i x.i)) = true := fun y hy => by
    cases hb : Nat.beq y.i x.i with
    | false => rfl
    | true => exact absurd (Nat.eq_of_beq_eq_true hb) hy
  unfold without
  rw [List.filter_append, List.filter_cons]
  rw [List.filter_eq_self.2 (fun y hy => hb y (h1 y (by simpa using hy))), List.filter_eq_self.2 (fun y hy => hb y (h2 y hy))]
  simp
theorem Rx.eags : ∀ {todo kept : List It} {e e' : En} {rem' : List It}, eag todo kept e = (rem', e') → Rx P N rem' sl Φ e' K L → Rx P N (kept.reverse ++ todo) sl Φ e K L
  | [], kept, e, e', rem', h, k => by
    simp only [eag, Prod.mk.injEq] at h
    obtain ⟨h1, h2⟩ := h
    subst h1; subst h2
    simpa [List.reverseAux_eq] using k
  | x :: l, kept, e, e', rem', h, k => by
    simp only [eag] at h
    split at h
    · rename_i v hv
      have ih := Rx.eags h k
      unfold okx at hv
      split at hv
      · rename_i hg hc
        split at hv
        · rename_i φ u hp; cases hv
          simp only [Bool.and_eq_true, List.all_eq_true, Bool.not_eq_true'] at hc
          obtain ⟨⟨⟨⟨h1, h2⟩, h3⟩, h4⟩, h5⟩ := hc
          have hne : ∀ y : It, Nat.beq y.i x.i = false → y.i ≠ x.i := fun y hy he => by rw [he] at hy; simp at hy
          have hw := without_mid (kept := kept) (l := l) (x := x) (fun y hy => hne y (h3 y hy).2) (fun y hy => hne y (h4 y hy).2)
          refine Rx.pv kept.length (x := x) (by simp) hg hp (plain_pv h1 hp) ?_ h5 (by rw [hw]; exact ih)
          rw [hw, List.all_eq_true]
          intro y hy
          rcases List.mem_append.1 hy with hy | hy
          · exact (h3 y (by simpa using hy)).1
          · exact (h4 y hy).1
        · cases hv
      · cases hv
    · have ih := Rx.eags h k
      simpa using ih
/-- All plain operations that may be told now. -/
theorem Rx.pvs {e' : En} (h : eag rem [] e = (rem', e')) (k : Rx P N rem' sl Φ e' K L) : Rx P N rem sl Φ e K L := by
  have := Rx.eags h k
  simpa using this
/-- A cell of a block, told ahead; what turns the memory comes behind it alone. -/
theorem Rx.ldbS {x : It} {d : Option Nat} {y : X} {b off : Nat} {T : TypeId} {cs : List Value} {v : Value} (j : Nat) [t : Take L (some ⟨b, 0, none⟩) (Blk T cs) F] (hx : rem[j]? = some x) (hg : x.g = ⟨d, none, .ld y 1 false⟩) (hy : y.get e = some (.pointer (some ⟨b, off, none⟩)))
    (hv : cs[off]? = some v) (hs : (without rem x.i).all (sepB x) = true) (hself : selfB x = true) (k : Rx P N (without rem x.i) (x.i :: sl) Φ (e.put d v) K L) : Rx P N rem sl Φ e K L :=
  .ldS j hx hg hy ((Has.blk (T := T) (cs := cs) (n := 1)).one (take_one hv)) rfl hs hself k
/-- A cell of a block, told ahead; it stays as it is. -/
theorem Rx.ldbK {x : It} {d : Option Nat} {y : X} {b off : Nat} {T : TypeId} {cs : List Value} {v : Value} (j : Nat) [t : Take L (some ⟨b, 0, none⟩) (Blk T cs) F] (hx : rem[j]? = some x) (hg : x.g = ⟨d, none, .ld y 1 false⟩) (hy : y.get e = some (.pointer (some ⟨b, off, none⟩)))
    (hv : cs[off]? = some v) (hs : (without rem x.i).all (sepB x) = true) (hself : selfB x = true) (k : Rx P N (without rem x.i) sl (fun M => Φ M ∧ Has M b off [v]) (e.put d v) K L) : Rx P N rem sl Φ e K L :=
  .ldK j hx hg hy ((Has.blk (T := T) (cs := cs) (n := 1)).one (take_one hv)) rfl hs hself k
/-- A cell of a block reads so. -/
theorem Has.cell {b off : Nat} {T : TypeId} {cs : List Value} {v : Value} [t : Take L (some ⟨b, 0, none⟩) (Blk T cs) F] (hv : cs[off]? = some v) : Has L b off [v] := (Has.blk (T := T) (cs := cs) (n := 1)).one (take_one hv)
/-- At the end of one operation in a region that draws. -/
theorem Rx.next {e' : En} {L' : St} (h1 : Φ L') (h2 : Rx P N rem' [] Φ e' K L') : (fun e' L' => Φ L' ∧ Rx P N rem' [] Φ e' K L') e' L' := ⟨h1, h2⟩
end
end
end Go.Proofs.YtnbkjcmmjgkdaaaGreat
