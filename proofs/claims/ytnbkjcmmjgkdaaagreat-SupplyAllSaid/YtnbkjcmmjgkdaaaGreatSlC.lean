/-
  What the small code's plain operations come to is what the model's operations come to.
-/
import Derived.Test.YtnbkjcmmjgkdaaaGreatSlB
set_option linter.unusedSimpArgs false
set_option linter.unusedVariables false
namespace Go.Proofs.YtnbkjcmmjgkdaaaGreat
open Go

/-- A frame whose temporaries hold what is known of them. -/
structure Ok (N : Nat) (a : Act) (e : En) : Prop where
  size : a.tmps.size = N
  defers : a.defers = []
  get : ∀ i v, e.get i = some v → a.tmps[i]? = some v

variable {P : Program} {N : Nat} {a : Act} {e : En} {w : World}

theorem En.get_put (e : En) (d i : Nat) (v : Value) : (e.put (some d) v).get i = if d = i then some v else e.get i := by
  simp only [En.put, En.get]
  by_cases h : d = i
  · subst h; simp
  · have : Nat.beq d i = false := by cases hb : Nat.beq d i with | false => rfl | true => exact absurd (Nat.eq_of_beq_eq_true hb) h
    simp [this, h]
theorem Ok.put (o : Ok N a e) (d : Option Nat) (v : Value) (hd : ∀ i, d = some i → i < N) : Ok N (a.put d v) (e.put d v) := by
  cases d with
  | none => exact o
  | some d =>
    have hd := hd d rfl
    refine ⟨by simp [Act.put, o.size], o.defers, fun i u h => ?_⟩
    rw [En.get_put] at h
    by_cases hi : d = i
    · subst hi
      rw [if_pos rfl] at h; cases h
      simp [Act.put, Array.getElem?_setIfInBounds, o.size, hd]
    · rw [if_neg hi] at h
      have := o.get i u h
      simp only [Act.put, Array.getElem?_setIfInBounds]
      rw [if_neg hi]; exact this
theorem Ok.eval (o : Ok N a e) {x : Operand} {v : Value} (h : (cX x).get e = some v) : a.eval x = v := by
  cases x with
  | tmp t =>
    have := o.get t v (by simpa [cX, X.get] using h)
    simp [Act.eval, this]
  | const u => simpa [cX, X.get, Act.eval] using h
  | global g => simpa [cX, X.get, Act.eval] using h
  | func f => simpa [cX, X.get, Act.eval] using h
theorem Ok.evals (o : Ok N a e) : ∀ {l : List Operand} {vs : List Value}, gets e (l.map cX) = some vs → l.map a.eval = vs
  | [], vs, h => by simp [gets] at h; simp [h]
  | x :: l, vs, h => by
    simp only [List.map_cons, gets] at h
    split at h
    · rename_i v hv
      split at h
      · rename_i us hu
        cases h
        simp [o.eval hv, o.evals hu]
      · cases h
    · cases h
theorem Ok.intX (o : Ok N a e) {x : Operand} {n : Int} (h : intX e (cX x) = some n) : ∃ k, a.eval x = .int k n := by
  unfold Proofs.YtnbkjcmmjgkdaaaGreat.intX at h
  split at h
  · rename_i k m hv; cases h; exact ⟨k, o.eval hv⟩
  · cases h

theorem szT_eq {t : TypeId} {n : Nat} (h : szT P t = some n) (w : World) : (sizeOf t).run P w = .ok n w := by
  unfold szT at h
  cases hi : P.info? t with
  | none => simp [hi] at h
  | some i => simp [hi] at h; simp [sizeOf, typeInfo, hi, h]
theorem isAggT_eq {t : TypeId} {g : Bool} (h : isAggT P t = some g) (w : World) : (isAgg t).run P w = .ok g w := by
  unfold isAggT at h
  cases hu : P.underlying t with
  | none => simp [hu] at h
  | some d =>
    rw [hu] at h
    unfold isAgg
    cases d <;> simp_all [run_underlying hu]
theorem zeroT_eq {t : TypeId} {z : List Value} (h : zeroT P t = some z) : ∃ i v, P.info? t = some i ∧ i.zero = some v ∧ v.cells.toList = z := by
  unfold zeroT at h
  split at h
  · rename_i i hi
    split at h
    · rename_i v hv; cases h; exact ⟨i, v, hi, hv, rfl⟩
    · cases h
  · cases h
theorem zeroValue_eq {t : TypeId} {i : TypeInfo} {v : Value} (h : P.info? t = some i) (hz : i.zero = some v) (w : World) : (zeroValue t).run P w = .ok v w := by
  simp [zeroValue, typeInfo, h, hz]
theorem cellsOf_eq {v : Value} {vs : List Value} (h : cellsOf v = some vs) : v.cells.toList = vs := by
  cases v <;> simp_all [cellsOf, Value.cells]
theorem iop_run {op : BinOp} {t : TypeId} {k : IntKind} {x y : Int} {φ : Prop} {v : Value} (h : iop op k x y = some (φ, v)) (hφ : φ) : (binOp op t (.int k x) (.int k y)).run P w = .ok v w := by
  cases op <;> simp only [iop, Option.some.injEq, Prod.mk.injEq, reduceCtorEq] at h
  all_goals (obtain ⟨rfl, rfl⟩ := h)
  all_goals first | (simp [binOp, Op.intArith, Op.intDiv, Op.intBits, Op.intCmp, bitsOf, bne, hφ]; done) | (simp [binOp, Op.intArith, Op.intDiv, Op.intBits, Op.intCmp, bitsOf, bne, hφ]; rfl)
theorem shop_run {op : BinOp} {t : TypeId} {k yk : IntKind} {x y : Int} {φ : Prop} {v : Value} (h : shop op k x y = some (φ, v)) (hφ : φ) : (binOp op t (.int k x) (.int yk y)).run P w = .ok v w := by
  cases op <;> simp only [shop, Option.some.injEq, Prod.mk.injEq, reduceCtorEq] at h
  all_goals (obtain ⟨rfl, rfl⟩ := h)
  all_goals (have : ¬ y < 0 := by omega)
  all_goals simp [binOp, Op.shift, this]
theorem equalIn_p1 (n : Nat) {t E : TypeId} (hu : P.underlying t = some (.pointer E)) (q : Option Addr) : (Op.equalIn (n + 1) t (.pointer q) (.pointer none)).run P w = .ok q.isNone w := by
  cases q <;> simp [Op.equalIn, run_underlying hu]
theorem equalIn_p2 (n : Nat) {t E : TypeId} (hu : P.underlying t = some (.pointer E)) (q : Option Addr) : (Op.equalIn (n + 1) t (.pointer none) (.pointer q)).run P w = .ok q.isNone w := by
  simp [Op.equalIn, run_underlying hu]
theorem equalIn_s1 (n : Nat) {t E : TypeId} (hu : P.underlying t = some (.slice E)) (q : Option Addr) (l c l' c' : Nat) : (Op.equalIn (n + 1) t (.slice q l c) (.slice none l' c')).run P w = .ok q.isNone w := by
  cases q <;> simp [Op.equalIn, run_underlying hu]
theorem equalIn_s2 (n : Nat) {t E : TypeId} (hu : P.underlying t = some (.slice E)) (q : Option Addr) (l c l' c' : Nat) : (Op.equalIn (n + 1) t (.slice none l c) (.slice q l' c')).run P w = .ok q.isNone w := by
  simp [Op.equalIn, run_underlying hu]
theorem equalIn_nil (n : Nat) {t : TypeId} {x y : Value} {d : TypeDesc} {i : Nat} {r : Bool} (hu : P.underlying t = some d) (hd : (match d with | .pointer _ => some 0 | .slice _ => some 1 | .func .. => some 2 | _ => none) = some i) (h : eqNil i x y = some r) :
    (Op.equalIn (n + 1) t x y).run P w = .ok r w := by
  unfold eqNil at h
  split at h <;> cases h
  all_goals (cases d <;> simp at hd)
  · exact equalIn_p1 n hu _
  · exact equalIn_p2 n hu _
  · exact equalIn_s1 n hu _ _ _ _ _
  · exact equalIn_s2 n hu _ _ _ _ _
  all_goals simp [Op.equalIn, run_underlying hu]
theorem equal_nil {t : TypeId} {x y : Value} {d : TypeDesc} {i : Nat} {r : Bool} (hu : P.underlying t = some d) (hd : (match d with | .pointer _ => some 0 | .slice _ => some 1 | .func .. => some 2 | _ => none) = some i) (h : eqNil i x y = some r) :
    (Op.equal t x y).run P w = .ok r w := equalIn_nil 9999 hu hd h

/-- What an operation's run comes to: a value, the world as it was. -/
def Runs (P : Program) (a : Act) (o : Oper) (v : Value) : Prop := ∀ w, (execOp a.eval o).run P w = .ok (.value v) w

theorem Ok.runs_mv (ok : Ok N a e) {o : Oper} {x : Operand} (ho : o.op = .move x ∨ o.op = .assign x) {φ : Prop} {v : Value} (hp : pv e (.mv (cX x)) = some (φ, v)) : Runs P a o v := by
  intro w
  simp only [pv] at hp
  split at hp
  · rename_i u hu; cases hp
    rcases ho with ho | ho <;> simp [execOp, ho, ok.eval hu]
  · cases hp
theorem Ok.runs_pk (ok : Ok N a e) {o : Oper} {c x y : Operand} (ho : o.op = .pick c x y) {φ : Prop} {v : Value} (hp : pv e (.pk (cX c) (cX x) (cX y)) = some (φ, v)) : Runs P a o v := by
  intro w
  simp only [pv] at hp
  split at hp
  · rename_i hc
    split at hp
    · rename_i u hu; cases hp; simp [execOp, ho, asBool, ok.eval hc, ok.eval hu]
    · cases hp
  · rename_i hc
    split at hp
    · rename_i u hu; cases hp; simp [execOp, ho, asBool, ok.eval hc, ok.eval hu]
    · cases hp
  · cases hp
theorem eqGuard_int (op : BinOp) (t : TypeId) (x y : Operand) (k : IntKind) (n : Int) (v : Value) : eqGuard op t x y (.int k n) v = pure () := eqGuard_at_int op t x y v k n
theorem Ok.runs_ib (ok : Ok N a e) {o : Oper} {op : BinOp} {t u : TypeId} {x y : Operand} (ho : o.op = .binOp op t x y u) {φ : Prop} {v : Value} (hp : pv e (.ib op (cX x) (cX y)) = some (φ, v)) (hφ : φ) : Runs P a o v := by
  intro w
  simp only [pv] at hp
  split at hp
  · rename_i k p k' q hx hy
    have key : (binOp op t (.int k p) (.int k' q)).run P w = .ok v w := by
      split at hp
      · exact shop_run hp hφ
      · exact shop_run hp hφ
      · by_cases hk : k = k'
        · subst hk; simp only [decide_true, cond_true] at hp; exact iop_run hp hφ
        · simp only [hk, decide_false, cond_false] at hp; cases hp
    simp [execOp, ho, ok.eval hx, ok.eval hy, eqGuard_at_int, key]
  · cases hp
theorem equalIn_bool (n : Nat) {t : TypeId} (hu : P.underlying t = some .bool) (x y : Bool) (w : World) : (Op.equalIn (n + 1) t (.bool x) (.bool y)).run P w = .ok (x == y) w := by
  simp [Op.equalIn, run_underlying hu]
theorem equal_bool {t : TypeId} (hu : P.underlying t = some .bool) (x y : Bool) (w : World) : (Op.equal t (.bool x) (.bool y)).run P w = .ok (x == y) w := by
  exact equalIn_bool 9999 hu x y w
theorem Ok.runs_bb (ok : Ok N a e) {o : Oper} {op : BinOp} {t u : TypeId} {x y : Operand} (ho : o.op = .binOp op t x y u) (hu : P.underlying t = some .bool) {neg : Bool} (hop : op = if neg then .neq else .eql) {φ : Prop} {v : Value}
    (hp : pv e (.bb neg (cX x) (cX y)) = some (φ, v)) : Runs P a o v := by
  intro w
  simp only [pv] at hp
  split at hp
  · rename_i p q hx hy; cases hp
    subst hop
    cases neg <;> simp [execOp, ho, ok.eval hx, ok.eval hy, eqGuard_at_bool, binOp, equal_bool hu]
  · cases hp
theorem eqNil_guard {i : Nat} {x y : Value} {r : Bool} (h : eqNil i x y = some r) (op : BinOp) (t : TypeId) (p q : Operand) : eqGuard op t p q x y = pure () := by
  unfold eqNil at h
  split at h <;> cases h <;> cases op <;> rfl
theorem eqNil_binOp {i : Nat} {x y : Value} {r : Bool} (h : eqNil i x y = some r) (t : TypeId) : binOp .eql t x y = (do pure (.bool (← Op.equal t x y))) ∧ binOp .neq t x y = (do pure (.bool (!(← Op.equal t x y)))) := by
  unfold eqNil at h
  split at h <;> cases h <;> exact ⟨rfl, rfl⟩
theorem Ok.runs_en (ok : Ok N a e) {o : Oper} {op : BinOp} {t u : TypeId} {x y : Operand} (ho : o.op = .binOp op t x y u) {d : TypeDesc} {i : Nat} (hu : P.underlying t = some d)
    (hd : (match d with | .pointer _ => some 0 | .slice _ => some 1 | .func .. => some 2 | _ => none) = some i) {neg : Bool} (hop : op = if neg then .neq else .eql) {φ : Prop} {v : Value}
    (hp : pv e (.en i neg (cX x) (cX y)) = some (φ, v)) : Runs P a o v := by
  intro w
  simp only [pv] at hp
  split at hp
  · rename_i p q hx hy
    split at hp
    · rename_i r hr; cases hp
      have h1 := equal_nil (w := w) hu hd hr
      have h2 := eqNil_binOp hr t
      subst hop
      cases neg <;> simp [execOp, ho, ok.eval hx, ok.eval hy, eqNil_guard hr, h2, h1]
    · cases hp
  · cases hp
theorem Ok.runs_sb (ok : Ok N a e) {o : Oper} {op : BinOp} {t u : TypeId} {x y : Operand} (ho : o.op = .binOp op t x y u) (hu : P.underlying t = some .string) {φ : Prop} {v : Value}
    (hp : pv e (.sb op (cX x) (cX y)) = some (φ, v)) : Runs P a o v := by
  intro w
  simp only [pv] at hp
  split at hp
  · rename_i p q hx hy; cases hp
    simp [execOp, ho, ok.eval hx, ok.eval hy, eqGuard_at_string, binOp, Op.stringOp]
  · rename_i p q hx hy; cases hp
    simp [execOp, ho, ok.eval hx, ok.eval hy, eqGuard_at_string, binOp, Op.stringOp]
  · cases hp
theorem Ok.runs_nt (ok : Ok N a e) {o : Oper} {t : TypeId} {x : Operand} (ho : o.op = .unOp .not t x) {φ : Prop} {v : Value} (hp : pv e (.nt (cX x)) = some (φ, v)) : Runs P a o v := by
  intro w
  simp only [pv] at hp
  split at hp
  · rename_i p hx; cases hp; simp [execOp, ho, ok.eval hx, Op.unary]
  · cases hp
theorem Ok.runs_ng (ok : Ok N a e) {o : Oper} {t : TypeId} {x : Operand} (ho : o.op = .unOp .neg t x) {φ : Prop} {v : Value} (hp : pv e (.ng (cX x)) = some (φ, v)) : Runs P a o v := by
  intro w
  simp only [pv] at hp
  split at hp
  · rename_i k p hx; cases hp; simp [execOp, ho, ok.eval hx, Op.unary, Op.intArith]
  · cases hp
theorem Ok.runs_cv (ok : Ok N a e) {o : Oper} {src dst : TypeId} {x : Operand} (ho : o.op = .convert src dst x) {k : IntKind} (hs : ∃ d, P.underlying src = some d) (hd : P.underlying dst = some (.int k)) {φ : Prop} {v : Value} (hp : pv e (.cv k (cX x)) = some (φ, v)) : Runs P a o v := by
  intro w
  obtain ⟨d, hs⟩ := hs
  simp only [pv] at hp
  split at hp
  · rename_i k' p hx; cases hp; simp [execOp, ho, ok.eval hx, convert, run_underlying hs, run_underlying hd, Conv.intToInt]
  · cases hp
theorem Ok.runs_nc (ok : Ok N a e) {o : Oper} {x : Operand} (ho : o.op = .nilCheck x) {φ : Prop} {v : Value} (hp : pv e (.nc (cX x)) = some (φ, v)) : Runs P a o v := by
  intro w
  simp only [pv] at hp
  split at hp
  · rename_i p hx; cases hp; simp [execOp, ho, ok.eval hx]
  · rename_i p b c hx; cases hp; simp [execOp, ho, ok.eval hx]
  · cases hp
theorem partPlace {b o n : Nat} : (⟨b, o, none⟩ : Addr).add n = ⟨b, o + n, none⟩ := Addr.add_lit b o n
theorem Ok.runs_fa (ok : Ok N a e) {o : Oper} {t : TypeId} {x : Operand} {i : Nat} (ho : o.op = .fieldAddr t x i) {fs : Array Field} {f : Field} {n : Nat} (hu : P.underlying t = some (.struct fs)) (hf : fs[i]? = some f)
    (hs : szT P f.type = some n) (hn : 0 < n) {φ : Prop} {v : Value} (hp : pv e (.fa (cX x) f.offset) = some (φ, v)) : Runs P a o v := by
  intro w
  simp only [pv] at hp
  split at hp
  · rename_i b off hx; cases hp
    have hn' : n ≠ 0 := by omega
    simp [execOp, ho, ok.eval hx, Instr.fieldAt, run_underlying hu, hf, Instr.sureAddr, fieldPlace, szT_eq hs, hn', partPlace]
  · cases hp
theorem part_eq {t : TypeId} {cs : Array Value} {off n : Nat} {g : Bool} {v : Value} (hs : szT P t = some n) (hg : isAggT P t = some g)
    (h : (bif g then some (.agg ((cs.toList.drop off).take n).toArray) else cs.toList[off]?) = some v) (w : World) : (part t cs off).run P w = .ok v w := by
  unfold part
  cases g
  · simp only [cond_false] at h
    have h' : cs[off]? = some v := by simpa using h
    simp [isAggT_eq hg, h']
  · simp only [cond_true, Option.some.injEq] at h
    subst h
    simp only [Sem.run_bind, isAggT_eq hg, Result.andThen_ok, if_true, szT_eq hs, Sem.run_pure]
    congr 2
    apply Array.ext'
    simp [Array.toList_extract, List.take_drop, Nat.add_comm]
theorem Ok.runs_fv (ok : Ok N a e) {o : Oper} {t : TypeId} {x : Operand} {i : Nat} (ho : o.op = .field t x i) {fs : Array Field} {f : Field} {n : Nat} {g : Bool} (hu : P.underlying t = some (.struct fs)) (hf : fs[i]? = some f)
    (hs : szT P f.type = some n) (hg : isAggT P f.type = some g) {φ : Prop} {v : Value} (hp : pv e (.fv (cX x) f.offset n g) = some (φ, v)) : Runs P a o v := by
  intro w
  simp only [pv] at hp
  split at hp
  · rename_i cs hx
    have key : (bif g then some (Value.agg ((cs.toList.drop f.offset).take n).toArray) else cs.toList[f.offset]?) = some v := by
      cases g
      · simp only [cond_false] at hp ⊢
        split at hp
        · rename_i u hu; cases hp; exact hu
        · cases hp
      · simp only [cond_true] at hp ⊢; cases hp; rfl
    simp [execOp, ho, ok.eval hx, Instr.field, run_underlying hu, hf, asAgg, part_eq hs hg key]
  · cases hp
theorem Ok.runs_ia (ok : Ok N a e) {o : Oper} {t E : TypeId} {x i : Operand} {n : Nat} (ho : o.op = .indexAddr t x i) (hu : P.underlying t = some (.slice E)) (hs : szT P E = some n) {φ : Prop} {v : Value}
    (hp : pv e (.ia (cX x) (cX i) n) = some (φ, v)) (hφ : φ) : Runs P a o v := by
  intro w
  simp only [pv] at hp
  split at hp
  · rename_i b off len cap m hx hi; cases hp
    obtain ⟨k, hi⟩ := ok.intX hi
    simp [execOp, ho, ok.eval hx, hi, Instr.indexAt, asIntOf, run_underlying hu, hφ, szT_eq hs, partPlace]
  · cases hp
theorem Ok.runs_iaa (ok : Ok N a e) {o : Oper} {t E : TypeId} {x i : Operand} {len n : Nat} (ho : o.op = .indexAddr t x i) (hu : P.underlying t = some (.array len E)) (hs : szT P E = some n) {φ : Prop} {v : Value}
    (hp : pv e (.iaa (cX x) (cX i) len n) = some (φ, v)) (hφ : φ) : Runs P a o v := by
  intro w
  simp only [pv] at hp
  split at hp
  · rename_i b off m hx hi; cases hp
    obtain ⟨k, hi⟩ := ok.intX hi
    simp [execOp, ho, ok.eval hx, hi, Instr.indexAt, asIntOf, run_underlying hu, hφ, szT_eq hs, partPlace, Instr.sureAddr]
  · cases hp
theorem Ok.runs_iv (ok : Ok N a e) {o : Oper} {t E : TypeId} {x i : Operand} {len n : Nat} {g : Bool} (ho : o.op = .index t x i) (hu : P.underlying t = some (.array len E)) (hs : szT P E = some n) (hg : isAggT P E = some g) {φ : Prop} {v : Value}
    (hp : pv e (.iv (cX x) (cX i) len n g) = some (φ, v)) (hφ : φ) : Runs P a o v := by
  intro w
  simp only [pv] at hp
  split at hp
  · rename_i cs m hx hi
    obtain ⟨k, hi⟩ := ok.intX hi
    have key : (bif g then some (Value.agg ((cs.toList.drop (m.toNat * n)).take n).toArray) else cs.toList[m.toNat * n]?) = some v ∧ 0 ≤ m ∧ m < len := by
      cases g
      · simp only [cond_false] at hp ⊢
        split at hp
        · rename_i u hu; cases hp; exact ⟨hu, hφ⟩
        · cases hp
      · simp only [cond_true] at hp ⊢; cases hp; exact ⟨rfl, hφ⟩
    simp [execOp, ho, ok.eval hx, hi, Instr.index, asIntOf, run_underlying hu, key.2, szT_eq hs, part_eq hs hg key.1]
  · cases hp
theorem Ok.runs_ex (ok : Ok N a e) {o : Oper} {x : Operand} {i : Nat} (ho : o.op = .extract x i) {φ : Prop} {v : Value} (hp : pv e (.ex (cX x) i) = some (φ, v)) : Runs P a o v := by
  intro w
  simp only [pv] at hp
  split at hp
  · rename_i vs hx
    split at hp
    · rename_i u hu; cases hp
      have hu' : vs[i]? = some v := by simpa using hu
      simp [execOp, ho, ok.eval hx, Instr.extract, hu']
    · cases hp
  · cases hp
theorem Ok.runs_mf (ok : Ok N a e) {o : Oper} {fn : Fn} {x y : Array Operand} (ho : o.op = .makeFunc fn x y) {φ : Prop} {v : Value} (hp : pv e (.mf fn (x.toList.map cX) (y.toList.map cX)) = some (φ, v)) : Runs P a o v := by
  intro w
  simp only [pv] at hp
  split at hp
  · rename_i p q hx hy; cases hp
    have h1 := ok.evals hx
    have h2 := ok.evals hy
    have h1' : x.map a.eval = p.toArray := by apply Array.ext'; simpa using h1
    have h2' : y.map a.eval = q.toArray := by apply Array.ext'; simpa using h2
    simp [execOp, ho, Instr.makeFunc, h1', h2']
  · cases hp
theorem elem_slice {t E : TypeId} (hu : P.underlying t = some (.slice E)) : P.underlying t = some (.slice (P.elem t)) ∧ P.elem t = E := by
  have : P.elem t = E := by simp [Program.elem, hu]
  exact ⟨by rw [this]; exact hu, this⟩
theorem sliced_some (b o l h m s : Nat) : sliced (some ⟨b, o, none⟩) l h m s = .slice (some ⟨b, o + skp m l s, none⟩) (h - l) (m - l) := by
  unfold sliced skp
  by_cases e : m = l
  · simp [e]
  · simp [e, partPlace]
theorem sliced_none (l h m s : Nat) : sliced none l h m s = .slice none (h - l) (m - l) := by
  unfold sliced; split <;> rfl
theorem sliced_zero (a : Option Addr) (h m s : Nat) : sliced a 0 h m s = .slice a h m := by
  unfold sliced
  cases a <;> simp [Addr.add_zero']
theorem Ok.runs_sl (ok : Ok N a e) {o : Oper} {t E : TypeId} {x : Operand} {lo hi mx : Option Operand} {n : Nat} (ho : o.op = .slice t x lo hi mx) (hu : P.underlying t = some (.slice E)) (hs : szT P E = some n) {φ : Prop} {v : Value}
    (hp : pv e (.sl n (cX x) (lo.map cX) (hi.map cX) (mx.map cX)) = some (φ, v)) (hφ : φ) : Runs P a o v := by
  intro w
  obtain ⟨hu', he⟩ := elem_slice hu
  have hsz : ∀ w, (sizeOf (P.elem t)).run P w = .ok n w := by rw [he]; exact szT_eq hs
  simp only [pv] at hp
  split at hp
  · rename_i b len cap hx hm
    have hmx : mx = none := by cases mx <;> simp_all
    subst hmx
    split at hp
    · rename_i hl hh
      have hlo : lo = none := by cases lo <;> simp_all
      have hhi : hi = none := by cases hi <;> simp_all
      subst hlo; subst hhi
      cases hp
      simp [execOp, ho, ok.eval hx, run_sliceAt_slice w t _ _ _ _ hu', run_slice_all w t _ _ _ hu', hsz, sliced_zero]
    · rename_i q hl hh
      have hlo : lo = none := by cases lo <;> simp_all
      subst hlo
      cases hi with
      | none => simp at hh
      | some hi =>
        simp only [Option.map_some, Option.some.injEq] at hh
        subst hh
        split at hp
        · rename_i m hm; cases hp
          obtain ⟨k, hm⟩ := ok.intX hm
          simp [execOp, ho, ok.eval hx, hm, run_sliceAt_slice w t _ _ _ _ hu', run_slice_h w t _ _ _ hu' k m hφ.1 hφ.2, hsz, sliced_zero]
        · cases hp
    · rename_i q hl hh
      have hhi : hi = none := by cases hi <;> simp_all
      subst hhi
      cases lo with
      | none => simp at hl
      | some lo =>
        simp only [Option.map_some, Option.some.injEq] at hl
        subst hl
        split at hp
        · rename_i l b off hl; cases hp
          obtain ⟨k, hl⟩ := ok.intX hl
          simp [execOp, ho, ok.eval hx, hl, run_sliceAt_slice w t _ _ _ _ hu', run_slice_l w t _ _ _ hu' k l hφ.1 hφ.2, hsz, sliced_some]
        · rename_i l hl; cases hp
          obtain ⟨k, hl⟩ := ok.intX hl
          subst hφ
          simp [execOp, ho, ok.eval hx, hl, run_sliceAt_slice w t _ _ _ _ hu', run_slice_l w t none len cap hu' k 0 (by omega) (by omega), hsz, sliced_none]
        · cases hp
    · rename_i q r hl hh
      cases lo with
      | none => simp at hl
      | some lo =>
        cases hi with
        | none => simp at hh
        | some hi =>
          simp only [Option.map_some, Option.some.injEq] at hl hh
          subst hl; subst hh
          split at hp
          · rename_i l h b off hl hh; cases hp
            obtain ⟨k, hl⟩ := ok.intX hl
            obtain ⟨k', hh⟩ := ok.intX hh
            simp [execOp, ho, ok.eval hx, hl, hh, run_sliceAt_slice w t _ _ _ _ hu', run_slice_lh w t _ _ _ hu' k k' l h hφ.1 hφ.2.1 hφ.2.2, hsz, sliced_some]
          · rename_i l h hl hh; cases hp
            obtain ⟨k, hl⟩ := ok.intX hl
            obtain ⟨k', hh⟩ := ok.intX hh
            obtain ⟨rfl, hφ⟩ := hφ
            simp [execOp, ho, ok.eval hx, hl, hh, run_sliceAt_slice w t _ _ _ _ hu', run_slice_lh w t none len cap hu' k k' 0 h (by omega) hφ.1 hφ.2, hsz, sliced_none]
          · cases hp
  · cases hp
theorem Ok.runs_sa (ok : Ok N a e) {o : Oper} {t E : TypeId} {x : Operand} {lo hi mx : Option Operand} {len n : Nat} (ho : o.op = .slice t x lo hi mx) (hu : P.underlying t = some (.array len E)) (hs : szT P E = some n) {φ : Prop} {v : Value}
    (hp : pv e (.sa len n (cX x) (lo.map cX) (hi.map cX) (mx.map cX)) = some (φ, v)) (hφ : φ) : Runs P a o v := by
  intro w
  simp only [pv] at hp
  split at hp
  · rename_i b off hx hl hh hm
    have hlo : lo = none := by cases lo <;> simp_all
    have hhi : hi = none := by cases hi <;> simp_all
    have hmx : mx = none := by cases mx <;> simp_all
    subst hlo; subst hhi; subst hmx
    cases hp
    simp [execOp, ho, ok.eval hx, Instr.sliceAt, run_underlying hu, Instr.sureAddr, Instr.sliceBounds, szT_eq hs, Addr.add_zero']
  · cases hp
theorem Ok.runs_len (ok : Ok N a e) {o : Oper} {t : TypeId} {x : Operand} {E : TypeId} (ho : o.op = .call ⟨.builtin .len, #[x], #[t]⟩) (hu : P.underlying t = some (.slice E)) {φ : Prop} {v : Value} (hp : pv e (.len (cX x)) = some (φ, v)) : Runs P a o v := by
  intro w
  simp only [pv] at hp
  split at hp
  · rename_i b n c hx; cases hp
    simp [execOp, ho, resolve, invoke, builtin, ok.eval hx, Builtin.len_, run_underlying hu, goInt]
  · cases hp
theorem Ok.runs_lens (ok : Ok N a e) {o : Oper} {t : TypeId} {x : Operand} (ho : o.op = .call ⟨.builtin .len, #[x], #[t]⟩) (hu : P.underlying t = some .string) {φ : Prop} {v : Value} (hp : pv e (.lens (cX x)) = some (φ, v)) : Runs P a o v := by
  intro w
  simp only [pv] at hp
  split at hp
  · rename_i b hx; cases hp
    simp [execOp, ho, resolve, invoke, builtin, ok.eval hx, Builtin.len_, run_underlying hu, goInt]
  · cases hp
theorem Ok.runs_lena {o : Oper} {t : TypeId} {x : Operand} {n : Nat} {E : TypeId} (ho : o.op = .call ⟨.builtin .len, #[x], #[t]⟩) (hu : P.underlying t = some (.array n E)) {φ : Prop} {v : Value} (hp : pv e (.mv (.c (.int .i64 n))) = some (φ, v)) : Runs P a o v := by
  intro w
  simp only [pv, X.get] at hp
  cases hp
  simp [execOp, ho, resolve, invoke, builtin, Builtin.len_, run_underlying hu, goInt]
theorem Ok.runs_cap (ok : Ok N a e) {o : Oper} {t : TypeId} {x : Operand} {E : TypeId} (ho : o.op = .call ⟨.builtin .cap, #[x], #[t]⟩) (hu : P.underlying t = some (.slice E)) {φ : Prop} {v : Value} (hp : pv e (.cap (cX x)) = some (φ, v)) : Runs P a o v := by
  intro w
  simp only [pv] at hp
  split at hp
  · rename_i b n c hx; cases hp
    simp [execOp, ho, resolve, invoke, builtin, ok.eval hx, Builtin.cap_, run_underlying hu, goInt]
  · cases hp
theorem Ok.runs_mm (ok : Ok N a e) {o : Oper} {ts : Array TypeId} {x y : Operand} {big : Bool} (ho : o.op = .call ⟨.builtin (if big then .max else .min), #[x, y], ts⟩) {φ : Prop} {v : Value} (hp : pv e (.mm big (cX x) (cX y)) = some (φ, v)) : Runs P a o v := by
  intro w
  simp only [pv] at hp
  split at hp
  · rename_i k p k' q hx hy; cases hp
    cases big
    · simp only [Bool.false_eq_true, if_false] at ho
      simp [execOp, ho, resolve, invoke, builtin, ok.eval hx, ok.eval hy, Builtin.min_, Builtin.min2]
    · simp only [if_true] at ho
      simp [execOp, ho, resolve, invoke, builtin, ok.eval hx, ok.eval hy, Builtin.max_, Builtin.max2]
  · cases hp
theorem lay_nil (cs : List Value) (off : Nat) : lay cs off [] = cs := by simp [lay]
theorem lay_cons (cs : List Value) (off : Nat) (v : Value) (vs : List Value) (h : off + (vs.length + 1) ≤ cs.length) : lay (cs.set off v) (off + 1) vs = lay cs off (v :: vs) := by
  unfold lay
  have h2 := list_seg_step cs off v vs h
  simp only [List.length_cons]
  rw [← h2]
theorem length_lay (cs : List Value) (off : Nat) (vs : List Value) (h : off + vs.length ≤ cs.length) : (lay cs off vs).length = cs.length := by
  simp [lay]; omega
theorem fold_lay (off : Nat) : ∀ (vs : List Value) (j : Nat) (cs : List Value), off + j + vs.length ≤ cs.length →
    (vs.zipIdx j).foldl (fun (cs : Array Value) (p : Value × Nat) => cs.setIfInBounds (off + p.2) p.1) cs.toArray = (lay cs (off + j) vs).toArray
  | [], j, cs, _ => by simp [lay_nil]
  | v :: vs, j, cs, h => by
    simp only [List.length_cons] at h
    simp only [List.zipIdx_cons, List.foldl_cons, List.setIfInBounds_toArray]
    rw [fold_lay off vs (j + 1) (cs.set (off + j) v) (by simp; omega)]
    rw [← Nat.add_assoc, lay_cons _ _ _ _ (by omega)]
theorem fill_eq {place : Nat → Option (Nat × Nat)} (ok : Ok N a e) : ∀ {ps : List (Nat × Operand)} {qs : List (Nat × Nat × X)} {cs ds : List Value},
    ps.mapM (fun p => match place p.1 with | some q => some (q.1, q.2, cX p.2) | none => none) = some qs → fills e cs qs = some ds →
    Instr.fill place cs.toArray (ps.map fun p => (p.1, a.eval p.2)) = some ds.toArray
  | [], qs, cs, ds, h, hf => by
    simp at h; subst h
    simp only [fills] at hf; cases hf
    simp [Instr.fill]
  | p :: ps, qs, cs, ds, h, hf => by
    simp only [List.mapM_cons, Option.bind_eq_bind] at h
    cases hp : place p.1 with
    | none => simp [hp] at h
    | some q =>
      simp only [hp, Option.bind_some] at h
      cases hm : ps.mapM (fun p => match place p.1 with | some q => some (q.1, q.2, cX p.2) | none => none) with
      | none => rw [hm] at h; simp at h
      | some rs =>
        rw [hm] at h; simp only [Option.bind_some, Option.pure_def, Option.some.injEq] at h
        subst h
        simp only [fills] at hf
        split at hf
        · rename_i v hv
          split at hf
          · rename_i vs hvs
            by_cases hc : (Nat.beq vs.length q.2 && Nat.ble (q.1 + q.2) cs.length) = true
            · rw [hc, cond_true] at hf
              simp only [Bool.and_eq_true, Nat.beq_eq, Nat.ble_eq] at hc
              have e1 := ok.eval hv
              have e2 := cellsOf_eq hvs
              have e3 : (a.eval p.2).cells = vs.toArray := by rw [e1]; apply Array.ext'; simpa using e2
              have hl : q.1 + 0 + vs.length ≤ cs.length := by omega
              have e4 := fold_lay q.1 vs 0 cs hl
              simp only [List.map_cons, Instr.fill, hp, e3]
              rw [if_neg (by simp; omega)]
              simp only [Nat.add_zero] at e4
              rw [← Array.foldl_toList, Array.toList_zipIdx]
              rw [show (List.foldl (fun cs x => cs.setIfInBounds (q.1 + x.2) x.1) cs.toArray (vs.toArray.toList.zipIdx)) = (lay cs q.1 vs).toArray from e4]
              exact fill_eq ok hm hf
            · simp only [hc, cond_false] at hf; cases hf
          · cases hf
        · cases hf
theorem places_run : ∀ {fs : List Field} {pl : List (Nat × Nat)}, placesS P fs = some pl → ∀ w, (fs.mapM fun f => (do pure (f.offset, ← sizeOf f.type) : Sem (Nat × Nat))).run P w = .ok pl w
  | [], pl, h, w => by simp [placesS] at h; subst h; simp
  | f :: fs, pl, h, w => by
    simp only [placesS] at h
    split at h
    · rename_i n hn
      split at h
      · rename_i r hr; cases h
        simp only [List.mapM_cons, Sem.run_bind, szT_eq hn, Result.andThen_ok, Sem.run_pure, places_run hr]
      · cases h
    · cases h
theorem Ok.runs_bd (ok : Ok N a e) {o : Oper} {t : TypeId} {ps : Array (Nat × Operand)} {fs : Array Field} {z : List Value} {pl : List (Nat × Nat)} {l : List (Nat × Nat × X)} (ho : o.op = .build t ps)
    (hu : P.underlying t = some (.struct fs)) (hz : zeroT P t = some z) (hpl : placesS P fs.toList = some pl) (hl : partsS (fun i => pl[i]?) ps.toList = some l) {φ : Prop} {v : Value} (hp : pv e (.bd z l) = some (φ, v)) : Runs P a o v := by
  intro w
  simp only [pv] at hp
  split at hp
  · rename_i cs hc; cases hp
    obtain ⟨i, u, hi, hzu, rfl⟩ := zeroT_eq hz
    have hf := fill_eq ok (place := fun i => pl[i]?) hl hc
    have hpr := places_run hpl w
    have e1 : (ps.map fun p => (p.1, a.eval p.2)).toList = ps.toList.map fun p => (p.1, a.eval p.2) := by simp
    simp only [execOp, ho, Instr.build, Sem.run_bind, zeroValue_eq hi hzu, Result.andThen_ok, run_underlying hu, Array.mapM_eq_mapM_toList, Sem.run_map, hpr, e1]
    have hf' : Instr.fill (fun x => pl.toArray[x]?) u.cells (ps.toList.map fun p => (p.1, a.eval p.2)) = some cs.toArray := by simpa using hf
    simp only [Sem.run_pure, Result.andThen_ok, hf']
  · cases hp
theorem Ok.runs_bda (ok : Ok N a e) {o : Oper} {t E : TypeId} {len n : Nat} {ps : Array (Nat × Operand)} {z : List Value} {l : List (Nat × Nat × X)} (ho : o.op = .build t ps)
    (hu : P.underlying t = some (.array len E)) (hz : zeroT P t = some z) (hs : szT P E = some n) (hl : partsS (fun i => some (i * n, n)) ps.toList = some l) {φ : Prop} {v : Value} (hp : pv e (.bd z l) = some (φ, v)) : Runs P a o v := by
  intro w
  simp only [pv] at hp
  split at hp
  · rename_i cs hc; cases hp
    obtain ⟨i, u, hi, hzu, rfl⟩ := zeroT_eq hz
    have hf := fill_eq ok (place := fun i => some (i * n, n)) hl hc
    have e1 : (ps.map fun p => (p.1, a.eval p.2)).toList = ps.toList.map fun p => (p.1, a.eval p.2) := by simp
    simp only [execOp, ho, Instr.build, Sem.run_bind, zeroValue_eq hi hzu, Result.andThen_ok, run_underlying hu, szT_eq hs, e1]
    have hf' : Instr.fill (fun i => some (i * n, n)) u.cells (ps.toList.map fun p => (p.1, a.eval p.2)) = some cs.toArray := by simpa using hf
    simp [hf']
  · cases hp

/-- The forms of a call of a built-in function. -/
theorem call_eq (c : Call) {b : Callee} {x : List Operand} {t : List TypeId} (h1 : c.callee = b) (h2 : c.args.toList = x) (h3 : c.argTypes.toList = t) : c = ⟨b, x.toArray, t.toArray⟩ := by
  cases c; subst h1; subst h2; subst h3; rfl
/-- ALL OF THEM AT ONCE. -/
theorem Ok.runs (ok : Ok N a e) {o : Oper} {s : S} (hs : cS P o = some s) {φ : Prop} {v : Value} (hp : pv e s = some (φ, v)) (hφ : φ) : Runs P a o v := by
  unfold cS at hs
  split at hs
  case h_1 => rename_i ho; cases hs; exact ok.runs_mv (.inl ho) hp
  case h_2 => rename_i ho; cases hs; exact ok.runs_mv (.inr ho) hp
  case h_3 => rename_i ho; cases hs; exact ok.runs_pk ho hp
  case h_4 => split at hs <;> cases hs; simp [pv] at hp
  case h_5 => cases hs; simp [pv] at hp
  case h_6 =>
    rename_i t ps ho
    split at hs
    · rename_i fs hu
      split at hs
      · rename_i z pl hz hpl
        split at hs
        · rename_i l hl; cases hs; exact ok.runs_bd ho hu hz hpl hl hp
        · cases hs
      · cases hs
    · rename_i len E hu
      split at hs
      · rename_i z n hz hn
        split at hs
        · rename_i l hl; cases hs; exact ok.runs_bda ho hu hz hn hl hp
        · cases hs
      · cases hs
    · cases hs
  case h_7 =>
    split at hs
    · split at hs
      · split at hs
        · split at hs
          · cases hs; simp [pv] at hp
          · cases hs
        · cases hs
      · cases hs
    · cases hs
  case h_8 => split at hs <;> cases hs; simp [pv] at hp
  case h_9 => split at hs <;> cases hs; simp [pv] at hp
  case h_10 => rename_i ho; cases hs; exact ok.runs_nc ho hp
  case h_11 =>
    rename_i op t x y u ho
    split at hs
    · cases hs; exact ok.runs_ib ho hp hφ
    · rename_i hu; split at hs <;> cases hs
      · exact ok.runs_bb ho hu rfl hp
      · exact ok.runs_bb ho hu rfl hp
    · rename_i hu; split at hs <;> cases hs
      · exact ok.runs_en ho hu rfl rfl hp
      · exact ok.runs_en ho hu rfl rfl hp
    · rename_i hu; split at hs <;> cases hs
      · exact ok.runs_en ho hu rfl rfl hp
      · exact ok.runs_en ho hu rfl rfl hp
    · rename_i hu; split at hs <;> cases hs
      · exact ok.runs_en ho hu rfl rfl hp
      · exact ok.runs_en ho hu rfl rfl hp
    · rename_i hu; split at hs <;> cases hs
      · exact ok.runs_sb ho hu hp
      · exact ok.runs_sb ho hu hp
    · cases hs
  case h_12 => rename_i ho; cases hs; exact ok.runs_nt ho hp
  case h_13 => rename_i ho; split at hs <;> cases hs; exact ok.runs_ng ho hp
  case h_14 => rename_i ho; split at hs <;> cases hs; rename_i d hs hd; exact ok.runs_cv ho ⟨_, hs⟩ hd hp
  case h_15 => rename_i ho; cases hs; exact ok.runs_mf ho hp
  case h_16 =>
    split at hs
    · split at hs
      · split at hs
        · split at hs
          · cases hs; simp [pv] at hp
          · cases hs
        · cases hs
      · cases hs
    · cases hs
  case h_17 =>
    rename_i ho
    split at hs
    · rename_i hu; split at hs <;> cases hs; rename_i hn; exact ok.runs_sl ho hu hn hp hφ
    · rename_i hu; split at hs <;> cases hs; rename_i hn; exact ok.runs_sa ho hu hn hp hφ
    · cases hs; simp [pv] at hp
    · cases hs
  case h_18 =>
    rename_i ho
    split at hs
    · rename_i hu
      split at hs
      · rename_i f hf
        split at hs
        · rename_i n hn
          split at hs
          · rename_i h0; cases hs; exact ok.runs_fa ho hu hf hn h0 hp
          · cases hs
        · cases hs
      · cases hs
    · cases hs
  case h_19 =>
    rename_i ho
    split at hs
    · rename_i hu
      split at hs
      · rename_i f hf
        split at hs
        · rename_i hn hg; cases hs; exact ok.runs_fv ho hu hf hn hg hp
        · cases hs
      · cases hs
    · cases hs
  case h_20 =>
    rename_i ho
    split at hs
    · rename_i hu; split at hs <;> cases hs; rename_i hn; exact ok.runs_ia ho hu hn hp hφ
    · rename_i hu; split at hs <;> cases hs; rename_i hn; exact ok.runs_iaa ho hu hn hp hφ
    · cases hs
  case h_21 =>
    rename_i ho
    split at hs
    · rename_i hu; split at hs <;> cases hs; rename_i hn hg; exact ok.runs_iv ho hu hn hg hp hφ
    · cases hs; simp [pv] at hp
    · cases hs
  case h_22 => rename_i ho; cases hs; exact ok.runs_ex ho hp
  case h_23 =>
    rename_i c ho
    unfold cCall at hs
    split at hs
    · split at hs <;> cases hs; simp [pv] at hp
    · cases hs; simp [pv] at hp
    · rename_i hb
      split at hs
      · rename_i hx ht
        rw [call_eq c hb hx ht] at ho
        split at hs <;> cases hs
        · rename_i hu; exact ok.runs_len ho hu hp
        · rename_i hu; exact ok.runs_lens ho hu hp
        · rename_i hu; exact Ok.runs_lena ho hu hp
      · cases hs
    · rename_i hb
      split at hs
      · rename_i hx ht
        rw [call_eq c hb hx ht] at ho
        split at hs <;> cases hs
        rename_i hu; exact ok.runs_cap ho hu hp
      · cases hs
    · rename_i hb
      split at hs <;> cases hs
      rename_i hx
      rw [call_eq c hb hx rfl] at ho
      exact ok.runs_mm (big := true) ho hp
    · rename_i hb
      split at hs <;> cases hs
      rename_i hx
      rw [call_eq c hb hx rfl] at ho
      exact ok.runs_mm (big := false) ho hp
    · split at hs
      · split at hs
        · split at hs
          · split at hs
            · split at hs
              · split at hs
                · cases hs; simp [pv] at hp
                · cases hs
              · cases hs
            · cases hs
          · cases hs
        · cases hs
      · cases hs
    · cases hs
  case h_24 => cases hs
end Go.Proofs.YtnbkjcmmjgkdaaaGreat
