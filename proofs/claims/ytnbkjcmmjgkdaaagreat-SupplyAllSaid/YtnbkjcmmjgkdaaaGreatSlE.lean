/-
  The judgement of code, and that of a function.
-/
import Derived.Test.YtnbkjcmmjgkdaaaGreatSlD
set_option linter.unusedSimpArgs false
set_option linter.unusedVariables false
namespace Go.Proofs.YtnbkjcmmjgkdaaaGreat
open Go

/-- How code comes to its end: to its foot, out of a block, back to the caller. -/
inductive Ex
  | nm
  | ex (id : Nat)
  | rt
def Ex.exit : Ex → Exit
  | .nm => .normal
  | .ex id => .exit id
  | .rt => .ret
abbrev Kx := Ex → En → St → Prop
def Cx (P : Program) (N : Nat) (c : C) (e : En) (K : Kx) (L : St) : Prop :=
  ∀ (code : Code) (Q : Exit → Act → World → Prop) (a : Act) (w0 w : World),
    cC P N code = some c → Ok N a e → Sat w0 w L →
    (∀ x a' w' e' L', K x e' L' → Ok N a' e' → Sat w0 w' L' → Q x.exit a' w') → code.wp P Q a w
def Ksq (P : Program) (N : Nat) (b : C) (K : Kx) : Kx
  | .nm, e, L => Cx P N b e K L
  | .ex i, e, L => K (.ex i) e L
  | .rt, e, L => K .rt e L
def Kbl (id : Nat) (K : Kx) : Kx
  | .nm, e, L => K .nm e L
  | .ex i, e, L => bif Nat.beq i id then K .nm e L else K (.ex i) e L
  | .rt, e, L => K .rt e L
def Krg (K : Kx) : En → St → Prop := fun e L => K .nm e L

section
variable {P : Program} {N : Nat} {e : En} {K : Kx} {L M F : St}
theorem Cx.ent {c : C} (h : Ent L M) (x : Cx P N c e K M) : Cx P N c e K L := fun code Q a w0 w hc ok s k => x code Q a w0 w hc ok (s.ent h) k
theorem Cx.many {c : C} {α : Sort _} {f : α → St} (h : ∀ h, holds L h → ∃ x g, Hp.le g h ∧ holds (f x) g) (x : ∀ y, Cx P N c e K (f y)) : Cx P N c e K L := by
  intro code Q a w0 w hc ok s k
  obtain ⟨hh, H, hw⟩ := s.heap
  obtain ⟨y, g, hg, G⟩ := h hh H
  exact x y code Q a w0 w hc ok ⟨s.os, s.tape, s.output, s.size, g, G, fun i o hi => hw i o (hg i o hi)⟩ k
theorem Cx.pure {c : C} {p : Prop} (h : ∀ h, holds L h → p) (x : p → Cx P N c e K L) : Cx P N c e K L := by
  intro code Q a w0 w hc ok s k
  obtain ⟨hh, H, hw⟩ := s.heap
  exact x (h hh H) code Q a w0 w hc ok s k
/-- What is known of the temporaries may be less. -/
def sub (T e : En) : Prop := ∀ i v, T.get i = some v → e.get i = some v
theorem sub.nil : sub [] e := fun _ _ h => by simp [En.get] at h
theorem sub.cons {T : En} {i : Nat} {v : Value} (h : e.get i = some v) (s : sub T e) : sub ((i, v) :: T) e := by
  intro j u hj
  have hj' : (En.put T (some i) v).get j = some u := hj
  rw [En.get_put] at hj'
  by_cases hij : i = j
  · subst hij; rw [if_pos rfl] at hj'; cases hj'; exact h
  · rw [if_neg hij] at hj'; exact s _ _ hj'
theorem Ok.sub {a : Act} {T : En} (ok : Ok N a e) (s : Proofs.YtnbkjcmmjgkdaaaGreat.sub T e) : Ok N a T := ⟨ok.size, ok.defers, fun i v h => ok.get i v (s i v h)⟩
theorem Cx.less {c : C} {T : En} (s : sub T e) (x : Cx P N c T K L) : Cx P N c e K L := fun code Q a w0 w hc ok st k => x code Q a w0 w hc (ok.sub s) st k

theorem cRg_inv {ops : Array Oper} {draw : Bool} {c : C} (h : cRg P N ops draw = some c) : (draw = false ∧ ∃ l, c = .rg l ∧ cL P N ops ops.toList = some l) ∨
    (draw = true ∧ (P.follows .mixedOrders || !Region.departs ops) = true ∧ ∃ l, c = .rd l ∧ cIts P N ops [] 0 ops.toList = some l ∧ ops.toList.zipIdx.all (fun p => (direct p.1).all fun d => Nat.blt d p.2) = true) := by
  unfold cRg at h
  split at h
  · split at h
    · rename_i l hl; cases h; exact .inl ⟨rfl, l, rfl, hl⟩
    · cases h
  · split at h
    · rename_i l hd ha hl
      cases h; exact .inr ⟨rfl, hd, l, rfl, hl, ha⟩
    · cases h
theorem cC_sk {code : Code} (hc : cC P N code = some .sk) : code = .skip := by
  cases code with
  | skip => rfl
  | region id ops draw => rcases cRg_inv hc with ⟨_, l, h, _⟩ | ⟨_, _, l, h, _⟩ <;> cases h
  | _ => simp only [cC] at hc <;> (try (repeat' split at hc)) <;> cases hc
theorem cC_rt {code : Code} (hc : cC P N code = some .rt) : code = .ret := by
  cases code with
  | ret => rfl
  | region id ops draw => rcases cRg_inv hc with ⟨_, l, h, _⟩ | ⟨_, _, l, h, _⟩ <;> cases h
  | _ => simp only [cC] at hc <;> (try (repeat' split at hc)) <;> cases hc
theorem cC_ex {code : Code} {i : Nat} (hc : cC P N code = some (.ex i)) : code = .exit i := by
  cases code with
  | exit j => simp only [cC] at hc; cases hc; rfl
  | region id ops draw => rcases cRg_inv hc with ⟨_, l, h, _⟩ | ⟨_, _, l, h, _⟩ <;> cases h
  | _ => simp only [cC] at hc <;> (try (repeat' split at hc)) <;> cases hc
theorem cC_sq {code : Code} {c d : C} (hc : cC P N code = some (.sq c d)) : ∃ x y, code = .seq x y ∧ cC P N x = some c ∧ cC P N y = some d := by
  cases code with
  | seq x y =>
    simp only [cC] at hc
    split at hc
    · rename_i c' d' h1 h2; cases hc; exact ⟨x, y, rfl, h1, h2⟩
    · cases hc
  | region id ops draw => rcases cRg_inv hc with ⟨_, l, h, _⟩ | ⟨_, _, l, h, _⟩ <;> cases h
  | _ => simp only [cC] at hc <;> (try (repeat' split at hc)) <;> cases hc
theorem cC_bl {code : Code} {id : Nat} {c : C} (hc : cC P N code = some (.bl id c)) : ∃ x, code = .block id x ∧ cC P N x = some c := by
  cases code with
  | block id' x =>
    simp only [cC] at hc
    split at hc
    · rename_i c' h1; cases hc; exact ⟨x, rfl, h1⟩
    · cases hc
  | region id ops draw => rcases cRg_inv hc with ⟨_, l, h, _⟩ | ⟨_, _, l, h, _⟩ <;> cases h
  | _ => simp only [cC] at hc <;> (try (repeat' split at hc)) <;> cases hc
theorem cC_lp {code : Code} {c : C} (hc : cC P N code = some (.lp c)) : ∃ x, code = .loop x ∧ cC P N x = some c := by
  cases code with
  | loop x =>
    simp only [cC] at hc
    split at hc
    · rename_i c' h1; cases hc; exact ⟨x, rfl, h1⟩
    · cases hc
  | region id ops draw => rcases cRg_inv hc with ⟨_, l, h, _⟩ | ⟨_, _, l, h, _⟩ <;> cases h
  | _ => simp only [cC] at hc <;> (try (repeat' split at hc)) <;> cases hc
theorem cC_cd {code : Code} {x : X} {c d : C} (hc : cC P N code = some (.cd x c d)) : ∃ o p q, code = .cond o p q ∧ cX o = x ∧ cC P N p = some c ∧ cC P N q = some d := by
  cases code with
  | cond o p q =>
    simp only [cC] at hc
    split at hc
    · rename_i c' d' h1 h2; cases hc; exact ⟨o, p, q, rfl, rfl, h1, h2⟩
    · cases hc
  | region id ops draw => rcases cRg_inv hc with ⟨_, l, h, _⟩ | ⟨_, _, l, h, _⟩ <;> cases h
  | _ => simp only [cC] at hc <;> (try (repeat' split at hc)) <;> cases hc
theorem cC_rg {code : Code} {l : List G} (hc : cC P N code = some (.rg l)) : ∃ id ops, code = .region id ops false ∧ cL P N ops ops.toList = some l := by
  cases code with
  | region id ops draw =>
    rcases cRg_inv hc with ⟨rfl, l, h, hl⟩ | ⟨_, _, l, h, _⟩
    · cases h; exact ⟨id, ops, rfl, hl⟩
    · cases h
  | _ => simp only [cC] at hc <;> (try (repeat' split at hc)) <;> cases hc
theorem cC_rd {code : Code} {l : List It} (hc : cC P N code = some (.rd l)) : ∃ id ops, code = .region id ops true ∧ (P.follows .mixedOrders || !Region.departs ops) = true ∧ cIts P N ops [] 0 ops.toList = some l ∧ ops.toList.zipIdx.all (fun p => (direct p.1).all fun d => Nat.blt d p.2) = true := by
  cases code with
  | region id ops draw =>
    rcases cRg_inv hc with ⟨rfl, l, h, hl⟩ | ⟨rfl, hd, l, h, hl, ha⟩
    · cases h
    · cases h; exact ⟨id, ops, rfl, hd, hl, ha⟩
  | _ => simp only [cC] at hc <;> (try (repeat' split at hc)) <;> cases hc

theorem Cx.sk (h : K .nm e L) : Cx P N .sk e K L := by
  intro code Q a w0 w hc ok s k
  rw [cC_sk hc]
  exact wp_skip (k .nm a w e L h ok s)
theorem Cx.rt (h : K .rt e L) : Cx P N .rt e K L := by
  intro code Q a w0 w hc ok s k
  rw [cC_rt hc]
  exact wp_ret (k .rt a w e L h ok s)
theorem Cx.ex {i : Nat} (h : K (.ex i) e L) : Cx P N (.ex i) e K L := by
  intro code Q a w0 w hc ok s k
  rw [cC_ex hc]
  exact wp_exit (k (.ex i) a w e L h ok s)
theorem Cx.rg {l : List G} (h : Sx P N l e (Krg K) L) : Cx P N (.rg l) e K L := by
  intro code Q a w0 w hc ok s k
  obtain ⟨id, ops, rfl, hl⟩ := cC_rg hc
  exact wp_region_list (h ops ops.toList Q a w0 w hl ok s fun a' w' e' L' hk ok' s' => k .nm a' w' e' L' hk ok' s')
theorem Cx.sq {c d : C} (h : Cx P N c e (Ksq P N d K) L) : Cx P N (.sq c d) e K L := by
  intro code Q a w0 w hc ok s k
  obtain ⟨x, y, rfl, hx, hy⟩ := cC_sq hc
  refine wp_seq (h x _ a w0 w hx ok s fun z a' w' e' L' hk ok' s' => ?_)
  cases z with
  | nm => exact hk y Q a' w0 w' hy ok' s' k
  | ex i => exact k (.ex i) a' w' e' L' hk ok' s'
  | rt => exact k .rt a' w' e' L' hk ok' s'
theorem Cx.bl {id : Nat} {c : C} (h : Cx P N c e (Kbl id K) L) : Cx P N (.bl id c) e K L := by
  intro code Q a w0 w hc ok s k
  obtain ⟨x, rfl, hx⟩ := cC_bl hc
  refine wp_block (h x _ a w0 w hx ok s fun z a' w' e' L' hk ok' s' => ?_)
  cases z with
  | nm => exact k .nm a' w' e' L' hk ok' s'
  | ex i =>
    simp only [Kbl] at hk
    cases hi : Nat.beq i id with
    | true =>
      rw [hi, cond_true] at hk
      have := Nat.eq_of_beq_eq_true hi
      simp only [Ex.exit, Exit.inBlock, this, if_true]
      exact k .nm a' w' e' L' hk ok' s'
    | false =>
      rw [hi, cond_false] at hk
      have : i ≠ id := fun h => by subst h; simp at hi
      simp only [Ex.exit, Exit.inBlock, this, if_false]
      exact k (.ex i) a' w' e' L' hk ok' s'
  | rt => exact k .rt a' w' e' L' hk ok' s'
theorem Cx.yes {x : X} {c d : C} (hx : x.get e = some (.bool true)) (h : Cx P N c e K L) : Cx P N (.cd x c d) e K L := by
  intro code Q a w0 w hc ok s k
  obtain ⟨o, p, q, rfl, rfl, hp, hq⟩ := cC_cd hc
  exact wp_cond_true (ok.eval hx) (h p Q a w0 w hp ok s k)
theorem Cx.no {x : X} {c d : C} (hx : x.get e = some (.bool false)) (h : Cx P N d e K L) : Cx P N (.cd x c d) e K L := by
  intro code Q a w0 w hc ok s k
  obtain ⟨o, p, q, rfl, rfl, hp, hq⟩ := cC_cd hc
  exact wp_cond_false (ok.eval hx) (h q Q a w0 w hq ok s k)
theorem Cx.learn {c : C} {t : Nat} {p q : Value} (h : e.get t = some p) (hq : p = q) (x : Cx P N c ((t, q) :: e) K L) : Cx P N c e K L :=
  fun code Q a w0 w hc ok s k => x code Q a w0 w hc (ok.learn h hq) s k
theorem Cx.cd {t : Nat} {b : Bool} {c d : C} (hx : e.get t = some (.bool b)) (h1 : b = true → Cx P N c ((t, .bool true) :: e) K L) (h2 : b = false → Cx P N d ((t, .bool false) :: e) K L) : Cx P N (.cd (.t t) c d) e K L := by
  cases b
  · exact .learn hx rfl (.no (by simp [X.get, En.get]) (h2 rfl))
  · exact .learn hx rfl (.yes (by simp [X.get, En.get]) (h1 rfl))
/-- The end of a round: some state of those of which the loop is proved, of a lesser measure; or a way out. -/
def Klp {α : Type _} (K : Kx) (T : α → En) (S : α → St) (μ : α → Nat) (x : α) : Kx
  | .nm, e, L => ∃ y, sub (T y) e ∧ Ent L (S y) ∧ μ y < μ x
  | .ex i, e, L => K (.ex i) e L
  | .rt, e, L => K .rt e L
theorem Cx.lp {α : Type _} (T : α → En) (S : α → St) (μ : α → Nat) (x : α) {c : C} (hT : sub (T x) e) (hS : Ent L (S x)) (h : ∀ x, Cx P N c (T x) (Klp K T S μ x) (S x)) : Cx P N (.lp c) e K L := by
  intro code Q a w0 w hc ok s k
  obtain ⟨p, rfl, hp⟩ := cC_lp hc
  intro b kk cs
  have main : ∀ (n : Nat) (x : α) (a : Act) (w : World), μ x = n → Ok N a (T x) → Sat w0 w (S x) →
      ∃ en a' w', Q en a' w' ∧ Arrives P (lone (b.at a (.code p :: .inLoop p :: kk)) cs w) b kk cs en a' w' := by
    intro n
    induction n using Nat.strongRecOn with
    | _ n ih =>
      intro x a w hn ok s
      obtain ⟨en, a1, w1, hq, harr⟩ := h x p (Exit.then (fun a' w' => ∃ y, Ok N a' (T y) ∧ Sat w0 w' (S y) ∧ μ y < n) Q) a w0 w hp ok s (fun z a' w' e' L' hk ok' s' => by
        cases z with
        | nm => obtain ⟨y, h1, h2, h3⟩ := hk; exact ⟨y, ok'.sub h1, s'.ent h2, by omega⟩
        | ex i => exact k (.ex i) a' w' e' L' hk ok' s'
        | rt => exact k .rt a' w' e' L' hk ok' s') b (.inLoop p :: kk) cs
      cases en with
      | normal =>
        obtain ⟨y, hok, hs, hlt⟩ := hq
        obtain ⟨e2, a2, w2, hq2, harr2⟩ := ih (μ y) hlt y a1 w1 rfl hok hs
        exact ⟨e2, a2, w2, hq2, .of_steps (Steps.trans harr (.one step_inLoop)) harr2⟩
      | exit id => exact ⟨_, a1, w1, hq, .pass (x := .inLoop p) rfl (fun _ _ => .inl (by simp)) harr⟩
      | goto l => exact ⟨_, a1, w1, hq, .pass (x := .inLoop p) rfl (fun _ _ => .inl (by simp)) harr⟩
      | ret => exact ⟨_, a1, w1, hq, .pass (x := .inLoop p) rfl (fun _ _ => .inl (by simp)) harr⟩
      | panic ch => exact ⟨_, a1, w1, hq, .pass (x := .inLoop p) rfl (fun _ _ => .inl (by simp)) harr⟩
      | outgrown => exact ⟨_, a1, w1, hq, .pass (x := .inLoop p) rfl (fun _ _ => .inl (by simp)) harr⟩
  obtain ⟨en, a', w', hq, harr⟩ := main _ x a w rfl (ok.sub hT) (s.ent hS)
  exact ⟨en, a', w', hq, .of_steps (.one step_loop) harr⟩

/-- What a function's results come to. -/
def Rv (P : Program) (N : Nat) (rs : List RV) (e : En) (L : St) (v : Value) : Prop :=
  ∀ (fn : Func) (a : Act) (w0 w : World), cRs P fn.results.toList = some rs → Ok N a e → Sat w0 w L → (results fn a.tmps).run P w = .ok v w
/-- The end of a function's body. -/
def Kr (P : Program) (N : Nat) (rs : List RV) (R : Value → St → Prop) : Kx := fun x e L => (x = .nm ∨ x = .rt) ∧ ∃ v L', Rv P N rs e L v ∧ Ent L L' ∧ R v L'
/-- A function, called with these arguments where the memory holds this, returns, and of what it returns and of the memory behind it R holds. -/
def Fx (P : Program) (f : FuncId) (vs : List Value) (L : St) (R : Value → St → Prop) : Prop :=
  ∀ w0 w, Sat w0 w L → Calls P f vs.toArray w fun x w' => ∃ v L', x = .returned v ∧ R v L' ∧ Sat w0 w' L'
def envOf : Nat → List Value → En
  | _, [] => []
  | i, v :: l => (i, v) :: envOf (i + 1) l
theorem envOf_get : ∀ (vs : List Value) (i j : Nat) (v : Value), (envOf i vs).get j = some v → i ≤ j ∧ vs[j - i]? = some v
  | [], i, j, v, h => by simp [envOf, En.get] at h
  | u :: vs, i, j, v, h => by
    have h' : (En.put (envOf (i + 1) vs) (some i) u).get j = some v := h
    rw [En.get_put] at h'
    by_cases hij : i = j
    · subst hij; rw [if_pos rfl] at h'; cases h'; exact ⟨Nat.le_refl _, by simp⟩
    · rw [if_neg hij] at h'
      obtain ⟨h1, h2⟩ := envOf_get vs (i + 1) j v h'
      refine ⟨by omega, ?_⟩
      rw [show j - i = (j - (i + 1)) + 1 by omega, List.getElem?_cons_succ]
      exact h2
theorem Fx.mk {f : FuncId} {fn : Func} {fu : Fu} {vs : List Value} {R : Value → St → Prop} (hf : P.funcs[f]? = some fn) (hc : cF P fn = some fu) (hl : vs.length ≤ fu.n)
    (h : Cx P fu.n fu.c (envOf 0 vs) (Kr P fu.n fu.rs R) L) : Fx P f vs L R := by
  intro w0 w s
  unfold cF at hc
  split at hc
  · rename_i b hb
    split at hc
    · rename_i c rs hcc hrs; cases hc
      refine calls_of_wp hf hb (h b _ _ w0 w hcc ⟨?_, rfl, ?_⟩ s ?_)
      · simp; simp at hl; omega
      · intro i v hi
        obtain ⟨_, hv⟩ := envOf_get vs 0 i v hi
        simp only [Nat.sub_zero] at hv
        have hlt : i < vs.length := by
          rcases Nat.lt_or_ge i vs.length with h | h
          · exact h
          · rw [List.getElem?_eq_none h] at hv; cases hv
        simp only
        rw [Array.getElem?_append_left (by simpa using hlt)]
        simpa using hv
      · rintro x a' w' e' L' ⟨hx, v, L2, hv, hL, hR⟩ ok' s'
        have hr := hv fn a' w0 w' hrs ok' s'
        rcases hx with rfl | rfl <;> exact ⟨ok'.defers, v, hr, v, L2, rfl, hR, s'.ent hL⟩
    · cases hc
  · cases hc
theorem Fx.ent {f : FuncId} {vs : List Value} {R : Value → St → Prop} (h : Ent L M) (x : Fx P f vs M R) : Fx P f vs L R := fun w0 w s => x w0 w (s.ent h)
theorem Fx.mono {f : FuncId} {vs : List Value} {R R' : Value → St → Prop} (x : Fx P f vs L R) (h : ∀ v L', R v L' → R' v L') : Fx P f vs L R' :=
  fun w0 w s => (x w0 w s).mono fun _ _ ⟨v, L', e, r, s'⟩ => ⟨v, L', e, h v L' r, s'⟩
/-- From a caller's memory: what entails the callee's, and what comes of it. -/
theorem Fx.use {f : FuncId} {vs : List Value} {R : Value → St → Prop} {R' : Value → St → Prop} (x : Fx P f vs M R) (h : Ent L M) (h' : ∀ v L', R v L' → R' v L') : Fx P f vs L R' := (x.ent h).mono h'

theorem cRs_one {rs : List ResultVar} {t : Nat} (h : cRs P rs = some [.t t]) : rs = [.tmp t] := by
  match rs with
  | [] => simp [cRs] at h
  | r :: l =>
    simp only [cRs] at h
    split at h
    · rename_i r' hr
      split at h
      · rename_i l' hl; cases h
        have h1 : l = [] := by
          match l with
          | [] => rfl
          | q :: l => simp only [cRs] at hl; (repeat' split at hl) <;> cases hl
        subst h1
        cases r with
        | tmp t => simp [cR] at hr; rw [hr]
        | cell a t => simp only [cR] at hr; split at hr <;> cases hr
      · cases h
    · cases h
theorem cRs_tmps : ∀ {rs : List ResultVar} {ts : List Nat}, cRs P rs = some (ts.map .t) → rs = ts.map .tmp
  | [], ts, h => by
    cases ts with
    | nil => rfl
    | cons t ts => simp [cRs] at h
  | r :: l, ts, h => by
    simp only [cRs] at h
    split at h
    · rename_i r' hr
      split at h
      · rename_i l' hl
        cases ts with
        | nil => simp at h
        | cons t ts =>
          simp only [List.map_cons, Option.some.injEq, List.cons.injEq] at h
          obtain ⟨rfl, rfl⟩ := h
          rw [cRs_tmps hl]
          cases r with
          | tmp t' => simp [cR] at hr; simp [hr]
          | cell a t' => simp only [cR] at hr; split at hr <;> cases hr
      · cases h
    · cases h
theorem Rv.one {t : Nat} {v : Value} (h : e.get t = some v) : Rv P N [.t t] e L v := by
  intro fn a w0 w hr ok s
  have : fn.results = #[.tmp t] := by apply Array.ext'; simpa using cRs_one hr
  rw [results_tmp this]
  have := ok.get _ _ h
  simp [this]
theorem Rv.none : Rv P N [] e L (.tuple #[]) := by
  intro fn a w0 w hr ok s
  have h0 : fn.results = #[] := by
    apply Array.ext'
    have : cRs P fn.results.toList = some (([] : List Nat).map .t) := hr
    simpa using cRs_tmps this
  exact results_none h0 _ P w
def getAll (e : En) : List Nat → Option (List Value)
  | [] => some []
  | t :: l => match e.get t with
    | some v => match getAll e l with
      | some vs => some (v :: vs)
      | none => none
    | none => none
theorem getAll_eq {a : Act} (ok : Ok N a e) : ∀ {ts : List Nat} {vs : List Value}, getAll e ts = some vs → ts.map (fun t => a.tmps.getD t undef) = vs
  | [], vs, h => by simp [getAll] at h; simp [h]
  | t :: ts, vs, h => by
    simp only [getAll] at h
    split at h
    · rename_i v hv
      split at h
      · rename_i us hu; cases h
        have := ok.get _ _ hv
        have h2 := getAll_eq ok hu
        simp only [List.map_cons, h2]
        simp [this]
      · cases h
    · cases h
theorem run_pures (P : Program) (w : World) (g : Nat → Value) : ∀ (ts : List Nat), (ts.mapM fun t => (Pure.pure (g t) : Sem Value)).run P w = .ok (ts.map g) w
  | [] => rfl
  | t :: ts => by
    simp only [List.map_cons, List.mapM_cons, Sem.run_bind, Sem.run_pure, Result.andThen_ok, run_pures P w g ts]
theorem Rv.more {ts : List Nat} {vs : List Value} (h : getAll e ts = some vs) (h2 : ts.length ≠ 1) : Rv P N (ts.map .t) e L (.tuple vs.toArray) := by
  intro fn a w0 w hr ok s
  have hr' := cRs_tmps hr
  have h3 := getAll_eq ok h
  have hlen : vs.length ≠ 1 := by rw [← h3]; simpa using h2
  unfold results
  rw [Array.mapM_eq_mapM_toList, hr']
  simp only [Sem.run_bind, Sem.run_map, List.mapM_map]
  have key := run_pures P w (fun t => a.tmps.getD t undef) ts
  rw [h3] at key
  refine (congrArg (fun r => Result.andThen (Result.andThen r _) _) key).trans ?_
  simp [hlen]
end
end Go.Proofs.YtnbkjcmmjgkdaaaGreat
