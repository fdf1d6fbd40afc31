/-
  Parts of the proof, merged: what the statement leans on.
-/
import Derived.Test.YtflalhdofhobmaaGreatProg
import Derived.KernelRfl
import Derived.Test.YtflalhdofhobmaaGreatZHgA
set_option linter.unusedVariables false
set_option linter.unusedSimpArgs false

namespace Go.Proofs.YtflalhdofhobmaaGreat
structure Rt where
 gen : Nat
 mrk : Nat
 cl : Nat
 off : Nat
def rtOf (w : Nat) : Rt := ⟨w / 4294967296, w / 65536 % 65536, w / 4096 % 16, w % 4096⟩
def Rt.w (r : Rt) : Nat := r.gen * 4294967296 + r.mrk * 65536 + r.cl * 4096 + r.off
structure Rt.ok (r : Rt) : Prop where
 g : r.gen < 4294967296
 m : r.mrk ≤ 4097
 c : r.cl ≤ 3
 o : r.off ≤ 1024
theorem rtOf_w {r : Rt} (h : r.ok) : rtOf r.w = r := by
 obtain ⟨g, m, c, o⟩ := r
 obtain ⟨h1, h2, h3, h4⟩ := h
 dsimp only at h1 h2 h3 h4
 unfold rtOf Rt.w
 dsimp only
 rw [show (g * 4294967296 + m * 65536 + c * 4096 + o) / 4294967296 = g by omega, show (g * 4294967296 + m * 65536 + c * 4096 + o) / 65536 % 65536 = m by omega,
  show (g * 4294967296 + m * 65536 + c * 4096 + o) / 4096 % 16 = c by omega, show (g * 4294967296 + m * 65536 + c * 4096 + o) % 4096 = o by omega]
theorem Rt.w_lt {r : Rt} (h : r.ok) : r.w < 18446744073709551616 := by
 obtain ⟨h1, h2, h3, h4⟩ := h
 unfold Rt.w; omega
theorem rtOf_gen {w : Nat} (h : w < 18446744073709551616) : (rtOf w).gen < 4294967296 := by show w / 4294967296 < _; omega
theorem rtOf_mrk (w : Nat) : (rtOf w).mrk < 65536 := by show w / 65536 % 65536 < _; omega
theorem rtOf_cl (w : Nat) : (rtOf w).cl < 16 := by show w / 4096 % 16 < _; omega
theorem rtOf_off (w : Nat) : (rtOf w).off < 4096 := by show w % 4096 < _; omega
theorem rt_zero_ok : (rtOf 0).ok := ⟨by decide, by decide, by decide, by decide⟩
def Rt.live (r : Rt) (gen : Int) : Prop := 1 ≤ r.mrk ∧ (r.gen : Int) = gen
instance (r : Rt) (gen : Int) : Decidable (r.live gen) := by unfold Rt.live; infer_instance
def Rt.chunk (r : Rt) : Int := if r.mrk < 2 then -1 else (r.mrk : Int) - 2
def roundS (cl n : Nat) : Nat := (n + 2 ^ cl - 1) / 2 ^ cl * 2 ^ cl
def fitsS (wd off need : Nat) : Prop := 2 * need ≤ wd ∧ off + need ≤ wd
instance (wd off need : Nat) : Decidable (fitsS wd off need) := by unfold fitsS; infer_instance
def afterS (wd need : Nat) : Nat := if wd < 2 * need then wd else need
theorem roundS_cases {cl n : Nat} (h : cl ≤ 3) : (cl = 0 ∧ roundS cl n = n) ∨ (cl = 1 ∧ roundS cl n = (n + 1) / 2 * 2) ∨ (cl = 2 ∧ roundS cl n = (n + 3) / 4 * 4) ∨ (cl = 3 ∧ roundS cl n = (n + 7) / 8 * 8) := by
 rcases (show cl = 0 ∨ cl = 1 ∨ cl = 2 ∨ cl = 3 by omega) with rfl | rfl | rfl | rfl
 ·exact .inl ⟨rfl, by unfold roundS; omega⟩
 ·exact .inr (.inl ⟨rfl, by unfold roundS; omega⟩)
 ·exact .inr (.inr (.inl ⟨rfl, by unfold roundS; omega⟩))
 ·exact .inr (.inr (.inr ⟨rfl, by unfold roundS; omega⟩))
theorem roundS_le {cl n wd : Nat} (h : cl ≤ 3) (hn : n ≤ wd) (hw : wd % 8 = 0) : roundS cl n ≤ wd := by
 rcases roundS_cases (n := n) h with h | h | h | h <;> omega
theorem roundS_ge {cl n : Nat} (h : cl ≤ 3) : n ≤ roundS cl n := by
 rcases roundS_cases (n := n) h with h | h | h | h <;> omega
theorem roundS_lt {cl n : Nat} (h : cl ≤ 3) : roundS cl n < n + 8 := by
 rcases roundS_cases (n := n) h with h | h | h | h <;> omega
theorem afterS_le {wd need : Nat} (h : need ≤ wd) : afterS wd need ≤ wd := by unfold afterS; split <;> omega
structure CreS where
 at_ : Nat
 cnt : Nat
 slot : Int
 point : Nat
 was : Nat
 code : Nat
 q : PopS
 done : Bool
def CreS.init : CreS := ⟨0, 0, -1, 0, 0, 0, PopS.init 1, false⟩
def nextRt (cl w : Nat) : Rt := ⟨laterT (rtOf w).gen, 1, cl, 0⟩
theorem nextRt_ok {cl w : Nat} (h : w < 18446744073709551616) (hc : cl ≤ 3) : (nextRt cl w).ok := ⟨laterT_lt (rtOf_gen h), by show 1 ≤ 4097; omega, hc, by show 0 ≤ 1024; omega⟩
def crPopped (c : CreS) : CreS :=
 match c.q.got with
 | [] => { c with point := c.cnt, code := 7, done := true }
 | s :: _ => { c with point := c.cnt, slot := s, at_ := 1 }
def crStep (k : Sk) (ro cl : Nat) (m : Mm) (c : CreS) : CreS × Mm :=
 if c.done then (c, m) else
 match c.at_ with
 | 0 => if (popStep k m c.q).1.done then (crPopped { c with cnt := c.cnt + 1, q := (popStep k m c.q).1 }, (popStep k m c.q).2) else ({ c with cnt := c.cnt + 1, q := (popStep k m c.q).1 }, (popStep k m c.q).2)
 | 1 => ({ c with cnt := c.cnt + 1, was := m.at_ (ro + c.slot.toNat), at_ := 2 }, m.tick)
 | _ => ({ c with cnt := c.cnt + 1, done := true }, m.put (ro + c.slot.toNat) (nextRt cl c.was).w)
structure CreS.ok (k : Sk) (c : CreS) : Prop where
 a : c.at_ ≤ 2
 q : c.q.ok k
 w : c.was < 18446744073709551616
 s : c.at_ ≠ 0 → 0 ≤ c.slot ∧ c.slot < k.n
 n : c.cnt ≤ 1000000
def crIt (k : Sk) (ro cl : Nat) : Nat → CreS × Mm → CreS × Mm
 | 0, r => r
 | j + 1, r => crStep k ro cl (crIt k ro cl j r).2 (crIt k ro cl j r).1
structure EndS where
 at_ : Nat
 cnt : Nat
 was : Nat
 code : Nat
 chunk : Int
 point : Nat
 done : Bool
def EndS.init : EndS := ⟨0, 0, 0, 0, -1, 0, false⟩
def endStep (a : Nat) (gen : Int) (m : Mm) (e : EndS) : EndS × Mm :=
 if e.done then (e, m) else
 match e.at_ with
 | 0 => (if (rtOf (m.at_ a)).live gen then { e with cnt := e.cnt + 1, was := m.at_ a, at_ := 1 } else { e with cnt := e.cnt + 1, was := m.at_ a, code := 3, point := e.cnt + 1, done := true }, m.tick)
 | _ => (if m.at_ a = e.was then { e with cnt := e.cnt + 1, chunk := (rtOf e.was).chunk, point := e.cnt + 1, done := true } else { e with cnt := e.cnt + 1, at_ := 0 }, m.cas a e.was (Rt.w ⟨(rtOf e.was).gen, 0, 0, 0⟩))
structure Hd where
 slot : Int
 gen : Int
 chunk : Int
 off : Int
 len : Int
def Hd.zero : Hd := ⟨0, 0, 0, 0, 0⟩
structure AlV where
 cnt : Nat
 hand : Int
 zat : Nat
 asked : Bool
 ends : Bool
 need : Nat
 point : Nat
 was : Nat
 code : Nat
 obj : Hd
structure AlS where
 at_ : Nat
 v : AlV
 t : TakeS
 g : PushS
 done : Bool
def AlV.init : AlV := ⟨0, -1, 0, false, false, 0, 0, 0, 0, Hd.zero⟩
end Go.Proofs.YtflalhdofhobmaaGreat


namespace Go.Proofs.YtflalhdofhobmaaGreat
open Go
section
variable {P : Program} {N : Nat} {e : En} {K : Kx} {L M F : St} {β : Type _}
def Kjn (K : Kx) (T : β → En) (S : β → St) : Kx
 | .nm, e, L => ∃ y, sub (T y) e ∧ Ent L (S y)
 | .rt, e, L => K .rt e L
 | .ex i, e, L => K (.ex i) e L
theorem Kjn.nm {T : β → En} {S : β → St} (y : β) (h1 : sub (T y) e) (h2 : Ent L (S y)) : Kjn K T S .nm e L := ⟨y, h1, h2⟩
theorem Kjn.rt {T : β → En} {S : β → St} (h : K .rt e L) : Kjn K T S .rt e L := h
theorem Kjn.ex {T : β → En} {S : β → St} {i : Nat} (h : K (.ex i) e L) : Kjn K T S (.ex i) e L := h
theorem Cx.jn {c d : C} (T : β → En) (S : β → St) (hc : Cx P N c e (Kjn (Ksq P N d K) T S) L) (hd : ∀ y, Cx P N d (T y) K (S y)) : Cx P N c e (Ksq P N d K) L := by
 intro code Q a w0 w hx ok s k
 refine hc code Q a w0 w hx ok s fun z a' w' e' L' hk ok' s' => ?_
 cases z with
 | nm =>
   obtain ⟨y, su, en⟩ := hk
   exact k .nm a' w' (T y) (S y) (hd y) (ok'.sub su) (s'.ent en)
 | rt => exact k .rt a' w' e' L' hk ok' s'
 | ex i => exact k (.ex i) a' w' e' L' hk ok' s'
end
end Go.Proofs.YtflalhdofhobmaaGreat


namespace Go.Proofs.YtflalhdofhobmaaGreat
open Go
def En.only (e : En) : List Nat → En
 | [] => []
 | t :: r => match e.get t with | some v => (t, v) :: En.only e r | none => En.only e r
theorem only_get {e : En} : ∀ {rs : List Nat} {t : Nat} {u : Value}, (e.only rs).get t = some u → t ∈ rs ∧ e.get t = some u
 | [], t, u, h => by simp [En.only, En.get] at h
 | a :: r, t, u, h => by
   unfold En.only at h
   split at h
   ·rename_i v hv
    simp only [En.get] at h
    cases hb : Nat.beq a t with
    | true =>
      rw [hb, cond_true] at h
      have := Nat.eq_of_beq_eq_true hb
      subst this
      cases h
      exact ⟨by simp, hv⟩
    | false =>
      rw [hb, cond_false] at h
      have := only_get h
      exact ⟨by simp [this.1], this.2⟩
   ·have := only_get h
    exact ⟨by simp [this.1], this.2⟩
theorem put_ne {e : En} {d : Option Nat} {v : Value} {t : Nat} (h : d ≠ some t) : (e.put d v).get t = e.get t := by
 cases d with
 | none => rfl
 | some i =>
   have hit : Nat.beq i t = false := by
    cases hb : Nat.beq i t with
    | false => rfl
    | true => exact absurd (by rw [Nat.eq_of_beq_eq_true hb]) h
   simp [En.put, En.get, hit]
theorem put_eq {e : En} {d : Nat} {v : Value} : (e.put (some d) v).get d = some v := by simp [En.put, En.get]
section
variable {P : Program} {N : Nat} {L F : St}
def Sc (P : Program) (N : Nat) (g : G) (e : En) (v : Value) (L : St) : Prop := ∀ K : En → St → Prop, K (e.put g.d v) L → Sx P N [g] e K L
def Calm (P : Program) (N : Nat) (L : St) : List It → En → En → Prop
 | [], e, fin => fin = e
 | x :: r, e, fin => ∃ v, (∀ e', sub (e.only x.rs) e' → Sc P N x.g e' v L) ∧ Calm P N L r (e.put x.g.d v) fin
def dOK (d : Option Nat) (rs : List Nat) : Bool := match d with | none => true | some d => !(rs.any (Nat.beq d))
def okL : List It → Bool
 | [] => true
 | x :: r => (dOK x.g.d x.rs && r.all (fun y => dOK y.g.d x.rs && dOK y.g.d (match x.g.d with | some d => [d] | none => []))) && okL r
def okD (l : List It) : Bool := l.all fun x => l.all fun y => dOK y.g.d x.rs || bit x.ds y.i
def okI : Nat → List It → Bool
 | _, [] => true
 | n, x :: r => Nat.beq x.i n && okI (n + 1) r
def chk (l : List It) : Bool := okL l && (okD l && okI 0 l)
theorem dOK_iff {d : Option Nat} {rs : List Nat} (h : dOK d rs = true) : ∀ t, d = some t → t ∉ rs := by
 rintro t rfl ht
 simp only [dOK, Bool.not_eq_true', List.any_eq_false] at h
 exact h t ht (by simp)
theorem okI_inj : ∀ {l : List It} {n : Nat}, okI n l = true → ∀ x ∈ l, n ≤ x.i ∧ ∀ y ∈ l, x.i = y.i → x = y
 | [], _, _, x, hx => by cases hx
 | a :: r, n, h, x, hx => by
   simp only [okI, Bool.and_eq_true] at h
   have ha := Nat.eq_of_beq_eq_true h.1
   have ih := okI_inj h.2
   rcases List.mem_cons.1 hx with rfl | hxr
   ·refine ⟨by omega, fun y hy he => ?_⟩
    rcases List.mem_cons.1 hy with rfl | hyr
    ·rfl
    ·have := (ih y hyr).1; omega
   ·have h1 := ih x hxr
    refine ⟨by omega, fun y hy he => ?_⟩
    rcases List.mem_cons.1 hy with rfl | hyr
    ·omega
    ·exact h1.2 y hyr he
theorem calm_far : ∀ {l : List It} {e fin : En}, Calm P N L l e fin → ∀ t, (∀ y ∈ l, y.g.d ≠ some t) → fin.get t = e.get t
 | [], _, _, h, t, _ => by rw [show _ = _ from h]
 | x :: r, e, fin, ⟨v, _, hr⟩, t, ht => by
   rw [calm_far hr t (fun y hy => ht y (by simp [hy])), put_ne (ht x (by simp))]
theorem calm_each : ∀ {l : List It} {e fin : En}, okL l = true → Calm P N L l e fin → ∀ x ∈ l, ∃ v, (∀ d, x.g.d = some d → fin.get d = some v) ∧
  ∀ e' : En, (∀ t ∈ x.rs, ∀ u, fin.get t = some u → e'.get t = some u) → Sc P N x.g e' v L
 | [], _, _, _, _, x, hx => by cases hx
 | a :: r, e, fin, ho, ⟨v, ha, hr⟩, x, hx => by
   simp only [okL, Bool.and_eq_true, List.all_eq_true] at ho
   obtain ⟨⟨h1, h2⟩, h3⟩ := ho
   rcases List.mem_cons.1 hx with rfl | hxr
   ·refine ⟨v, fun d hd => ?_, fun e' he => ha e' fun t u ht => ?_⟩
    ·rw [calm_far hr d (fun y hy hyd => by
      have := dOK_iff (h2 y hy).2 d hyd
      rw [hd] at this
      simp at this)]
     rw [hd]; exact put_eq
    ·obtain ⟨htr, hu⟩ := only_get ht
     refine he t htr u ?_
     rw [calm_far hr t (fun y hy hyd => dOK_iff (h2 y hy).1 t hyd htr), put_ne (fun hd => dOK_iff h1 t hd htr)]
     exact hu
   ·exact calm_each h3 hr x hxr
theorem without_lt {rem : List It} {x : It} (hx : x ∈ rem) : (without rem x.i).length < rem.length := by
 unfold without
 exact List.length_filter_lt_length_iff_exists.2 ⟨x, hx, by simp⟩
theorem calm_run {l : List It} {fin : En} {K : En → St → Prop} (hi : okI 0 l = true) (hd : okD l = true)
  (hH : ∀ x ∈ l, ∃ v, (∀ d, x.g.d = some d → fin.get d = some v) ∧ ∀ e' : En, (∀ t ∈ x.rs, ∀ u, fin.get t = some u → e'.get t = some u) → Sc P N x.g e' v L) (hK : ∀ e', sub fin e' → K e' L) :
  ∀ (n : Nat) (rem : List It), rem.length = n → (∀ x ∈ rem, x ∈ l) → ∀ e', (∀ t u, fin.get t = some u → (∀ y ∈ rem, y.g.d ≠ some t) → e'.get t = some u) → Rx P N rem [] (fun _ => True) e' K L := by
 intro n
 induction n using Nat.strongRecOn with
 | _ n ih =>
   intro rem hn hsub e' he
   refine Rx.all (fun h0 => hK e' fun t u ht => he t u ht (by rw [h0]; simp)) fun x hx => ⟨by simp, ?_⟩
   have hx1 : x ∈ rem ∧ ready x rem = true := by simpa [readies] using hx
   have hrd : ∀ y ∈ rem, bit x.ds y.i = false := by
    have := hx1.2
    simpa [ready] using this
   obtain ⟨v, hv, hS⟩ := hH x (hsub x hx1.1)
   refine hS e' (fun t ht u hu => he t u hu fun y hy hyd => ?_) _ ⟨trivial, ?_⟩
   ·simp only [okD, List.all_eq_true, Bool.or_eq_true] at hd
    rcases hd x (hsub x hx1.1) y (hsub y hy) with h | h
    ·exact dOK_iff h t hyd ht
    ·rw [hrd y hy] at h; cases h
   ·refine ih _ (by rw [← hn]; exact without_lt hx1.1) (without rem x.i) rfl (fun y hy => hsub y (mem_without.1 hy).1) _ fun t u ht hw => ?_
    by_cases hxt : x.g.d = some t
    ·have h1 := hv t hxt
     rw [ht] at h1
     rw [hxt, put_eq, ← h1]
    ·rw [put_ne hxt]
     refine he t u ht fun y hy hyd => ?_
     by_cases hyx : y.i = x.i
     ·have := (okI_inj hi y (hsub y hy)).2 x (hsub x hx1.1) hyx
      subst this
      exact hxt hyd
     ·exact hw y (mem_without.2 ⟨hy, hyx⟩) hyd
def Cm (P : Program) (N : Nat) (L : St) (l : List It) (e : En) (Kf : En → Prop) : Prop := ∃ fin, Calm P N L l e fin ∧ Kf fin
theorem Cx.calm {l : List It} {e : En} {d : C} {K : Kx} (hc : chk l = true) (h : Cm P N L l e fun fin => Cx P N d fin K L) : Cx P N (.rd l) e (Ksq P N d K) L := by
 obtain ⟨fin, hl, hk⟩ := h
 simp only [chk, Bool.and_eq_true] at hc
 refine Cx.rd (calm_run hc.2.2 hc.2.1 (calm_each hc.1 hl) (fun e' hs => ?_) _ l rfl (fun _ h => h) e fun t u ht hw => ?_)
 ·exact Cx.less hs hk
 ·rw [← calm_far hl t hw]; exact ht
theorem Cx.calmK {l : List It} {e : En} {K : Kx} (hm : ∀ e e', sub e e' → K .nm e L → K .nm e' L) (hc : chk l = true) (h : Cm P N L l e fun fin => K .nm fin L) : Cx P N (.rd l) e K L := by
 obtain ⟨fin, hl, hk⟩ := h
 simp only [chk, Bool.and_eq_true] at hc
 refine Cx.rd (calm_run hc.2.2 hc.2.1 (calm_each hc.1 hl) (fun e' hs => ?_) _ l rfl (fun _ h => h) e fun t u ht hw => ?_)
 ·exact hm _ _ hs hk
 ·rw [← calm_far hl t hw]; exact ht
theorem Kjn.mono {β : Type _} {K : Kx} {T : β → En} {S : β → St} : ∀ e e', sub e e' → Kjn K T S .nm e L → Kjn K T S .nm e' L :=
 fun e e' hs ⟨y, h1, h2⟩ => ⟨y, fun i v h => hs i v (h1 i v h), h2⟩
theorem Klp.mono {α : Type _} {K : Kx} {T : α → En} {S : α → St} {μ : α → Nat} {x : α} : ∀ e e', sub e e' → Klp K T S μ x .nm e L → Klp K T S μ x .nm e' L :=
 fun e e' hs ⟨y, h1, h2, h3⟩ => ⟨y, fun i v h => hs i v (h1 i v h), h2, h3⟩
section
variable {Kf : En → Prop} {e : En} {r : List It} {i ds : Nat} {rs : List Nat} {d : Option Nat} {g : Option (Nat × Bool)}
theorem Cm.nil (h : Kf e) : Cm P N L [] e Kf := ⟨e, rfl, h⟩
theorem Cm.done {c : C} {K : Kx} (h : Cx P N c e K L) : Cm P N L [] e (fun fin => Cx P N c fin K L) := .nil h
theorem Cm.cons {x : It} (v : Value) (h : ∀ e', sub (e.only x.rs) e' → Sc P N x.g e' v L) (k : Cm P N L r (e.put x.g.d v) Kf) : Cm P N L (x :: r) e Kf := by
 obtain ⟨fin, h1, h2⟩ := k
 exact ⟨fin, ⟨v, h, h1⟩, h2⟩
def gon (e : En) (g : Option (Nat × Bool)) : Bool := match g with
 | none => true
 | some (t, b) => match e.get t with | some (.bool c) => c == b | _ => false
theorem Sc.gon {T e' : En} {s : S} {v : Value} (hg : gon T g = true) (hs : sub T e') (h : Sc P N ⟨d, none, s⟩ e' v L) : Sc P N ⟨d, g, s⟩ e' v L := by
 unfold Proofs.YtflalhdofhobmaaGreat.gon at hg
 split at hg
 ·exact h
 ·rename_i t b
  split at hg
  ·rename_i c hc
   have hcb : c = b := by simpa using hg
   subst hcb
   exact fun K k => Sx.on (hs _ _ hc) (h K k)
  ·cases hg
theorem Sc.pv {T e' : En} {s : S} {φ : Prop} {v : Value} (hp : Proofs.YtflalhdofhobmaaGreat.pv T s = some (φ, v)) (hφ : φ) (hs : sub T e') : Sc P N ⟨d, none, s⟩ e' v L :=
 fun K k => Sx.step fun o a w0 w hc ok st => ⟨v, w, L, .inl ((ok.sub hs).runs hc hp hφ w), st, Sx.nil k⟩
theorem Cm.pv {s : S} {φ : Prop} {v : Value} (hg : gon (e.only rs) g = true) (hp : Proofs.YtflalhdofhobmaaGreat.pv (e.only rs) s = some (φ, v)) (hφ : φ) (k : Cm P N L r (e.put d v) Kf) : Cm P N L (⟨i, ds, rs, ⟨d, g, s⟩⟩ :: r) e Kf :=
 .cons v (fun e' hs => .gon hg hs (.pv hp hφ hs)) k
theorem Cm.off {t : Nat} {b : Bool} {s : S} (hb : offs (e.only rs) t b = true) (k : Cm P N L r (e.put d undef) Kf) : Cm P N L (⟨i, ds, rs, ⟨d, some (t, b), s⟩⟩ :: r) e Kf :=
 .cons undef (fun e' hs K k => Sx.off (by
  unfold offs at hb ⊢
  cases h1 : (e.only rs).get t with
  | none => rw [h1] at hb; simp at hb
  | some u => rw [hs _ _ h1]; rw [h1] at hb; exact hb) (Sx.nil k)) k
theorem X.get_sub {T e' : En} {x : X} {v : Value} (h : x.get T = some v) (hs : sub T e') : x.get e' = some v := by
 cases x with
 | t i => exact hs _ _ h
 | c u => exact h
theorem gets_sub {T e' : En} (hs : sub T e') : ∀ {xs : List X} {vs : List Value}, gets T xs = some vs → gets e' xs = some vs
 | [], _, h => h
 | x :: l, vs, h => by
   simp only [gets] at h ⊢
   split at h
   ·rename_i v hv
    split at h
    ·rename_i us hus
     rw [X.get_sub hv hs]
     simp only
     rw [gets_sub hs hus]
     exact h
    ·cases h
   ·cases h
theorem Cm.pk {c x y : X} {p q z : Bool} (hg : gon (e.only rs) g = true) (hc : c.get (e.only rs) = some (.bool p)) (hx : x.get (e.only rs) = some (.bool q)) (hy : y.get (e.only rs) = some (.bool z))
  (k : Cm P N L r (e.put d (.bool (pick p q z))) Kf) : Cm P N L (⟨i, ds, rs, ⟨d, g, .pk c x y⟩⟩ :: r) e Kf :=
 .cons _ (fun e' hs => .gon hg hs fun K k => Sx.pk (X.get_sub hc hs) (X.get_sub hx hs) (X.get_sub hy hs) (Sx.nil k)) k
theorem Cm.ld {x : X} {n b off : Nat} {ag : Bool} {vs : List Value} {v : Value} (hg : gon (e.only rs) g = true) (hx : x.get (e.only rs) = some (.pointer (some ⟨b, off, none⟩))) (hh : Has L b off vs) (hv : ldv n ag vs = some v)
  (k : Cm P N L r (e.put d v) Kf) : Cm P N L (⟨i, ds, rs, ⟨d, g, .ld x n ag⟩⟩ :: r) e Kf :=
 .cons v (fun e' hs => .gon hg hs fun K k => Sx.ld (X.get_sub hx hs) hh hv (Sx.nil k)) k
theorem Cm.ldb {x : X} {b off : Nat} {T : TypeId} {cs : List Value} {v : Value} [t : Take L (some ⟨b, 0, none⟩) (Blk T cs) F] (hg : gon (e.only rs) g = true) (hx : x.get (e.only rs) = some (.pointer (some ⟨b, off, none⟩))) (hv : cs[off]? = some v)
  (k : Cm P N L r (e.put d v) Kf) : Cm P N L (⟨i, ds, rs, ⟨d, g, .ld x 1 false⟩⟩ :: r) e Kf :=
 .ld hg hx ((Has.blk (T := T) (cs := cs) (n := 1)).one (take_one hv)) rfl k
theorem Cm.ldbs {x : X} {b off n : Nat} {T : TypeId} {cs : List Value} [t : Take L (some ⟨b, 0, none⟩) (Blk T cs) F] (hg : gon (e.only rs) g = true) (hx : x.get (e.only rs) = some (.pointer (some ⟨b, off, none⟩))) (hn : Nat.ble (off + n) cs.length = true)
  (k : Cm P N L r (e.put d (.agg ((cs.drop off).take n).toArray)) Kf) : Cm P N L (⟨i, ds, rs, ⟨d, g, .ld x n true⟩⟩ :: r) e Kf :=
 .cons _ (fun e' hs => .gon hg hs fun K k => Sx.ldbs (X.get_sub hx hs) hn (Sx.nil k)) k
theorem Cm.ca {f : FuncId} {xs : List X} {vs : List Value} {v : Value} (hg : gon (e.only rs) g = true) (hx : gets (e.only rs) xs = some vs) (hf : Fx P f vs L (fun v' L' => v' = v ∧ L = L')) (k : Cm P N L r (e.put d v) Kf) :
  Cm P N L (⟨i, ds, rs, ⟨d, g, .ca f xs⟩⟩ :: r) e Kf :=
 .cons v (fun e' hs => .gon hg hs fun K k => Sx.ca (gets_sub hs hx) hf fun v' L' h => by
  obtain ⟨rfl, rfl⟩ := h
  exact Sx.nil k) k
def isPk : S → Bool
 | .pk _ _ _ => true
 | _ => false
def plainP (s : S) : Bool := isPk s || plain s
theorem isPk_pv {s : S} (h : isPk s = true) {φ : Prop} {v : Value} (hp : Proofs.YtflalhdofhobmaaGreat.pv e s = some (φ, v)) : φ := by
 obtain ⟨c, a, b, rfl⟩ : ∃ c a b, s = .pk c a b := by cases s <;> first | exact ⟨_, _, _, rfl⟩ | cases h
 simp only [Proofs.YtflalhdofhobmaaGreat.pv] at hp
 repeat' split at hp
 all_goals first | (cases hp; trivial) | cases hp
theorem plainP_pv {s : S} (h : plainP s = true) {φ : Prop} {v : Value} (hp : Proofs.YtflalhdofhobmaaGreat.pv e s = some (φ, v)) : φ := by
 rcases (Bool.or_eq_true _ _).mp h with h | h
 ·exact isPk_pv h hp
 ·exact plain_pv h hp
def stepM (x : It) (e : En) : Option Value :=
 bif gon (e.only x.rs) x.g.g then
  (bif plainP x.g.s then (match Proofs.YtflalhdofhobmaaGreat.pv (e.only x.rs) x.g.s with | some (_, v) => some v | none => none) else none)
 else (match x.g.g with | some (t, b) => (bif offs (e.only x.rs) t b then some undef else none) | none => none)
def eagM : List It → En → Option (List It × En)
 | x :: r, e => match stepM x e with
   | some v => match eagM r (e.put x.g.d v) with
     | some q => some q
     | none => some (r, e.put x.g.d v)
   | none => none
 | [], _ => none
theorem Cm.step {x : It} {v : Value} (h : stepM x e = some v) (k : Cm P N L r (e.put x.g.d v) Kf) : Cm P N L (x :: r) e Kf := by
 obtain ⟨i, ds, rs, d, g, s⟩ := x
 unfold stepM at h
 simp only at h
 cases hg : gon (e.only rs) g with
 | true =>
   rw [hg, cond_true] at h
   cases hp : plainP s with
   | false => rw [hp] at h; cases h
   | true =>
     rw [hp, cond_true] at h
     split at h
     ·rename_i φ u hu
      cases h
      exact Cm.pv hg hu (plainP_pv hp hu) k
     ·cases h
 | false =>
   rw [hg, cond_false] at h
   split at h
   ·rename_i t b
    cases hb : offs (e.only rs) t b with
    | true => rw [hb, cond_true] at h; cases h; exact Cm.off hb k
    | false => rw [hb] at h; cases h
   ·cases h
theorem Cm.pvs : ∀ {l l' : List It} {e e' : En}, eagM l e = some (l', e') → Cm P N L l' e' Kf → Cm P N L l e Kf
 | [], _, _, _, h, _ => by cases h
 | x :: r, l', e, e', h, k => by
   simp only [eagM] at h
   split at h
   ·rename_i v hv
    split at h
    ·rename_i q hq
     cases h
     exact Cm.step hv (Cm.pvs hq k)
    ·cases h
     exact Cm.step hv k
   ·cases h
end
end
end Go.Proofs.YtflalhdofhobmaaGreat


namespace Go.Proofs.YtflalhdofhobmaaGreat
open Go
section
variable {P : Program} {N : Nat} {e : En} {L F : St}
theorem cRs_cell {rs : List ResultVar} {t n : Nat} {g : Bool} (h : cRs P rs = some [.c t n g]) : ∃ ty, rs = [.cell t ty] ∧ szT P ty = some n ∧ isAggT P ty = some g := by
 match rs with
 | [] => simp [cRs] at h
 | [.tmp i] => simp [cRs, cR] at h
 | [.cell a ty] =>
   simp only [cRs, cR] at h
   cases h1 : szT P ty with
   | none => simp [h1] at h
   | some m =>
     cases h2 : isAggT P ty with
     | none => simp [h1, h2] at h
     | some q =>
       simp only [h1, h2, Option.some.injEq, List.cons.injEq, RV.c.injEq, and_true] at h
       obtain ⟨rfl, rfl, rfl⟩ := h
       exact ⟨ty, rfl, h1, h2⟩
 | r :: r' :: l =>
   simp only [cRs] at h
   split at h
   ·split at h
    ·rename_i _ _ us hus
     split at hus
     ·split at hus
      ·cases hus; simp at h
      ·cases hus
     ·cases hus
    ·cases h
   ·cases h
theorem Rv_cell {t n b off : Nat} {g : Bool} {vs : List Value} {v : Value} (h : e.get t = some (.pointer (some ⟨b, off, none⟩))) (hh : Has L b off vs) (hv : ldv n g vs = some v) : Rv P N [.c t n g] e L v := by
 intro fn a w0 w hr ok s
 obtain ⟨ty, hres, hs, hg⟩ := cRs_cell hr
 have hr2 : fn.results = #[.cell t ty] := by apply Array.ext'; simpa using hres
 have ht := ok.get _ _ h
 have hx : a.tmps.getD t undef = .pointer (some ⟨b, off, none⟩) := by simp [ht]
 have hc := hh w0 w s
 cases g
 ·unfold ldv at hv
  split at hv
  ·contradiction
  ·cases hv
   have h0 := hc 0 v rfl
   simp only [Nat.add_zero] at h0
   simp [results, hr2, ht, loadVar, isAggT_eq hg, h0, asAddr]
  ·cases hv
 ·simp only [ldv] at hv
  cases hb : Nat.beq vs.length n with
  | false => rw [hb] at hv; cases hv
  | true =>
    rw [hb] at hv; cases hv
    have hn := Nat.eq_of_beq_eq_true hb
    have hl := run_loadCells_list (P := P) w ⟨b, off, none⟩ vs (fun j v hj => by rw [partPlace]; exact hc j v hj)
    rw [hn] at hl
    simp [results, hr2, ht, loadVar, isAggT_eq hg, szT_eq hs, hl, asAddr]
theorem Kr_cell {R : Value → St → Prop} {t n b : Nat} {T : TypeId} {cs : List Value} {x : Ex} [i : Take L (some ⟨b, 0, none⟩) (Blk T cs) F] (hx : x = .nm ∨ x = .rt) (h : e.get t = some (.pointer (some ⟨b, 0, none⟩))) (hn : Nat.beq cs.length n = true)
  {L' : St} (hL : Ent L L') (hR : R (.agg cs.toArray) L') : Kr P N [.c t n true] R x e L := by
 have hn' := Nat.eq_of_beq_eq_true hn
 refine ⟨hx, _, L', Rv_cell h (Has.blk (T := T) (cs := cs) (n := n) (off := 0)) ?_, hL, hR⟩
 simp [ldv, ← hn']
end
end Go.Proofs.YtflalhdofhobmaaGreat


namespace Go.Proofs.YtflalhdofhobmaaGreat
open Go
section
variable {P : Program} {N : Nat} {L F : St}
def Se (P : Program) (N : Nat) (g : G) (e : En) (L : St) (R : Value → St → Prop) : Prop := ∀ K : En → St → Prop, (∀ v L', R v L' → K (e.put g.d v) L') → Sx P N [g] e K L
inductive Ev (P : Program) (N : Nat) (Kf : En → St → Prop) : List It → List (Nat × (St → Prop)) → En → St → Prop
 | nil {ms : List (Nat × (St → Prop))} {e : En} {L : St} (h : Kf e L) : Ev P N Kf [] ms e L
 | free {rem : List It} {ms : List (Nat × (St → Prop))} {e : En} {L : St} (x : It) (hx : x ∈ rem) (v : Value) (h : ∀ L e', sub (e.only x.rs) e' → Sc P N x.g e' v L) (k : Ev P N Kf (without rem x.i) ms (e.put x.g.d v) L) : Ev P N Kf rem ms e L
 | looks {rem : List It} {ms : List (Nat × (St → Prop))} {e : En} {L : St} (x : It) (hx : x ∈ rem) (v : Value) (Φ : St → Prop) (hΦ : Φ L) (h : ∀ M, Φ M → ∀ e', sub (e.only x.rs) e' → Sc P N x.g e' v M) (k : Ev P N Kf (without rem x.i) ((x.i, Φ) :: ms) (e.put x.g.d v) L) : Ev P N Kf rem ms e L
 | turns {rem : List It} {ms : List (Nat × (St → Prop))} {e : En} {L : St} (x : It) (hx : x ∈ rem) (R : Value → St → Prop) (h1 : (without rem x.i).all (fun y => bit y.ds x.i) = true) (h2 : ∀ q ∈ ms, bit x.ds q.1 = true ∨ ∀ v L', R v L' → q.2 L')
   (h : ∀ e', sub (e.only x.rs) e' → Se P N x.g e' L R) (k : ∀ v L', R v L' → Ev P N Kf (without rem x.i) ms (e.put x.g.d v) L') : Ev P N Kf rem ms e L
structure Told (P : Program) (N : Nat) (ms : List (Nat × (St → Prop))) (e : En) (L : St) (p : It × Value) : Prop where
 hv : ∀ d, p.1.g.d = some d → e.get d = some p.2
 hs : (∀ L e', (∀ t ∈ p.1.rs, ∀ u, e.get t = some u → e'.get t = some u) → Sc P N p.1.g e' p.2 L) ∨
  ∃ Φ, (p.1.i, Φ) ∈ ms ∧ Φ L ∧ ∀ M, Φ M → ∀ e', (∀ t ∈ p.1.rs, ∀ u, e.get t = some u → e'.get t = some u) → Sc P N p.1.g e' p.2 M
def okN : List It → Bool
 | [] => true
 | x :: r => r.all (fun y => dOK y.g.d (match x.g.d with | some d => [d] | none => [])) && okN r
theorem okN_iff : ∀ {l : List It}, okN l = true → ∀ x ∈ l, ∀ y ∈ l, ∀ d, x.g.d = some d → y.g.d = some d → x = y
 | [], _, x, hx => by cases hx
 | a :: r, h, x, hx => by
   simp only [okN, Bool.and_eq_true, List.all_eq_true] at h
   intro y hy d hdx hdy
   rcases List.mem_cons.1 hx with rfl | hxr <;> rcases List.mem_cons.1 hy with rfl | hyr
   ·rfl
   ·have := dOK_iff (h.1 y hyr) d hdy
    rw [hdx] at this; simp at this
   ·have := dOK_iff (h.1 x hxr) d hdx
    rw [hdy] at this; simp at this
   ·exact okN_iff h.2 x hxr y hyr d hdx hdy
theorem without_app (U tl : List It) (i : Nat) (h : ∀ y ∈ tl, y.i ≠ i) : without (U ++ tl) i = without U i ++ tl := by
 unfold without
 rw [List.filter_append]
 congr 1
 rw [List.filter_eq_self]
 intro y hy
 have := h y hy
 cases hb : Nat.beq y.i i with
 | true => exact absurd (Nat.eq_of_beq_eq_true hb) this
 | false => rfl
theorem split_ready {all tl U : List It} {x : It} (htl : ∀ y ∈ tl, ∀ x ∈ all, bit y.ds x.i = true ∧ y.i ≠ x.i) (hUa : ∀ x ∈ U, x ∈ all) (hU : U ≠ []) (hx : x ∈ readies (U ++ tl)) : x ∈ U ∧ ready x U = true ∧ without (U ++ tl) x.i = without U x.i ++ tl := by
 have h1 : x ∈ U ++ tl ∧ ready x (U ++ tl) = true := by simpa only [readies, List.mem_filter] using hx
 have h2 : ∀ z ∈ U ++ tl, bit x.ds z.i = false := by
  have := h1.2
  simp only [ready, List.all_eq_true] at this
  exact fun z hz => by simpa using this z hz
 have hxU : x ∈ U := by
  rcases List.mem_append.1 h1.1 with h | h
  ·exact h
  ·obtain ⟨z, hz⟩ := List.exists_mem_of_ne_nil U hU
   have h3 := (htl x h z (hUa z hz)).1
   rw [h2 z (by simp [hz])] at h3; cases h3
 refine ⟨hxU, ?_, without_app U tl x.i fun y hy => (htl y hy x (hUa x hxU)).2⟩
 simp only [ready, List.all_eq_true]
 exact fun z hz => by rw [h2 z (by simp [hz])]; rfl
theorem ev_runT {all tl : List It} {Kf Kt : En → St → Prop} (hi : okI 0 all = true) (hd : okD all = true) (hn : okN all = true) (htl : ∀ y ∈ tl, ∀ x ∈ all, bit y.ds x.i = true ∧ y.i ≠ x.i) (hK : ∀ e e' L, sub e e' → Kf e L → Rx P N tl [] (fun _ => True) e' Kt L) :
  ∀ (n : Nat) (rem : List It) (ms : List (Nat × (St → Prop))) (e : En) (L : St), Ev P N Kf rem ms e L → ∀ (T : List (It × Value)) (U : List It) (e' : En), U.length = n → (∀ x ∈ U, x ∈ all) → (∀ x, x ∈ U ↔ (∃ v, (x, v) ∈ T) ∨ x ∈ rem) →
   (∀ p ∈ T, p.1 ∉ rem) → (∀ p ∈ T, Told P N ms e L p) → (∀ y ∈ rem, ∀ d, y.g.d = some d → e.get d = none) →
   (∀ t u, e.get t = some u → (∀ p ∈ T, p.1.g.d ≠ some t) → e'.get t = some u) → Rx P N (U ++ tl) [] (fun _ => True) e' Kt L := by
 intro n
 induction n using Nat.strongRecOn with
 | _ n ihn =>
   have inj : ∀ x ∈ all, ∀ y ∈ all, x.i = y.i → x = y := fun x hx y hy h => (okI_inj hi x hx).2 y hy h
   -- one of those that were told comes
   have come : ∀ (rem : List It) (ms : List (Nat × (St → Prop))) (e : En) (L : St), Ev P N Kf rem ms e L → ∀ (T : List (It × Value)) (U : List It) (e' : En), U.length = n → (∀ x ∈ U, x ∈ all) → (∀ x, x ∈ U ↔ (∃ v, (x, v) ∈ T) ∨ x ∈ rem) →
     (∀ p ∈ T, p.1 ∉ rem) → (∀ p ∈ T, Told P N ms e L p) → (∀ y ∈ rem, ∀ d, y.g.d = some d → e.get d = none) → (∀ t u, e.get t = some u → (∀ p ∈ T, p.1.g.d ≠ some t) → e'.get t = some u) →
     ∀ x v, (x, v) ∈ T → ready x U = true → Sx P N [x.g] e' (fun e' L' => True ∧ Rx P N (without U x.i ++ tl) [] (fun _ => True) e' Kt L') L := by
    intro rem ms e L hev T U e' hU hUa hUm hTr hT hfr he x v hxv hrd
    have hxU : x ∈ U := (hUm x).2 (.inl ⟨v, hxv⟩)
    have hrd' : ∀ y ∈ U, bit x.ds y.i = false := by simpa [ready] using hrd
    have hto := hT _ hxv
    have hfacts : ∀ t ∈ x.rs, ∀ u, e.get t = some u → e'.get t = some u := by
     intro t ht u hu
     refine he t u hu fun p hp hpd => ?_
     have hpU : p.1 ∈ U := (hUm p.1).2 (.inl ⟨p.2, hp⟩)
     simp only [okD, List.all_eq_true, Bool.or_eq_true] at hd
     rcases hd x (hUa x hxU) p.1 (hUa _ hpU) with h | h
     ·exact dOK_iff h t hpd ht
     ·rw [hrd' _ hpU] at h; cases h
    have hS : Sc P N x.g e' v L := by
     rcases hto.hs with h | ⟨Φ, _, hΦ, h⟩
     ·exact h L e' hfacts
     ·exact h L hΦ e' hfacts
    refine hS _ ⟨trivial, ?_⟩
    have hlt := without_lt hxU
    refine ihn (without U x.i).length (by omega) rem ms e L hev (T.filter fun p => !(Nat.beq p.1.i x.i)) (without U x.i) _ rfl (fun y hy => hUa y (mem_without.1 hy).1) (fun y => ?_) (fun p hp => hTr p ((List.mem_filter.1 hp).1)) (fun p hp => hT p ((List.mem_filter.1 hp).1)) hfr fun t u ht hw => ?_
    ·rw [mem_without, hUm]
     constructor
     ·rintro ⟨⟨w, hw⟩ | h, hne⟩
      ·refine .inl ⟨w, List.mem_filter.2 ⟨hw, ?_⟩⟩
       cases hb : Nat.beq y.i x.i with
       | false => rfl
       | true => exact absurd (Nat.eq_of_beq_eq_true hb) hne
      ·exact .inr h
     ·rintro (⟨w, hw⟩ | h)
      ·obtain ⟨h1, h2⟩ := List.mem_filter.1 hw
       exact ⟨.inl ⟨w, h1⟩, fun hh => by simp [hh] at h2⟩
      ·refine ⟨.inr h, fun hh => ?_⟩
       have hyx := inj y (hUa y ((hUm y).2 (.inr h))) x (hUa x hxU) hh
       subst hyx
       exact hTr _ hxv h
    ·by_cases hxt : x.g.d = some t
     ·have h1 := hto.hv t hxt
      rw [ht] at h1
      rw [hxt, put_eq]; exact h1.symm
     ·rw [put_ne hxt]
      refine he t u ht fun p hp hpd => ?_
      by_cases hpx : p.1.i = x.i
      ·have := inj p.1 (hUa _ ((hUm p.1).2 (.inl ⟨p.2, hp⟩))) x (hUa x hxU) hpx
       rw [this] at hpd; exact hxt hpd
      ·refine hw p (List.mem_filter.2 ⟨hp, ?_⟩) hpd
       cases hb : Nat.beq p.1.i x.i with
       | false => rfl
       | true => exact absurd (Nat.eq_of_beq_eq_true hb) hpx
   -- telling one more
   have tell : ∀ {rem : List It} {ms ms' : List (Nat × (St → Prop))} {e : En} {L : St} {x : It} {v : Value} {T : List (It × Value)} {U : List It} {e' : En}, x ∈ rem → (∀ x ∈ U, x ∈ all) → (∀ x, x ∈ U ↔ (∃ v, (x, v) ∈ T) ∨ x ∈ rem) → (∀ p ∈ T, p.1 ∉ rem) →
     (∀ p ∈ T, Told P N ms e L p) → (∀ y ∈ rem, ∀ d, y.g.d = some d → e.get d = none) → (∀ q ∈ ms, q ∈ ms') →
     (∀ p ∈ T, Told P N ms' (e.put x.g.d v) L p) ∧ (∀ y ∈ without rem x.i, ∀ d, y.g.d = some d → (e.put x.g.d v).get d = none) := by
    intro rem ms ms' e L x v T U e' hx hUa hUm hTr hT hfr hms
    have hxa := hUa x ((hUm x).2 (.inr hx))
    refine ⟨fun p hp => ?_, fun y hy d hyd => ?_⟩
    ·have hpa := hUa p.1 ((hUm p.1).2 (.inl ⟨p.2, hp⟩))
     have hpx : p.1 ≠ x := fun h => hTr p hp (by rw [h]; exact hx)
     have hto := hT p hp
     have hst : ∀ e' : En, (∀ t ∈ p.1.rs, ∀ u, (e.put x.g.d v).get t = some u → e'.get t = some u) → ∀ t ∈ p.1.rs, ∀ u, e.get t = some u → e'.get t = some u := by
      intro e' h t ht u hu
      refine h t ht u ?_
      rw [put_ne (fun hxt => by rw [hfr x hx t hxt] at hu; cases hu)]
      exact hu
     refine ⟨fun d hpd => ?_, ?_⟩
     ·rw [put_ne (fun hxd => hpx (okN_iff hn p.1 hpa x hxa d hpd hxd))]
      exact hto.hv d hpd
     ·rcases hto.hs with h | ⟨Φ, h1, hΦ, h⟩
      ·exact .inl fun L e' he => h L e' (hst e' he)
      ·exact .inr ⟨Φ, hms _ h1, hΦ, fun M hM e' he => h M hM e' (hst e' he)⟩
    ·obtain ⟨hy1, hy2⟩ := mem_without.1 hy
     rw [put_ne (fun hxd => hy2 (by rw [okN_iff hn y (hUa y ((hUm y).2 (.inr hy1))) x hxa d hyd hxd]))]
     exact hfr y hy1 d hyd
   intro rem ms e L hev
   induction hev with
   | @nil ms e L hk =>
     intro T U e' hU hUa hUm hTr hT hfr he
     by_cases hU0 : U = []
     ·subst hU0
      refine hK e e' L (fun t u ht => he t u ht fun p hp => ?_) hk
      have : p.1 ∈ ([] : List It) := (hUm p.1).2 (.inl ⟨p.2, hp⟩)
      cases this
     ·refine Rx.all (fun h0 => absurd (List.append_eq_nil_iff.1 h0).1 hU0) fun x hx => ⟨by simp, ?_⟩
      obtain ⟨hx1, hx2, hx3⟩ := split_ready htl hUa hU0 hx
      rw [hx3]
      rcases (hUm x).1 hx1 with ⟨v, hv⟩ | h
      ·exact come [] ms e L (.nil hk) T U e' hU hUa hUm hTr hT hfr he x v hv hx2
      ·cases h
   | @free rem ms e L x hx v h k ih =>
     intro T U e' hU hUa hUm hTr hT hfr he
     obtain ⟨t1, t2⟩ := tell (v := v) (e' := e') hx hUa hUm hTr hT hfr (fun _ h => h)
     refine ih ((x, v) :: T) U e' hU hUa (fun y => ?_) (fun p hp => ?_) (fun p hp => ?_) t2 fun t u ht hw => ?_
     ·rw [hUm]
      constructor
      ·rintro (⟨w, hw⟩ | hy)
       ·exact .inl ⟨w, List.mem_cons_of_mem _ hw⟩
       ·by_cases hyx : y = x
        ·exact .inl ⟨v, by rw [hyx]; simp⟩
        ·exact .inr (mem_without.2 ⟨hy, fun hh => hyx (inj y (hUa y ((hUm y).2 (.inr hy))) x (hUa x ((hUm x).2 (.inr hx))) hh)⟩)
      ·rintro (⟨w, hw⟩ | hy)
       ·rcases List.mem_cons.1 hw with h1 | h1
        ·cases h1; exact .inr hx
        ·exact .inl ⟨w, h1⟩
       ·exact .inr (mem_without.1 hy).1
     ·rcases List.mem_cons.1 hp with rfl | h1
      ·exact fun hh => (mem_without.1 hh).2 rfl
      ·exact fun hh => hTr p h1 (mem_without.1 hh).1
     ·rcases List.mem_cons.1 hp with rfl | h1
      ·refine ⟨fun d hd => by rw [show x.g.d = some d from hd]; exact put_eq, .inl fun L e2 h2 => h L e2 fun t u ht => ?_⟩
       obtain ⟨htr, hu⟩ := only_get ht
       refine h2 t htr u ?_
       rw [put_ne (fun hxt => by rw [hfr x hx t hxt] at hu; cases hu)]
       exact hu
      ·exact t1 p h1
     ·have hxt : x.g.d ≠ some t := hw (x, v) (by simp)
      rw [put_ne hxt] at ht
      exact he t u ht fun p hp => hw p (List.mem_cons_of_mem _ hp)
   | @looks rem ms e L x hx v Φ hΦ h k ih =>
     intro T U e' hU hUa hUm hTr hT hfr he
     obtain ⟨t1, t2⟩ := tell (v := v) (e' := e') hx hUa hUm hTr hT hfr (fun _ h => List.mem_cons_of_mem (x.i, Φ) h)
     refine ih ((x, v) :: T) U e' hU hUa (fun y => ?_) (fun p hp => ?_) (fun p hp => ?_) t2 fun t u ht hw => ?_
     ·rw [hUm]
      constructor
      ·rintro (⟨w, hw⟩ | hy)
       ·exact .inl ⟨w, List.mem_cons_of_mem _ hw⟩
       ·by_cases hyx : y = x
        ·exact .inl ⟨v, by rw [hyx]; simp⟩
        ·exact .inr (mem_without.2 ⟨hy, fun hh => hyx (inj y (hUa y ((hUm y).2 (.inr hy))) x (hUa x ((hUm x).2 (.inr hx))) hh)⟩)
      ·rintro (⟨w, hw⟩ | hy)
       ·rcases List.mem_cons.1 hw with h1 | h1
        ·cases h1; exact .inr hx
        ·exact .inl ⟨w, h1⟩
       ·exact .inr (mem_without.1 hy).1
     ·rcases List.mem_cons.1 hp with rfl | h1
      ·exact fun hh => (mem_without.1 hh).2 rfl
      ·exact fun hh => hTr p h1 (mem_without.1 hh).1
     ·rcases List.mem_cons.1 hp with rfl | h1
      ·refine ⟨fun d hd => by rw [show x.g.d = some d from hd]; exact put_eq, .inr ⟨Φ, by simp, hΦ, fun M hM e2 h2 => h M hM e2 fun t u ht => ?_⟩⟩
       obtain ⟨htr, hu⟩ := only_get ht
       refine h2 t htr u ?_
       rw [put_ne (fun hxt => by rw [hfr x hx t hxt] at hu; cases hu)]
       exact hu
      ·exact t1 p h1
     ·have hxt : x.g.d ≠ some t := hw (x, v) (by simp)
      rw [put_ne hxt] at ht
      exact he t u ht fun p hp => hw p (List.mem_cons_of_mem _ hp)
   | @turns rem ms e L x hx R h1 h2 h k ih =>
     intro T U e' hU hUa hUm hTr hT hfr he
     have hxU : x ∈ U := (hUm x).2 (.inr hx)
     have hU0 : U ≠ [] := fun h0 => by rw [h0] at hxU; cases hxU
     refine Rx.all (fun h0 => absurd (List.append_eq_nil_iff.1 h0).1 hU0) fun y hy => ⟨by simp, ?_⟩
     obtain ⟨hyA, hyB, hyC⟩ := split_ready htl hUa hU0 hy
     rw [hyC]
     have hy1 : y ∈ U ∧ ready y U = true := ⟨hyA, hyB⟩
     have hrd : ∀ z ∈ U, bit y.ds z.i = false := by simpa [ready] using hy1.2
     rcases (hUm y).1 hy1.1 with ⟨v, hv⟩ | hyr
     ·exact come rem ms e L (.turns x hx R h1 h2 h k) T U e' hU hUa hUm hTr hT hfr he y v hv hy1.2
     ·by_cases hyx : y = x
      ·subst hyx
       have hpure : ∀ p ∈ T, ∀ Φ, (p.1.i, Φ) ∈ ms → ∀ v L', R v L' → Φ L' := by
        intro p hp Φ hm
        rcases h2 _ hm with hb | hb
        ·have hpU : p.1 ∈ U := (hUm p.1).2 (.inl ⟨p.2, hp⟩)
         rw [hrd _ hpU] at hb; cases hb
        ·exact hb
       have hsub : sub (e.only y.rs) e' := by
        intro t u ht
        obtain ⟨htr, hu⟩ := only_get ht
        refine he t u hu fun p hp hpd => ?_
        have hpU : p.1 ∈ U := (hUm p.1).2 (.inl ⟨p.2, hp⟩)
        simp only [okD, List.all_eq_true, Bool.or_eq_true] at hd
        rcases hd y (hUa y hxU) p.1 (hUa _ hpU) with hh | hh
        ·exact dOK_iff hh t hpd htr
        ·rw [hrd _ hpU] at hh; cases hh
       refine h e' hsub _ fun v L' hR => ⟨trivial, ?_⟩
       have hlt := without_lt hxU
       obtain ⟨t1, t2⟩ := tell (v := v) (e' := e') hx hUa hUm hTr hT hfr (fun _ h => h)
       refine ihn (without U y.i).length (by omega) (without rem y.i) ms _ L' (k v L' hR) T (without U y.i) _ rfl (fun z hz => hUa z (mem_without.1 hz).1) (fun z => ?_) (fun p hp hh => hTr p hp (mem_without.1 hh).1) (fun p hp => ?_) t2 fun t u ht hw => ?_
       ·rw [mem_without, mem_without, hUm]
        constructor
        ·rintro ⟨⟨w, hw⟩ | hz, hne⟩
         ·exact .inl ⟨w, hw⟩
         ·exact .inr ⟨hz, hne⟩
        ·rintro (⟨w, hw⟩ | ⟨hz, hne⟩)
         ·refine ⟨.inl ⟨w, hw⟩, fun hh => ?_⟩
          have := inj z (hUa z ((hUm z).2 (.inl ⟨w, hw⟩))) y (hUa y hxU) hh
          subst this
          exact hTr _ hw hx
         ·exact ⟨.inr hz, hne⟩
       ·have hto := t1 p hp
        refine ⟨hto.hv, ?_⟩
        rcases hto.hs with hh | ⟨Φ, hm, _, hh⟩
        ·exact .inl hh
        ·exact .inr ⟨Φ, hm, hpure p hp Φ hm v L' hR, hh⟩
       ·by_cases hyt : y.g.d = some t
        ·rw [hyt] at ht ⊢
         rw [put_eq] at ht ⊢; exact ht
        ·rw [put_ne hyt] at ht ⊢
         exact he t u ht hw
      ·have hb := List.all_eq_true.1 h1 y (mem_without.2 ⟨hyr, fun hh => hyx (inj y (hUa y hy1.1) x (hUa x hxU) hh)⟩)
       rw [hrd x hxU] at hb; cases hb
theorem ev_run {all : List It} {Kf : En → St → Prop} (hi : okI 0 all = true) (hd : okD all = true) (hn : okN all = true) (hK : ∀ e e' L, sub e e' → Kf e L → Kf e' L) :
  ∀ (n : Nat) (rem : List It) (ms : List (Nat × (St → Prop))) (e : En) (L : St), Ev P N Kf rem ms e L → ∀ (T : List (It × Value)) (U : List It) (e' : En), U.length = n → (∀ x ∈ U, x ∈ all) → (∀ x, x ∈ U ↔ (∃ v, (x, v) ∈ T) ∨ x ∈ rem) →
   (∀ p ∈ T, p.1 ∉ rem) → (∀ p ∈ T, Told P N ms e L p) → (∀ y ∈ rem, ∀ d, y.g.d = some d → e.get d = none) →
   (∀ t u, e.get t = some u → (∀ p ∈ T, p.1.g.d ≠ some t) → e'.get t = some u) → Rx P N U [] (fun _ => True) e' Kf L := by
 intro n rem ms e L h T U e' h1 h2 h3 h4 h5 h6 h7
 have := ev_runT (tl := []) (Kt := Kf) hi hd hn (fun y hy => by cases hy) (fun e e' L hs hk => Rx.all (fun _ => hK e e' L hs hk) fun x hx => by simp [readies] at hx) n rem ms e L h T U e' h1 h2 h3 h4 h5 h6 h7
 rwa [List.append_nil] at this
def En.clear (e : En) (l : List It) : En := e.filter fun p => l.all fun y => match y.g.d with | some d => !(Nat.beq d p.1) | none => true
theorem clear_get {l : List It} : ∀ {e : En} {t : Nat} {u : Value}, (e.clear l).get t = some u → (∀ y ∈ l, y.g.d ≠ some t) ∧ (e.get t = some u ∨ ∃ w, e.get t = some w)
 | [], t, u, h => by simp [En.clear, En.get] at h
 | (i, v) :: e, t, u, h => by
   unfold En.clear at h
   rw [List.filter_cons] at h
   split at h
   ·rename_i hk
    simp only [En.get] at h ⊢
    cases hb : Nat.beq i t with
    | true =>
      rw [hb, cond_true] at h
      have hit := Nat.eq_of_beq_eq_true hb
      subst hit
      refine ⟨fun y hy hyd => ?_, .inl h⟩
      have := List.all_eq_true.1 hk y hy
      rw [hyd] at this
      simp at this
    | false =>
      rw [hb, cond_false] at h
      simpa using clear_get (e := e) h
   ·simp only [En.get]
    have h1 := clear_get (e := e) h
    refine ⟨h1.1, ?_⟩
    cases hb : Nat.beq i t with
    | true => exact .inr ⟨v, rfl⟩
    | false => simpa using h1.2
theorem clear_sub {l : List It} : ∀ {e : En} {t : Nat} {u : Value}, (e.clear l).get t = some u → e.get t = some u
 | [], t, u, h => by simp [En.clear, En.get] at h
 | (i, v) :: e, t, u, h => by
   have hno := (clear_get h).1
   unfold En.clear at h
   rw [List.filter_cons] at h
   split at h
   ·simp only [En.get] at h ⊢
    cases hb : Nat.beq i t with
    | true => rw [hb, cond_true] at h; rw [cond_true]; exact h
    | false => rw [hb, cond_false] at h; rw [cond_false]; exact clear_sub (e := e) h
   ·rename_i hk
    have h1 := clear_sub (e := e) h
    simp only [En.get]
    cases hb : Nat.beq i t with
    | false => exact h1
    | true =>
      exfalso
      have hit := Nat.eq_of_beq_eq_true hb
      subst hit
      refine hk (List.all_eq_true.2 fun y hy => ?_)
      cases hyd : y.g.d with
      | none => rfl
      | some d =>
        simp only [Bool.not_eq_true']
        cases hb2 : Nat.beq d i with
        | false => rfl
        | true => exact absurd (by rw [hyd, Nat.eq_of_beq_eq_true hb2]) (hno y hy)
def chkO (l : List It) : Bool := okI 0 l && (okD l && okN l)
theorem Cx.ord {l : List It} {e : En} {d : C} {K : Kx} (hc : chkO l = true) (h : Ev P N (fun fin L => Cx P N d fin K L) l [] (e.clear l) L) : Cx P N (.rd l) e (Ksq P N d K) L := by
 simp only [chkO, Bool.and_eq_true] at hc
 refine Cx.rd ?_
 refine ev_run (Kf := Krg (Ksq P N d K)) hc.1 hc.2.1 hc.2.2 (fun e e' L hs hk => Cx.less hs hk) l.length l [] (e.clear l) L h [] l e rfl (fun _ h => h) (fun x => by simp) (fun _ h => by cases h) (fun _ h => by cases h) (fun y hy d hyd => ?_) (fun t u ht _ => clear_sub ht)
 cases hg : (e.clear l).get d with
 | none => rfl
 | some u => exact absurd hyd ((clear_get hg).1 y hy)
section
variable {Kf : En → St → Prop} {e : En} {rem rem' : List It} {ms : List (Nat × (St → Prop))} {i ds : Nat} {rs : List Nat} {d : Option Nat} {g : Option (Nat × Bool)}
theorem Sc_step {x : It} {v : Value} (h : stepM x e = some v) : ∀ L e', sub (e.only x.rs) e' → Sc P N x.g e' v L := by
 intro L e' hs
 obtain ⟨i, ds, rs, d, g, s⟩ := x
 unfold stepM at h
 simp only at h hs
 cases hg : gon (e.only rs) g with
 | true =>
   rw [hg, cond_true] at h
   cases hp : plainP s with
   | false => rw [hp] at h; cases h
   | true =>
     rw [hp, cond_true] at h
     split at h
     ·rename_i φ u hu
      cases h
      exact .gon hg hs (.pv hu (plainP_pv hp hu) hs)
     ·cases h
 | false =>
   rw [hg, cond_false] at h
   split at h
   ·rename_i t b
    cases hb : offs (e.only rs) t b with
    | true =>
      rw [hb, cond_true] at h; cases h
      refine fun K k => Sx.off (t := t) (b := b) ?_ (Sx.nil k)
      unfold offs at hb ⊢
      cases h1 : (e.only rs).get t with
      | none => rw [h1] at hb; simp at hb
      | some u => rw [hs _ _ h1]; rw [h1] at hb; exact hb
    | false => rw [hb] at h; cases h
   ·cases h
theorem Ev.done {c : C} {K : Kx} (h : Cx P N c e K L) : Ev P N (fun fin L => Cx P N c fin K L) [] ms e L := .nil h
theorem Ev.stp {x : It} {v : Value} (hx : x ∈ rem) (h : stepM x e = some v) (k : Ev P N Kf (without rem x.i) ms (e.put x.g.d v) L) : Ev P N Kf rem ms e L := .free x hx v (Sc_step h) k
def scanE : Nat → Nat → List It → En → Option (List It × En)
 | 0, _, _, _ => none
 | n + 1, j, rem, e => match rem[j]? with
   | some x => match stepM x e with
     | some v => match scanE n j (without rem x.i) (e.put x.g.d v) with
       | some q => some q
       | none => some (without rem x.i, e.put x.g.d v)
     | none => scanE n (j + 1) rem e
   | none => none
theorem Ev.pvs : ∀ {n j : Nat} {rem rem' : List It} {e e' : En}, scanE n j rem e = some (rem', e') → Ev P N Kf rem' ms e' L → Ev P N Kf rem ms e L
 | 0, _, _, _, _, _, h, _ => by cases h
 | n + 1, j, rem, rem', e, e', h, k => by
   simp only [scanE] at h
   split at h
   ·rename_i x hx
    split at h
    ·rename_i v hv
     split at h
     ·rename_i q hq
      cases h
      exact Ev.stp (List.mem_of_getElem? hx) hv (Ev.pvs hq k)
     ·cases h
      exact Ev.stp (List.mem_of_getElem? hx) hv k
    ·exact Ev.pvs h k
   ·cases h
end
end
end Go.Proofs.YtflalhdofhobmaaGreat


namespace Go.Proofs.YtflalhdofhobmaaGreat
open Go
set_option maxRecDepth 100000
def c6 : Fu := ⟨245, [.t 4], (.sq (.rg [⟨some 4, none, .mv (.c (.bool false))⟩]) (.sq (.rg [⟨some 26, none, .ca 12 []⟩, ⟨some 5, none, .mv (.t 26)⟩]) (.sq (.sq (.rg [⟨some 27, none, .mv (.t 5)⟩, ⟨some 28, none, .nt (.t 27)⟩]) (.cd (.t 28) (.sq (.rg [⟨some 4, none, .mv (.c (.bool false))⟩]) .rt) .sk)) (.sq (.sq (.rg [⟨some 29, none, .mv (.t 1)⟩, ⟨some 30, none, .len (.t 29)⟩, ⟨some 31, none, .ib .gtr (.t 30) (.c (.int .i64 200))⟩]) (.cd (.t 31) (.sq (.rg [⟨some 32, none, .mv (.t 5)⟩, ⟨some 4, none, .mv (.t 32)⟩]) .rt) .sk)) (.sq (.rg [⟨some 33, none, .mv (.t 0)⟩, ⟨some 34, none, .ca 13 [.t 33]⟩, ⟨some 6, none, .al 24 [.int .i64 0, .int .i64 0, .int .i64 0, .int .i64 0, .int .i64 0, .int .i64 0]⟩, ⟨none, none, .st (.t 6) (.t 34) 6⟩]) (.sq (.rg [⟨some 35, none, .fa (.t 6) 3⟩, ⟨none, none, .st (.t 35) (.c (.int .i64 2)) 1⟩]) (.sq (.rg [⟨some 36, none, .ld (.t 6) 6 true⟩, ⟨some 37, none, .ca 14 [.t 36]⟩, ⟨some 7, none, .mv (.t 37)⟩]) (.sq (.sq (.rg [⟨some 38, none, .mv (.t 7)⟩, ⟨some 39, none, .en 0 false (.t 38) (.c (.pointer none))⟩]) (.cd (.t 39) (.sq (.rg [⟨some 4, none, .mv (.c (.bool false))⟩]) .rt) .sk)) (.sq (.rg [⟨some 8, none, .al 71 [.int .i64 0, .int .i64 0]⟩, ⟨some 9, none, .al 71 [.int .i64 0, .int .i64 0]⟩]) (.sq (.sq (.rg [⟨some 10, none, .mv (.c (.int .i64 0))⟩]) (.bl 0 (.lp (.sq (.sq (.rg [⟨some 40, none, .mv (.t 10)⟩, ⟨some 41, none, .ib .lss (.t 40) (.c (.int .i64 2))⟩]) (.cd (.t 41) .sk (.ex 0))) (.sq (.bl 1 (.sq (.rg [⟨some 45, none, .mv (.t 7)⟩, ⟨some 46, none, .mv (.t 0)⟩, ⟨some 47, none, .ib .quo (.t 46) (.c (.int .i64 7))⟩, ⟨some 48, none, .mv (.t 10)⟩, ⟨some 49, none, .ib .add (.t 47) (.t 48)⟩, ⟨some 50, none, .ca 25 [.t 45, .t 49]⟩, ⟨some 44, none, .mv (.t 50)⟩, ⟨some 51, none, .ex (.t 44) 0⟩, ⟨some 52, none, .ex (.t 44) 1⟩, ⟨some 53, none, .ex (.t 44) 2⟩, ⟨some 11, none, .mv (.t 51)⟩, ⟨some 12, none, .mv (.t 52)⟩, ⟨some 13, none, .mv (.t 53)⟩]) (.sq (.sq (.rg [⟨some 54, none, .mv (.t 13)⟩, ⟨some 55, none, .nt (.t 54)⟩]) (.cd (.t 55) (.sq (.rg [⟨some 4, none, .mv (.c (.bool false))⟩])
 .rt) .sk)) (.rg [⟨some 56, none, .mv (.t 10)⟩, ⟨some 57, none, .mv (.t 10)⟩, ⟨some 58, none, .mv (.t 11)⟩, ⟨some 59, none, .mv (.t 12)⟩, ⟨some 60, none, .iaa (.t 8) (.t 56) 2 1⟩, ⟨none, none, .st (.t 60) (.t 58) 1⟩, ⟨some 61, none, .iaa (.t 9) (.t 57) 2 1⟩, ⟨none, none, .st (.t 61) (.t 59) 1⟩])))) (.rg [⟨some 42, none, .mv (.t 10)⟩, ⟨some 43, none, .ib .add (.t 42) (.c (.int .i64 1))⟩, ⟨some 10, none, .mv (.t 43)⟩])))))) (.sq (.rg [⟨some 14, none, .al 59 [(.pointer none), (.pointer none), (.pointer none)]⟩]) (.sq (.rg [⟨some 15, none, .al 73 [(.pointer none), (.pointer none), (.pointer none)]⟩]) (.sq (.rg [⟨some 16, none, .mv (.c (.pointer none))⟩]) (.sq (.rg [⟨some 17, none, .mv (.c (.pointer none))⟩]) (.sq (.sq (.rg [⟨some 18, none, .mv (.c (.int .i64 0))⟩]) (.bl 2 (.lp (.sq (.sq (.rg [⟨some 62, none, .mv (.t 18)⟩, ⟨some 63, none, .mv (.t 1)⟩, ⟨some 64, none, .len (.t 63)⟩, ⟨some 65, none, .ib .lss (.t 62) (.t 64)⟩]) (.cd (.t 65) .sk (.ex 2))) (.sq (.bl 3 (.sq (.rd [⟨0, 0, [1], ⟨some 68, none, .mv (.t 1)⟩⟩, ⟨1, 0, [18], ⟨some 69, none, .mv (.t 18)⟩⟩, ⟨2, 3, [68, 69], ⟨some 70, none, .ia (.t 68) (.t 69) 1⟩⟩, ⟨3, 7, [70], ⟨some 71, none, .ld (.t 70) 1 false⟩⟩, ⟨4, 15, [71], ⟨some 72, none, .ca 16 [.t 71, (.c (.int .i64 13))]⟩⟩, ⟨5, 31, [72], ⟨some 73, none, .ib .quo (.t 72) (.c (.int .i64 4))⟩⟩, ⟨6, 0, [1], ⟨some 74, none, .mv (.t 1)⟩⟩, ⟨7, 0, [18], ⟨some 75, none, .mv (.t 18)⟩⟩, ⟨8, 192, [74, 75], ⟨some 76, none, .ia (.t 74) (.t 75) 1⟩⟩, ⟨9, 448, [76], ⟨some 77, none, .ld (.t 76) 1 false⟩⟩, ⟨10, 960, [77], ⟨some 78, none, .ib .quo (.t 77) (.c (.int .i64 13))⟩⟩, ⟨11, 2015, [78], ⟨some 79, none, .ca 16 [.t 78, (.c (.int .i64 60))]⟩⟩, ⟨12, 4095, [73], ⟨some 19, none, .mv (.t 73)⟩⟩, ⟨13, 8191, [79], ⟨some 20, none, .mv (.t 79)⟩⟩]) (.sq (.bl 4 (.sq (.rg [⟨some 108, none, .mv (.t 19)⟩, ⟨some 109, none, .ib .eql (.t 108) (.c (.int .i64 3))⟩, ⟨some 110, none, .mv (.t 109)⟩, ⟨some 111, some (110, true), .mv (.t 16)⟩, ⟨some 112, some (110, true), .en 0 true (.t 111) (.c (.pointer none))⟩,
  ⟨some 113, none, .pk (.t 110) (.t 112) (.c (.bool false))⟩, ⟨some 107, none, .mv (.t 113)⟩]) (.cd (.t 107) (.sq (.rd [⟨0, 0, [16], ⟨some 114, none, .mv (.t 16)⟩⟩, ⟨1, 1, [114], ⟨some 115, none, .ca 32 [.t 114]⟩⟩, ⟨2, 0, [17], ⟨some 116, none, .mv (.t 17)⟩⟩, ⟨3, 7, [116], ⟨some 117, none, .ca 33 [.t 116]⟩⟩, ⟨4, 15, [115, 117], ⟨some 118, none, .bb true (.t 115) (.t 117)⟩⟩, ⟨5, 31, [118], ⟨some 119, none, .mv (.t 118)⟩⟩, ⟨6, 63, [16, 119], ⟨some 120, some (119, false), .mv (.t 16)⟩⟩, ⟨7, 127, [120, 119], ⟨some 121, some (119, false), .ca 34 [.t 120]⟩⟩, ⟨8, 63, [17, 119], ⟨some 122, some (119, false), .mv (.t 17)⟩⟩, ⟨9, 319, [122, 119], ⟨some 123, some (119, false), .nc (.t 122)⟩⟩, ⟨10, 831, [123, 119], ⟨some 124, some (119, false), .fa (.t 123) 9⟩⟩, ⟨11, 1855, [124, 119], ⟨some 125, some (119, false), .ld (.t 124) 1 false⟩⟩, ⟨12, 4095, [121, 125, 119], ⟨some 126, some (119, false), .bb true (.t 121) (.t 125)⟩⟩, ⟨13, 8191, [119, 126], ⟨some 127, none, .pk (.t 119) (.c (.bool true)) (.t 126)⟩⟩]) (.cd (.t 127) (.sq (.rg [⟨some 4, none, .mv (.c (.bool false))⟩]) .rt) .sk)) (.sq (.rg [⟨some 129, none, .mv (.t 19)⟩, ⟨some 130, none, .ib .eql (.t 129) (.c (.int .i64 3))⟩, ⟨some 131, none, .mv (.t 130)⟩, ⟨some 132, some (131, true), .mv (.t 20)⟩, ⟨some 133, some (131, true), .ib .lss (.t 132) (.c (.int .i64 8))⟩, ⟨some 134, none, .pk (.t 131) (.t 133) (.c (.bool false))⟩, ⟨some 128, none, .mv (.t 134)⟩]) (.cd (.t 128) (.sq (.rd [⟨0, 0, [7], ⟨some 136, none, .mv (.t 7)⟩⟩, ⟨1, 1, [136], ⟨some 137, none, .nc (.t 136)⟩⟩, ⟨2, 3, [137], ⟨some 138, none, .fa (.t 137) 7⟩⟩, ⟨3, 7, [138], ⟨some 139, none, .ld (.t 138) 1 false⟩⟩, ⟨4, 0, [20], ⟨some 140, none, .mv (.t 20)⟩⟩, ⟨5, 16, [140], ⟨some 141, none, .ib .rem (.t 140) (.c (.int .i64 2))⟩⟩, ⟨6, 48, [8, 141], ⟨some 142, none, .iaa (.t 8) (.t 141) 2 1⟩⟩, ⟨7, 112, [142], ⟨some 143, none, .ld (.t 142) 1 false⟩⟩, ⟨8, 0, [20], ⟨some 144, none, .mv (.t 20)⟩⟩, ⟨9, 256, [144], ⟨some 145, none, .ib .rem (.t 144) (.c (.int .i64 2))⟩⟩, ⟨10, 768, [9, 145], ⟨some 146, none, .iaa (.t 9) (.t 145) 2 1⟩⟩,
  ⟨11, 1792, [146], ⟨some 147, none, .ld (.t 146) 1 false⟩⟩, ⟨12, 4095, [139, 143, 147], ⟨some 148, none, .ca 35 [.t 139, .t 143, .t 147]⟩⟩, ⟨13, 8191, [148], ⟨some 135, none, .mv (.t 148)⟩⟩, ⟨14, 16383, [135], ⟨some 149, none, .ex (.t 135) 0⟩⟩, ⟨15, 16383, [135], ⟨some 150, none, .ex (.t 135) 1⟩⟩, ⟨16, 32767, [149], ⟨some 21, none, .mv (.t 149)⟩⟩, ⟨17, 131071, [150], ⟨some 22, none, .mv (.t 150)⟩⟩]) (.sq (.sq (.rg [⟨some 151, none, .mv (.t 21)⟩, ⟨some 152, none, .en 0 false (.t 151) (.c (.pointer none))⟩, ⟨some 153, none, .mv (.t 152)⟩, ⟨some 154, some (153, false), .mv (.t 22)⟩, ⟨some 155, some (153, false), .ib .neq (.t 154) (.c (.int .i64 0))⟩, ⟨some 156, none, .pk (.t 153) (.c (.bool true)) (.t 155)⟩]) (.cd (.t 156) (.sq (.rg [⟨some 4, none, .mv (.c (.bool false))⟩]) .rt) .sk)) (.rd [⟨0, 0, [21], ⟨some 157, none, .mv (.t 21)⟩⟩, ⟨1, 0, [7], ⟨some 158, none, .mv (.t 7)⟩⟩, ⟨2, 2, [158], ⟨some 159, none, .nc (.t 158)⟩⟩, ⟨3, 6, [159], ⟨some 160, none, .fa (.t 159) 11⟩⟩, ⟨4, 14, [160], ⟨some 161, none, .ld (.t 160) 1 false⟩⟩, ⟨5, 0, [20], ⟨some 162, none, .mv (.t 20)⟩⟩, ⟨6, 32, [162], ⟨some 163, none, .ib .rem (.t 162) (.c (.int .i64 2))⟩⟩, ⟨7, 96, [8, 163], ⟨some 164, none, .iaa (.t 8) (.t 163) 2 1⟩⟩, ⟨8, 224, [164], ⟨some 165, none, .ld (.t 164) 1 false⟩⟩, ⟨9, 0, [20], ⟨some 166, none, .mv (.t 20)⟩⟩, ⟨10, 512, [166], ⟨some 167, none, .ib .rem (.t 166) (.c (.int .i64 2))⟩⟩, ⟨11, 1536, [9, 167], ⟨some 168, none, .iaa (.t 9) (.t 167) 2 1⟩⟩, ⟨12, 3584, [168], ⟨some 169, none, .ld (.t 168) 1 false⟩⟩, ⟨13, 8190, [161, 165, 169], ⟨some 170, none, .ca 36 [.t 161, .t 165, .t 169]⟩⟩, ⟨14, 16383, [157], ⟨some 16, none, .mv (.t 157)⟩⟩, ⟨15, 32767, [170], ⟨some 17, none, .mv (.t 170)⟩⟩]))) (.sq (.rg [⟨some 172, none, .mv (.t 19)⟩, ⟨some 173, none, .ib .eql (.t 172) (.c (.int .i64 3))⟩, ⟨some 171, none, .mv (.t 173)⟩]) (.cd (.t 171) (.ex 3) (.sq (.rg [⟨some 175, none, .mv (.t 19)⟩, ⟨some 176, none, .iaa (.t 14) (.t 175) 3 1⟩, ⟨some 177, none, .ld (.t 176) 1 false⟩, ⟨some 178, none, .en 0 false (.t 177) (.c (.pointer none))⟩,
  ⟨some 174, none, .mv (.t 178)⟩]) (.cd (.t 174) (.sq (.rg [⟨some 179, none, .mv (.t 20)⟩, ⟨some 180, none, .ib .quo (.t 179) (.c (.int .i64 2))⟩, ⟨some 181, none, .fa (.t 6) 2⟩, ⟨some 182, none, .ld (.t 181) 1 false⟩, ⟨some 183, none, .ib .rem (.t 180) (.t 182)⟩, ⟨some 184, none, .ib .add (.c (.int .i64 1)) (.t 183)⟩, ⟨some 23, none, .mv (.t 184)⟩]) (.sq (.rd [⟨0, 0, [7], ⟨some 186, none, .mv (.t 7)⟩⟩, ⟨1, 1, [186], ⟨some 187, none, .nc (.t 186)⟩⟩, ⟨2, 3, [187], ⟨some 188, none, .fa (.t 187) 8⟩⟩, ⟨3, 7, [188], ⟨some 189, none, .ld (.t 188) 1 false⟩⟩, ⟨4, 0, [7], ⟨some 190, none, .mv (.t 7)⟩⟩, ⟨5, 16, [190], ⟨some 191, none, .nc (.t 190)⟩⟩, ⟨6, 48, [191], ⟨some 192, none, .fa (.t 191) 10⟩⟩, ⟨7, 112, [192], ⟨some 193, none, .ld (.t 192) 1 false⟩⟩, ⟨8, 0, [19], ⟨some 194, none, .mv (.t 19)⟩⟩, ⟨9, 496, [193, 194], ⟨some 195, none, .ia (.t 193) (.t 194) 1⟩⟩, ⟨10, 1008, [195], ⟨some 196, none, .ld (.t 195) 1 false⟩⟩, ⟨11, 0, [20], ⟨some 197, none, .mv (.t 20)⟩⟩, ⟨12, 2048, [197], ⟨some 198, none, .ib .rem (.t 197) (.c (.int .i64 2))⟩⟩, ⟨13, 6144, [8, 198], ⟨some 199, none, .iaa (.t 8) (.t 198) 2 1⟩⟩, ⟨14, 14336, [199], ⟨some 200, none, .ld (.t 199) 1 false⟩⟩, ⟨15, 0, [20], ⟨some 201, none, .mv (.t 20)⟩⟩, ⟨16, 32768, [201], ⟨some 202, none, .ib .rem (.t 201) (.c (.int .i64 2))⟩⟩, ⟨17, 98304, [9, 202], ⟨some 203, none, .iaa (.t 9) (.t 202) 2 1⟩⟩, ⟨18, 229376, [203], ⟨some 204, none, .ld (.t 203) 1 false⟩⟩, ⟨19, 0, [23], ⟨some 205, none, .mv (.t 23)⟩⟩, ⟨20, 1048575, [189, 196, 200, 204, 205], ⟨some 206, none, .ca 19 [.t 189, .t 196, .t 200, .t 204, .t 205]⟩⟩, ⟨21, 2097151, [206], ⟨some 185, none, .mv (.t 206)⟩⟩, ⟨22, 4194303, [185], ⟨some 207, none, .ex (.t 185) 0⟩⟩, ⟨23, 4194303, [185], ⟨some 208, none, .ex (.t 185) 1⟩⟩, ⟨24, 8388607, [207], ⟨some 24, none, .mv (.t 207)⟩⟩, ⟨25, 33554431, [208], ⟨some 25, none, .mv (.t 208)⟩⟩]) (.sq (.sq (.rg [⟨some 209, none, .mv (.t 24)⟩, ⟨some 210, none, .en 0 false (.t 209) (.c (.pointer none))⟩, ⟨some 211, none, .mv (.t 210)⟩, ⟨some 212, some (211, false), .mv (.t 25)⟩,
  ⟨some 213, some (211, false), .ib .neq (.t 212) (.c (.int .i64 0))⟩, ⟨some 214, none, .pk (.t 211) (.c (.bool true)) (.t 213)⟩, ⟨some 215, none, .mv (.t 214)⟩, ⟨some 216, some (215, false), .mv (.t 24)⟩, ⟨some 217, some (215, false), .ca 27 [.t 216]⟩, ⟨some 218, none, .pk (.t 215) (.c (.bool true)) (.t 217)⟩]) (.cd (.t 218) (.sq (.rg [⟨some 4, none, .mv (.c (.bool false))⟩]) .rt) .sk)) (.rd [⟨0, 0, [19], ⟨some 219, none, .mv (.t 19)⟩⟩, ⟨1, 0, [19], ⟨some 220, none, .mv (.t 19)⟩⟩, ⟨2, 0, [24], ⟨some 221, none, .mv (.t 24)⟩⟩, ⟨3, 0, [7], ⟨some 222, none, .mv (.t 7)⟩⟩, ⟨4, 8, [222], ⟨some 223, none, .nc (.t 222)⟩⟩, ⟨5, 24, [223], ⟨some 224, none, .fa (.t 223) 12⟩⟩, ⟨6, 56, [224], ⟨some 225, none, .ld (.t 224) 1 false⟩⟩, ⟨7, 0, [19], ⟨some 226, none, .mv (.t 19)⟩⟩, ⟨8, 248, [225, 226], ⟨some 227, none, .ia (.t 225) (.t 226) 1⟩⟩, ⟨9, 504, [227], ⟨some 228, none, .ld (.t 227) 1 false⟩⟩, ⟨10, 0, [20], ⟨some 229, none, .mv (.t 20)⟩⟩, ⟨11, 1024, [229], ⟨some 230, none, .ib .rem (.t 229) (.c (.int .i64 2))⟩⟩, ⟨12, 3072, [8, 230], ⟨some 231, none, .iaa (.t 8) (.t 230) 2 1⟩⟩, ⟨13, 7168, [231], ⟨some 232, none, .ld (.t 231) 1 false⟩⟩, ⟨14, 0, [20], ⟨some 233, none, .mv (.t 20)⟩⟩, ⟨15, 16384, [233], ⟨some 234, none, .ib .rem (.t 233) (.c (.int .i64 2))⟩⟩, ⟨16, 49152, [9, 234], ⟨some 235, none, .iaa (.t 9) (.t 234) 2 1⟩⟩, ⟨17, 114688, [235], ⟨some 236, none, .ld (.t 235) 1 false⟩⟩, ⟨18, 0, [23], ⟨some 237, none, .mv (.t 23)⟩⟩, ⟨19, 524280, [228, 232, 236, 237], ⟨some 238, none, .ca 37 [.t 228, .t 232, .t 236, .t 237]⟩⟩, ⟨20, 5, [14, 219], ⟨some 239, none, .iaa (.t 14) (.t 219) 3 1⟩⟩, ⟨21, 2097149, [239, 221], ⟨none, none, .st (.t 239) (.t 221) 1⟩⟩, ⟨22, 4194303, [15, 220], ⟨some 240, none, .iaa (.t 15) (.t 220) 3 1⟩⟩, ⟨23, 8388607, [240, 238], ⟨none, none, .st (.t 240) (.t 238) 1⟩⟩])))) (.sq (.sq (.rd [⟨0, 0, [19], ⟨some 80, none, .mv (.t 19)⟩⟩, ⟨1, 1, [14, 80], ⟨some 81, none, .iaa (.t 14) (.t 80) 3 1⟩⟩, ⟨2, 3, [81], ⟨some 82, none, .ld (.t 81) 1 false⟩⟩, ⟨3, 7, [82], ⟨some 83, none, .ca 26 [.t 82]⟩⟩,
  ⟨4, 0, [19], ⟨some 84, none, .mv (.t 19)⟩⟩, ⟨5, 16, [15, 84], ⟨some 85, none, .iaa (.t 15) (.t 84) 3 1⟩⟩, ⟨6, 48, [85], ⟨some 86, none, .ld (.t 85) 1 false⟩⟩, ⟨7, 127, [86], ⟨some 87, none, .ca 38 [.t 86]⟩⟩, ⟨8, 255, [83, 87], ⟨some 88, none, .bb true (.t 83) (.t 87)⟩⟩, ⟨9, 511, [88], ⟨some 89, none, .mv (.t 88)⟩⟩, ⟨10, 1023, [19, 89], ⟨some 90, some (89, false), .mv (.t 19)⟩⟩, ⟨11, 2047, [14, 90, 89], ⟨some 91, some (89, false), .iaa (.t 14) (.t 90) 3 1⟩⟩, ⟨12, 4095, [91, 89], ⟨some 92, some (89, false), .ld (.t 91) 1 false⟩⟩, ⟨13, 1023, [19, 89], ⟨some 93, some (89, false), .mv (.t 19)⟩⟩, ⟨14, 9215, [15, 93, 89], ⟨some 94, some (89, false), .iaa (.t 15) (.t 93) 3 1⟩⟩, ⟨15, 25599, [94, 89], ⟨some 95, some (89, false), .ld (.t 94) 1 false⟩⟩, ⟨16, 65535, [92, 95, 89], ⟨some 96, some (89, false), .ca 39 [.t 92, .t 95]⟩⟩, ⟨17, 131071, [96, 89], ⟨some 97, some (89, false), .nt (.t 96)⟩⟩, ⟨18, 262143, [89, 97], ⟨some 98, none, .pk (.t 89) (.c (.bool true)) (.t 97)⟩⟩]) (.cd (.t 98) (.sq (.rg [⟨some 4, none, .mv (.c (.bool false))⟩]) .rt) .sk)) (.sq (.rg [⟨some 99, none, .mv (.t 19)⟩, ⟨some 100, none, .iaa (.t 15) (.t 99) 3 1⟩, ⟨some 101, none, .ld (.t 100) 1 false⟩, ⟨some 102, none, .nc (.t 101)⟩, ⟨some 103, none, .fa (.t 102) 20⟩, ⟨some 104, none, .ld (.t 103) 1 false⟩]) (.cd (.t 104) (.rg [⟨some 105, none, .mv (.t 19)⟩, ⟨some 106, none, .iaa (.t 14) (.t 105) 3 1⟩, ⟨none, none, .st (.t 106) (.c (.pointer none)) 1⟩]) .sk)))))))))))) (.sq (.rg [⟨some 241, none, .mv (.t 7)⟩, ⟨some 242, none, .ca 40 [.t 241]⟩, ⟨some 243, none, .nt (.t 242)⟩]) (.cd (.t 243) (.sq (.rg [⟨some 4, none, .mv (.c (.bool false))⟩]) .rt) .sk))))) (.rg [⟨some 66, none, .mv (.t 18)⟩, ⟨some 67, none, .ib .add (.t 66) (.c (.int .i64 1))⟩, ⟨some 18, none, .mv (.t 67)⟩])))))) (.sq (.rg [⟨some 244, none, .mv (.t 5)⟩, ⟨some 4, none, .mv (.t 244)⟩]) .rt))))))))))))))))⟩
theorem k6 : cF Tryz.prog Tryz.f6 = some c6 := by kernel_rfl
def c12 : Fu := ⟨54, [.t 0], (.sq (.rg [⟨some 0, none, .mv (.c (.bool false))⟩]) (.sq (.rg [⟨some 7, none, .bd [.int .i64 0, .int .i64 0, .int .i64 0, .int .i64 0, .int .i64 0, .int .i64 0] [(0, 1, (.c (.int .i64 1))), (1, 1, (.c (.int .i64 2))), (2, 1, (.c (.int .i64 8))), (3, 1, (.c (.int .i64 1))), (4, 1, (.c (.int .i64 1))), (5, 1, (.c (.int .i64 1)))]⟩, ⟨some 8, none, .ca 14 [.t 7]⟩, ⟨some 1, none, .mv (.t 8)⟩]) (.sq (.sq (.rg [⟨some 9, none, .mv (.t 1)⟩, ⟨some 10, none, .en 0 false (.t 9) (.c (.pointer none))⟩]) (.cd (.t 10) (.sq (.rg [⟨some 0, none, .mv (.c (.bool false))⟩]) .rt) .sk)) (.sq (.rg [⟨some 12, none, .mv (.t 1)⟩, ⟨some 13, none, .ca 25 [.t 12, (.c (.int .i64 0))]⟩, ⟨some 11, none, .mv (.t 13)⟩, ⟨some 14, none, .ex (.t 11) 0⟩, ⟨some 15, none, .ex (.t 11) 1⟩, ⟨some 16, none, .ex (.t 11) 2⟩, ⟨some 2, none, .mv (.t 14)⟩, ⟨some 3, none, .mv (.t 15)⟩, ⟨some 4, none, .mv (.t 16)⟩]) (.sq (.sq (.rg [⟨some 17, none, .mv (.t 4)⟩, ⟨some 18, none, .nt (.t 17)⟩]) (.cd (.t 18) (.sq (.rg [⟨some 0, none, .mv (.c (.bool false))⟩]) .rt) .sk)) (.sq (.rg [⟨some 20, none, .mv (.t 1)⟩, ⟨some 21, none, .mv (.t 2)⟩, ⟨some 22, none, .mv (.t 3)⟩, ⟨some 23, none, .ca 20 [.t 20, (.c (.int .i64 0)), .t 21, .t 22, (.c (.int .i64 3))]⟩, ⟨some 19, none, .mv (.t 23)⟩, ⟨some 24, none, .ex (.t 19) 0⟩, ⟨some 25, none, .ex (.t 19) 1⟩, ⟨some 5, none, .mv (.t 24)⟩, ⟨some 6, none, .mv (.t 25)⟩]) (.sq (.rg [⟨some 26, none, .mv (.t 5)⟩, ⟨some 27, none, .en 0 true (.t 26) (.c (.pointer none))⟩, ⟨some 28, none, .mv (.t 27)⟩, ⟨some 29, some (28, true), .mv (.t 6)⟩, ⟨some 30, some (28, true), .ib .eql (.t 29) (.c (.int .i64 14))⟩, ⟨some 31, none, .pk (.t 28) (.t 30) (.c (.bool false))⟩, ⟨some 32, none, .mv (.t 31)⟩, ⟨some 33, some (32, true), .mv (.t 5)⟩, ⟨some 34, some (32, true), .ca 27 [.t 33]⟩, ⟨some 35, none, .pk (.t 32) (.t 34) (.c (.bool false))⟩, ⟨some 36, none, .mv (.t 35)⟩, ⟨some 37, some (36, true), .mv (.t 5)⟩, ⟨some 38, some (36, true), .ca 21 [.t 37]⟩, ⟨some 39, some (36, true), .ib .eql (.t 38) (.c (.int .i64 0))⟩,
  ⟨some 40, none, .pk (.t 36) (.t 39) (.c (.bool false))⟩, ⟨some 41, none, .mv (.t 40)⟩, ⟨some 42, some (41, true), .mv (.t 5)⟩, ⟨some 43, some (41, true), .ca 28 [.t 42]⟩, ⟨some 44, some (41, true), .mv (.t 2)⟩, ⟨some 45, some (41, true), .mv (.t 3)⟩, ⟨some 46, some (41, true), .bd [.int .i64 0, .int .i64 0, .int .i64 0, .int .i64 0, .int .i64 0] [(0, 1, (.t 44)), (1, 1, (.t 45)), (2, 1, (.c (.int .i64 0))), (4, 1, (.c (.int .i64 3)))]⟩, ⟨some 47, some (41, true), .es 5 false (.t 43) (.t 46)⟩, ⟨some 48, none, .pk (.t 41) (.t 47) (.c (.bool false))⟩, ⟨some 49, none, .mv (.t 48)⟩, ⟨some 50, some (49, true), .mv (.t 5)⟩, ⟨some 51, some (49, true), .ca 22 [.t 50]⟩, ⟨some 52, some (49, true), .ib .eql (.t 51) (.c (.int .i64 14))⟩, ⟨some 53, none, .pk (.t 49) (.t 52) (.c (.bool false))⟩, ⟨some 0, none, .mv (.t 53)⟩]) .rt)))))))⟩
theorem k12 : cF Tryz.prog Tryz.f12 = some c12 := by kernel_rfl
def c13 : Fu := ⟨43, [.c 2 6 true], (.sq (.rg [⟨some 2, none, .al 24 [.int .i64 0, .int .i64 0, .int .i64 0, .int .i64 0, .int .i64 0, .int .i64 0]⟩]) (.sq (.rg [⟨some 4, none, .mv (.t 0)⟩, ⟨some 5, none, .ca 16 [.t 4, (.c (.int .i64 4))]⟩, ⟨some 6, none, .mv (.t 0)⟩, ⟨some 7, none, .ib .quo (.t 6) (.c (.int .i64 4))⟩, ⟨some 8, none, .ca 16 [.t 7, (.c (.int .i64 8))]⟩, ⟨some 9, none, .mv (.t 0)⟩, ⟨some 10, none, .ib .quo (.t 9) (.c (.int .i64 32))⟩, ⟨some 11, none, .ca 16 [.t 10, (.c (.int .i64 2))]⟩, ⟨some 12, none, .mv (.t 0)⟩, ⟨some 13, none, .ib .quo (.t 12) (.c (.int .i64 64))⟩, ⟨some 14, none, .ca 16 [.t 13, (.c (.int .i64 4))]⟩, ⟨some 15, none, .mv (.t 0)⟩, ⟨some 16, none, .ib .quo (.t 15) (.c (.int .i64 256))⟩, ⟨some 17, none, .ca 16 [.t 16, (.c (.int .i64 4))]⟩, ⟨some 18, none, .mv (.t 0)⟩, ⟨some 19, none, .ib .quo (.t 18) (.c (.int .i64 1024))⟩, ⟨some 20, none, .ca 16 [.t 19, (.c (.int .i64 3))]⟩, ⟨some 21, none, .bs 3 6 [.int .i64 0, .int .i64 0, .int .i64 0, .int .i64 0, .int .i64 0, .int .i64 0] [(0, 1, (.t 5)), (1, 1, (.t 8)), (2, 1, (.t 11)), (3, 1, (.t 14)), (4, 1, (.t 17)), (5, 1, (.t 20))]⟩, ⟨some 22, none, .bd [(.slice none 0 0), .int .i64 0] [(0, 1, (.t 21))]⟩, ⟨some 23, none, .bx 125 (.t 22)⟩, ⟨some 3, none, .mv (.t 23)⟩]) (.sq (.rg [⟨some 24, none, .mv (.t 3)⟩, ⟨some 25, none, .ca 68 [.t 24, (.c (.int .i64 4))]⟩, ⟨some 26, none, .ib .add (.c (.int .i64 1)) (.t 25)⟩, ⟨some 27, none, .mv (.t 3)⟩, ⟨some 28, none, .ca 68 [.t 27, (.c (.int .i64 8))]⟩, ⟨some 29, none, .ib .add (.c (.int .i64 1)) (.t 28)⟩, ⟨some 30, none, .mv (.t 3)⟩, ⟨some 31, none, .ca 68 [.t 30, (.c (.int .i64 2))]⟩, ⟨some 32, none, .ib .mul (.c (.int .i64 8)) (.t 31)⟩, ⟨some 33, none, .ib .add (.c (.int .i64 8)) (.t 32)⟩, ⟨some 34, none, .mv (.t 3)⟩, ⟨some 35, none, .ca 68 [.t 34, (.c (.int .i64 4))]⟩, ⟨some 36, none, .ib .add (.c (.int .i64 1)) (.t 35)⟩, ⟨some 37, none, .mv (.t 3)⟩, ⟨some 38, none, .ca 68 [.t 37, (.c (.int .i64 4))]⟩, ⟨some 39, none, .mv (.t 3)⟩, ⟨some 40, none, .ca 68 [.t 39, (.c (.int .i64 3))]⟩,
  ⟨some 41, none, .ib .add (.c (.int .i64 1)) (.t 40)⟩, ⟨some 42, none, .bd [.int .i64 0, .int .i64 0, .int .i64 0, .int .i64 0, .int .i64 0, .int .i64 0] [(0, 1, (.t 26)), (1, 1, (.t 29)), (2, 1, (.t 33)), (3, 1, (.t 36)), (4, 1, (.t 38)), (5, 1, (.t 41))]⟩, ⟨none, none, .st (.t 2) (.t 42) 6⟩]) .rt)))⟩
theorem k13 : cF Tryz.prog Tryz.f13 = some c13 := by kernel_rfl
def c14 : Fu := ⟨127, [.t 2], (.sq (.rg [⟨some 1, none, .bx 24 (.t 0)⟩, ⟨some 2, none, .mv (.c (.pointer none))⟩]) (.sq (.rg [⟨some 16, none, .ld (.t 1) 6 true⟩, ⟨some 17, none, .ca 17 [.t 16]⟩, ⟨some 18, none, .ca 15 [.t 17]⟩, ⟨some 15, none, .mv (.t 18)⟩, ⟨some 19, none, .ex (.t 15) 0⟩, ⟨some 20, none, .ex (.t 15) 1⟩, ⟨some 3, none, .mv (.t 19)⟩, ⟨some 4, none, .mv (.t 20)⟩]) (.sq (.sq (.rg [⟨some 21, none, .mv (.t 3)⟩, ⟨some 22, none, .en 0 false (.t 21) (.c (.pointer none))⟩, ⟨some 23, none, .mv (.t 22)⟩, ⟨some 24, some (23, false), .mv (.t 4)⟩, ⟨some 25, some (23, false), .ib .neq (.t 24) (.c (.int .i64 0))⟩, ⟨some 26, none, .pk (.t 23) (.c (.bool true)) (.t 25)⟩]) (.cd (.t 26) (.sq (.rg [⟨some 2, none, .mv (.c (.pointer none))⟩]) .rt) .sk)) (.sq (.rg [⟨some 28, none, .mv (.t 3)⟩, ⟨some 29, none, .ld (.t 1) 6 true⟩, ⟨some 30, none, .ca 69 [.t 28, .t 29]⟩, ⟨some 27, none, .mv (.t 30)⟩, ⟨some 31, none, .ex (.t 27) 0⟩, ⟨some 32, none, .ex (.t 27) 1⟩, ⟨some 5, none, .mv (.t 31)⟩, ⟨some 6, none, .mv (.t 32)⟩]) (.sq (.rg [⟨some 34, none, .mv (.t 3)⟩, ⟨some 35, none, .ld (.t 1) 6 true⟩, ⟨some 36, none, .ca 70 [.t 34, .t 35]⟩, ⟨some 33, none, .mv (.t 36)⟩, ⟨some 37, none, .ex (.t 33) 0⟩, ⟨some 38, none, .ex (.t 33) 1⟩, ⟨some 7, none, .mv (.t 37)⟩, ⟨some 8, none, .mv (.t 38)⟩]) (.sq (.rg [⟨some 40, none, .mv (.t 3)⟩, ⟨some 41, none, .ld (.t 1) 6 true⟩, ⟨some 42, none, .ca 18 [.t 40, .t 41]⟩, ⟨some 39, none, .mv (.t 42)⟩, ⟨some 43, none, .ex (.t 39) 0⟩, ⟨some 44, none, .ex (.t 39) 1⟩, ⟨some 9, none, .mv (.t 43)⟩, ⟨some 10, none, .mv (.t 44)⟩]) (.sq (.sq (.rg [⟨some 45, none, .mv (.t 5)⟩, ⟨some 46, none, .en 0 false (.t 45) (.c (.pointer none))⟩, ⟨some 47, none, .mv (.t 46)⟩, ⟨some 48, some (47, false), .mv (.t 6)⟩, ⟨some 49, some (47, false), .ib .neq (.t 48) (.c (.int .i64 0))⟩, ⟨some 50, none, .pk (.t 47) (.c (.bool true)) (.t 49)⟩, ⟨some 51, none, .mv (.t 50)⟩, ⟨some 52, some (51, false), .mv (.t 7)⟩, ⟨some 53, some (51, false), .en 0 false (.t 52) (.c (.pointer none))⟩,
  ⟨some 54, none, .pk (.t 51) (.c (.bool true)) (.t 53)⟩, ⟨some 55, none, .mv (.t 54)⟩, ⟨some 56, some (55, false), .mv (.t 8)⟩, ⟨some 57, some (55, false), .ib .neq (.t 56) (.c (.int .i64 0))⟩, ⟨some 58, none, .pk (.t 55) (.c (.bool true)) (.t 57)⟩, ⟨some 59, none, .mv (.t 58)⟩, ⟨some 60, some (59, false), .mv (.t 9)⟩, ⟨some 61, some (59, false), .en 0 false (.t 60) (.c (.pointer none))⟩, ⟨some 62, none, .pk (.t 59) (.c (.bool true)) (.t 61)⟩, ⟨some 63, none, .mv (.t 62)⟩, ⟨some 64, some (63, false), .mv (.t 10)⟩, ⟨some 65, some (63, false), .ib .neq (.t 64) (.c (.int .i64 0))⟩, ⟨some 66, none, .pk (.t 63) (.c (.bool true)) (.t 65)⟩, ⟨some 67, none, .mv (.t 66)⟩, ⟨some 68, some (67, false), .mv (.t 5)⟩, ⟨some 69, some (67, false), .ca 71 [.t 68]⟩, ⟨some 70, some (67, false), .en 0 false (.t 69) (.c (.pointer none))⟩, ⟨some 71, none, .pk (.t 67) (.c (.bool true)) (.t 70)⟩]) (.cd (.t 71) (.sq (.rg [⟨some 2, none, .mv (.c (.pointer none))⟩]) .rt) .sk)) (.sq (.rg [⟨some 72, none, .mv (.t 5)⟩, ⟨some 73, none, .ca 72 [.t 72]⟩]) (.sq (.rg [⟨some 74, none, .mv (.t 7)⟩, ⟨some 75, none, .ca 73 [.t 74]⟩]) (.sq (.rd [⟨0, 0, [1], ⟨some 76, none, .ld (.t 1) 6 true⟩⟩, ⟨1, 0, [3], ⟨some 77, none, .mv (.t 3)⟩⟩, ⟨2, 0, [7], ⟨some 78, none, .mv (.t 7)⟩⟩, ⟨3, 0, [9], ⟨some 79, none, .mv (.t 9)⟩⟩, ⟨4, 0, [5], ⟨some 80, none, .mv (.t 5)⟩⟩, ⟨5, 16, [80], ⟨some 81, none, .ca 71 [.t 80]⟩⟩, ⟨6, 0, [1], ⟨some 82, none, .ld (.t 1) 6 true⟩⟩, ⟨7, 112, [82], ⟨some 83, none, .ca 74 [.t 82]⟩⟩, ⟨8, 255, [76, 77, 78, 79, 81, 83], ⟨some 84, none, .bd [.int .i64 0, .int .i64 0, .int .i64 0, .int .i64 0, .int .i64 0, .int .i64 0, (.pointer none), (.pointer none), (.pointer none), (.pointer none), (.slice none 0 0), (.pointer none), (.slice none 0 0)] [(0, 6, (.t 76)), (6, 1, (.t 77)), (7, 1, (.t 78)), (8, 1, (.t 79)), (9, 1, (.t 81)), (11, 1, (.t 83))]⟩⟩, ⟨9, 511, [84], ⟨some 85, none, .bx 45 (.t 84)⟩⟩, ⟨10, 1023, [85], ⟨some 11, none, .mv (.t 85)⟩⟩]) (.sq (.sq (.rg [⟨some 12, none, .mv (.c (.int .i64 0))⟩])
 (.bl 0 (.lp (.sq (.sq (.rg [⟨some 86, none, .mv (.t 12)⟩, ⟨some 87, none, .ib .lss (.t 86) (.c (.int .i64 3))⟩]) (.cd (.t 87) .sk (.ex 0))) (.sq (.bl 1 (.sq (.rg [⟨some 91, none, .mv (.t 3)⟩, ⟨some 92, none, .ld (.t 1) 6 true⟩, ⟨some 93, none, .ca 75 [.t 91, .t 92]⟩, ⟨some 90, none, .mv (.t 93)⟩, ⟨some 94, none, .ex (.t 90) 0⟩, ⟨some 95, none, .ex (.t 90) 1⟩, ⟨some 13, none, .mv (.t 94)⟩, ⟨some 14, none, .mv (.t 95)⟩]) (.sq (.sq (.rg [⟨some 96, none, .mv (.t 13)⟩, ⟨some 97, none, .en 0 false (.t 96) (.c (.pointer none))⟩, ⟨some 98, none, .mv (.t 97)⟩, ⟨some 99, some (98, false), .mv (.t 14)⟩, ⟨some 100, some (98, false), .ib .neq (.t 99) (.c (.int .i64 0))⟩, ⟨some 101, none, .pk (.t 98) (.c (.bool true)) (.t 100)⟩]) (.cd (.t 101) (.sq (.rg [⟨some 2, none, .mv (.c (.pointer none))⟩]) .rt) .sk)) (.sq (.rg [⟨some 102, none, .mv (.t 11)⟩, ⟨some 103, none, .mv (.t 11)⟩, ⟨some 104, none, .nc (.t 103)⟩, ⟨some 105, none, .fa (.t 104) 10⟩, ⟨some 106, none, .ld (.t 105) 1 false⟩, ⟨some 107, none, .mv (.t 13)⟩, ⟨some 108, none, .bs 47 1 [(.pointer none)] [(0, 1, (.t 107))]⟩, ⟨some 109, none, .ap 41 47 1 8 [(.pointer none)] (.t 106) (.t 108)⟩, ⟨some 110, none, .nc (.t 102)⟩, ⟨some 111, none, .fa (.t 110) 10⟩, ⟨none, none, .st (.t 111) (.t 109) 1⟩]) (.rd [⟨0, 0, [11], ⟨some 112, none, .mv (.t 11)⟩⟩, ⟨1, 0, [11], ⟨some 113, none, .mv (.t 11)⟩⟩, ⟨2, 2, [113], ⟨some 114, none, .nc (.t 113)⟩⟩, ⟨3, 6, [114], ⟨some 115, none, .fa (.t 114) 12⟩⟩, ⟨4, 14, [115], ⟨some 116, none, .ld (.t 115) 1 false⟩⟩, ⟨5, 0, [11], ⟨some 117, none, .mv (.t 11)⟩⟩, ⟨6, 32, [117], ⟨some 118, none, .nc (.t 117)⟩⟩, ⟨7, 96, [118], ⟨some 119, none, .fa (.t 118) 11⟩⟩, ⟨8, 224, [119], ⟨some 120, none, .ld (.t 119) 1 false⟩⟩, ⟨9, 480, [120], ⟨some 121, none, .ca 76 [.t 120]⟩⟩, ⟨10, 992, [121], ⟨some 122, none, .bs 81 1 [(.pointer none)] [(0, 1, (.t 121))]⟩⟩, ⟨11, 2046, [116, 122], ⟨some 123, none, .ap 43 81 1 8 [(.pointer none)] (.t 116) (.t 122)⟩⟩, ⟨12, 4095, [112], ⟨some 124, none, .nc (.t 112)⟩⟩, ⟨13, 8191, [124], ⟨some 125, none, .fa (.t 124) 12⟩⟩,
  ⟨14, 16383, [125, 123], ⟨none, none, .st (.t 125) (.t 123) 1⟩⟩]))))) (.rg [⟨some 88, none, .mv (.t 12)⟩, ⟨some 89, none, .ib .add (.t 88) (.c (.int .i64 1))⟩, ⟨some 12, none, .mv (.t 89)⟩])))))) (.sq (.rg [⟨some 126, none, .mv (.t 11)⟩, ⟨some 2, none, .mv (.t 126)⟩]) .rt))))))))))))⟩
theorem k14 : cF Tryz.prog Tryz.f14 = some c14 := by kernel_rfl
def c15 : Fu := ⟨14, [.t 2, .t 3], (.sq (.rg [⟨some 2, none, .mv (.c (.pointer none))⟩, ⟨some 3, none, .mv (.c (.int .i64 0))⟩]) (.sq (.sq (.rg [⟨some 4, none, .mv (.t 0)⟩, ⟨some 5, none, .ib .lss (.t 4) (.c (.int .i64 1))⟩, ⟨some 6, none, .mv (.t 5)⟩, ⟨some 7, some (6, false), .mv (.t 0)⟩, ⟨some 8, some (6, false), .ib .gtr (.t 7) (.c (.int .i64 8388608))⟩, ⟨some 9, none, .pk (.t 6) (.c (.bool true)) (.t 8)⟩]) (.cd (.t 9) (.sq (.rg [⟨some 2, none, .mv (.c (.pointer none))⟩, ⟨some 3, none, .mv (.c (.int .i64 1))⟩]) .rt) .sk)) (.sq (.rg [⟨some 10, none, .mv (.t 0)⟩, ⟨some 11, none, .mk 56 1 8 [(.int .u64 0)] (.t 10) (.t 10)⟩, ⟨some 12, none, .bd [(.slice none 0 0), .int .i64 0, .int .i64 0, .int .i64 0, (.int .u64 0), (.int .u64 0), (.bool false)] [(0, 1, (.t 11))]⟩, ⟨some 13, none, .bx 139 (.t 12)⟩, ⟨some 2, none, .mv (.t 13)⟩, ⟨some 3, none, .mv (.c (.int .i64 0))⟩]) .rt)))⟩
theorem k15 : cF Tryz.prog Tryz.f15 = some c15 := by kernel_rfl
def c16 : Fu := ⟨15, [.t 4], (.sq (.rg [⟨some 4, none, .mv (.c (.int .i64 0))⟩]) (.sq (.rg [⟨some 6, none, .mv (.t 0)⟩, ⟨some 7, none, .mv (.t 1)⟩, ⟨some 8, none, .ib .rem (.t 6) (.t 7)⟩, ⟨some 5, none, .mv (.t 8)⟩]) (.sq (.sq (.rg [⟨some 9, none, .mv (.t 5)⟩, ⟨some 10, none, .ib .lss (.t 9) (.c (.int .i64 0))⟩]) (.cd (.t 10) (.rg [⟨some 11, none, .mv (.t 5)⟩, ⟨some 12, none, .mv (.t 1)⟩, ⟨some 13, none, .ib .add (.t 11) (.t 12)⟩, ⟨some 5, none, .mv (.t 13)⟩]) .sk)) (.sq (.rg [⟨some 14, none, .mv (.t 5)⟩, ⟨some 4, none, .mv (.t 14)⟩]) .rt))))⟩
theorem k16 : cF Tryz.prog Tryz.f16 = some c16 := by kernel_rfl
def c17 : Fu := ⟨17, [.t 2], (.sq (.rg [⟨some 1, none, .bx 24 (.t 0)⟩, ⟨some 2, none, .mv (.c (.int .i64 0))⟩]) (.sq (.sq (.rg [⟨some 5, none, .ld (.t 1) 6 true⟩, ⟨some 6, none, .ca 77 [.t 5]⟩, ⟨some 7, none, .nt (.t 6)⟩]) (.cd (.t 7) (.sq (.rg [⟨some 2, none, .mv (.c (.int .i64 0))⟩]) .rt) .sk)) (.sq (.rg [⟨some 8, none, .ld (.t 1) 6 true⟩, ⟨some 9, none, .ca 78 [.t 8]⟩, ⟨some 3, none, .al 143 [.int .i64 0, .int .i64 0, .int .i64 0, .int .i64 0, .int .i64 0, .int .i64 0, .int .i64 0, .int .i64 0, .int .i64 0, .int .i64 0, .int .i64 0, .int .i64 0, .int .i64 0, .int .i64 0, .int .i64 0]⟩, ⟨none, none, .st (.t 3) (.t 9) 15⟩]) (.sq (.rg [⟨some 10, none, .iaa (.t 3) (.c (.int .i64 4)) 5 3⟩, ⟨some 11, none, .ld (.t 10) 3 true⟩, ⟨some 4, none, .al 142 [.int .i64 0, .int .i64 0, .int .i64 0]⟩, ⟨none, none, .st (.t 4) (.t 11) 3⟩]) (.sq (.rg [⟨some 12, none, .fa (.t 4) 1⟩, ⟨some 13, none, .ld (.t 12) 1 false⟩, ⟨some 14, none, .fa (.t 4) 2⟩, ⟨some 15, none, .ld (.t 14) 1 false⟩, ⟨some 16, none, .ib .add (.t 13) (.t 15)⟩, ⟨some 2, none, .mv (.t 16)⟩]) .rt)))))⟩
theorem k17 : cF Tryz.prog Tryz.f17 = some c17 := by kernel_rfl
def c18 : Fu := ⟨21, [.t 4, .t 5], (.sq (.rg [⟨some 3, none, .bx 24 (.t 1)⟩, ⟨some 4, none, .mv (.c (.pointer none))⟩, ⟨some 5, none, .mv (.c (.int .i64 0))⟩]) (.sq (.sq (.rg [⟨some 9, none, .mv (.t 0)⟩, ⟨some 10, none, .ld (.t 3) 6 true⟩, ⟨some 11, none, .ca 70 [.t 9, .t 10]⟩, ⟨some 8, none, .mv (.t 11)⟩, ⟨some 12, none, .ex (.t 8) 0⟩, ⟨some 13, none, .ex (.t 8) 1⟩, ⟨some 6, none, .mv (.t 12)⟩, ⟨some 7, none, .mv (.t 13)⟩]) (.sq (.rg [⟨some 14, none, .mv (.t 7)⟩, ⟨some 15, none, .ib .neq (.t 14) (.c (.int .i64 0))⟩]) (.cd (.t 15) (.sq (.rg [⟨some 16, none, .mv (.t 7)⟩, ⟨some 4, none, .mv (.c (.pointer none))⟩, ⟨some 5, none, .mv (.t 16)⟩]) .rt) .sk))) (.sq (.rg [⟨some 17, none, .mv (.t 0)⟩, ⟨some 18, none, .ld (.t 3) 6 true⟩, ⟨some 19, none, .bd [(.pointer none), .int .i64 0, .int .i64 0, .int .i64 0, .int .i64 0, .int .i64 0, .int .i64 0] [(0, 1, (.t 17)), (1, 6, (.t 18))]⟩, ⟨some 20, none, .bx 146 (.t 19)⟩, ⟨some 4, none, .mv (.t 20)⟩, ⟨some 5, none, .mv (.c (.int .i64 0))⟩]) .rt)))⟩
theorem k18 : cF Tryz.prog Tryz.f18 = some c18 := by kernel_rfl
def c19 : Fu := ⟨49, [.t 10, .t 11], (.sq (.rg [⟨some 10, none, .mv (.c (.pointer none))⟩, ⟨some 11, none, .mv (.c (.int .i64 0))⟩]) (.sq (.sq (.rg [⟨some 13, none, .mv (.t 2)⟩, ⟨some 14, none, .ib .lss (.t 13) (.c (.int .i64 0))⟩, ⟨some 15, none, .mv (.t 14)⟩, ⟨some 16, some (15, false), .mv (.t 2)⟩, ⟨some 17, some (15, false), .mv (.t 0)⟩, ⟨some 18, some (15, false), .nc (.t 17)⟩, ⟨some 19, some (15, false), .fa (.t 18) 1⟩, ⟨some 20, some (15, false), .fa (.t 19) 3⟩, ⟨some 21, some (15, false), .ld (.t 20) 1 false⟩, ⟨some 22, some (15, false), .ib .geq (.t 16) (.t 21)⟩, ⟨some 23, none, .pk (.t 15) (.c (.bool true)) (.t 22)⟩]) (.cd (.t 23) (.sq (.rg [⟨some 10, none, .mv (.c (.pointer none))⟩, ⟨some 11, none, .mv (.c (.int .i64 1))⟩]) .rt) .sk)) (.sq (.sq (.rg [⟨some 24, none, .mv (.t 4)⟩, ⟨some 25, none, .ib .lss (.t 24) (.c (.int .i64 1))⟩, ⟨some 26, none, .mv (.t 25)⟩, ⟨some 27, some (26, false), .mv (.t 4)⟩, ⟨some 28, some (26, false), .mv (.t 0)⟩, ⟨some 29, some (26, false), .nc (.t 28)⟩, ⟨some 30, some (26, false), .fa (.t 29) 1⟩, ⟨some 31, some (26, false), .fa (.t 30) 2⟩, ⟨some 32, some (26, false), .ld (.t 31) 1 false⟩, ⟨some 33, some (26, false), .ib .gtr (.t 27) (.t 32)⟩, ⟨some 34, none, .pk (.t 26) (.c (.bool true)) (.t 33)⟩]) (.cd (.t 34) (.sq (.rg [⟨some 10, none, .mv (.c (.pointer none))⟩, ⟨some 11, none, .mv (.c (.int .i64 5))⟩]) .rt) .sk)) (.sq (.rg [⟨some 35, none, .mv (.t 0)⟩, ⟨some 36, none, .mv (.t 1)⟩, ⟨some 37, none, .mv (.t 2)⟩, ⟨some 38, none, .mv (.t 3)⟩, ⟨some 39, none, .mv (.t 4)⟩, ⟨some 40, none, .bd [.nilFunc, .nilFunc, .nilFunc, .nilFunc, .int .i64 0, (.pointer none), (.pointer none), .int .i64 0, .int .i64 0, .int .i64 0, .int .i64 0, .int .i64 0, (.bool false), (.bool false), .int .i64 0, .int .i64 0, (.int .u64 0), .int .i64 0, .int .i64 0, .int .i64 0, .int .i64 0, (.pointer none), (.pointer none), .int .i64 0, .int .i64 0, .int .i64 0, .int .i64 0, .int .i64 0, .int .i64 0] [(5, 1, (.t 35)), (6, 1, (.t 36)), (7, 1, (.t 37)), (8, 1, (.t 38)), (9, 1, (.t 39)), (10, 1, (.c (.int .i64 (-1))))]⟩,
  ⟨some 41, none, .bx 152 (.t 40)⟩, ⟨some 12, none, .mv (.t 41)⟩]) (.sq (.rg [⟨some 42, none, .mv (.t 12)⟩, ⟨some 43, none, .nc (.t 42)⟩, ⟨some 44, none, .fa (.t 43) 0⟩, ⟨some 45, none, .mv (.t 12)⟩, ⟨some 46, none, .mf (.func 80) [.t 45] []⟩, ⟨some 47, none, .ca 79 [.t 44, .t 46]⟩]) (.sq (.rg [⟨some 48, none, .mv (.t 12)⟩, ⟨some 10, none, .mv (.t 48)⟩, ⟨some 11, none, .mv (.c (.int .i64 0))⟩]) .rt))))))⟩
theorem k19 : cF Tryz.prog Tryz.f19 = some c19 := by kernel_rfl
def c20 : Fu := ⟨52, [.t 10, .t 11], (.sq (.rg [⟨some 10, none, .mv (.c (.pointer none))⟩, ⟨some 11, none, .mv (.c (.int .i64 0))⟩]) (.sq (.rd [⟨0, 0, [0], ⟨some 17, none, .mv (.t 0)⟩⟩, ⟨1, 1, [17], ⟨some 18, none, .nc (.t 17)⟩⟩, ⟨2, 3, [18], ⟨some 19, none, .fa (.t 18) 8⟩⟩, ⟨3, 7, [19], ⟨some 20, none, .ld (.t 19) 1 false⟩⟩, ⟨4, 0, [0], ⟨some 21, none, .mv (.t 0)⟩⟩, ⟨5, 16, [21], ⟨some 22, none, .nc (.t 21)⟩⟩, ⟨6, 48, [22], ⟨some 23, none, .fa (.t 22) 10⟩⟩, ⟨7, 112, [23], ⟨some 24, none, .ld (.t 23) 1 false⟩⟩, ⟨8, 0, [1], ⟨some 25, none, .mv (.t 1)⟩⟩, ⟨9, 496, [24, 25], ⟨some 26, none, .ia (.t 24) (.t 25) 1⟩⟩, ⟨10, 1008, [26], ⟨some 27, none, .ld (.t 26) 1 false⟩⟩, ⟨11, 0, [2], ⟨some 28, none, .mv (.t 2)⟩⟩, ⟨12, 0, [3], ⟨some 29, none, .mv (.t 3)⟩⟩, ⟨13, 0, [4], ⟨some 30, none, .mv (.t 4)⟩⟩, ⟨14, 16383, [20, 27, 28, 29, 30], ⟨some 31, none, .ca 19 [.t 20, .t 27, .t 28, .t 29, .t 30]⟩⟩, ⟨15, 32767, [31], ⟨some 16, none, .mv (.t 31)⟩⟩, ⟨16, 65535, [16], ⟨some 32, none, .ex (.t 16) 0⟩⟩, ⟨17, 65535, [16], ⟨some 33, none, .ex (.t 16) 1⟩⟩, ⟨18, 131071, [32], ⟨some 12, none, .mv (.t 32)⟩⟩, ⟨19, 524287, [33], ⟨some 13, none, .mv (.t 33)⟩⟩]) (.sq (.sq (.rg [⟨some 34, none, .mv (.t 12)⟩, ⟨some 35, none, .en 0 false (.t 34) (.c (.pointer none))⟩, ⟨some 36, none, .mv (.t 35)⟩, ⟨some 37, some (36, false), .mv (.t 13)⟩, ⟨some 38, some (36, false), .ib .neq (.t 37) (.c (.int .i64 0))⟩, ⟨some 39, none, .pk (.t 36) (.c (.bool true)) (.t 38)⟩]) (.cd (.t 39) (.sq (.rg [⟨some 10, none, .mv (.c (.pointer none))⟩, ⟨some 11, none, .mv (.c (.int .i64 (-1)))⟩]) .rt) .sk)) (.sq (.rg [⟨some 14, none, .mv (.c (.int .i64 0))⟩]) (.sq (.sq (.rg [⟨some 15, none, .mv (.c (.int .i64 0))⟩]) (.bl 0 (.lp (.sq (.sq (.rg [⟨some 40, none, .mv (.t 15)⟩, ⟨some 41, none, .ib .lss (.t 40) (.c (.int .i64 4000))⟩, ⟨some 42, none, .mv (.t 41)⟩, ⟨some 43, some (42, true), .mv (.t 12)⟩, ⟨some 44, some (42, true), .ca 26 [.t 43]⟩, ⟨some 45, none, .pk (.t 42) (.t 44) (.c (.bool false))⟩]) (.cd (.t 45) .sk (.ex 0)))
 (.sq (.bl 1 (.rg [⟨some 48, none, .mv (.t 14)⟩, ⟨some 49, none, .ib .add (.t 48) (.c (.int .i64 1))⟩, ⟨some 14, none, .mv (.t 49)⟩])) (.rg [⟨some 46, none, .mv (.t 15)⟩, ⟨some 47, none, .ib .add (.t 46) (.c (.int .i64 1))⟩, ⟨some 15, none, .mv (.t 47)⟩])))))) (.sq (.rg [⟨some 50, none, .mv (.t 12)⟩, ⟨some 51, none, .mv (.t 14)⟩, ⟨some 10, none, .mv (.t 50)⟩, ⟨some 11, none, .mv (.t 51)⟩]) .rt))))))⟩
theorem k20 : cF Tryz.prog Tryz.f20 = some c20 := by kernel_rfl
def c21 : Fu := ⟨10, [.t 2], (.sq (.rg [⟨some 2, none, .mv (.c (.int .i64 0))⟩]) (.sq (.sq (.rg [⟨some 3, none, .mv (.t 0)⟩, ⟨some 4, none, .ca 27 [.t 3]⟩, ⟨some 5, none, .nt (.t 4)⟩]) (.cd (.t 5) (.sq (.rg [⟨some 2, none, .mv (.c (.int .i64 0))⟩]) .rt) .sk)) (.sq (.rg [⟨some 6, none, .mv (.t 0)⟩, ⟨some 7, none, .nc (.t 6)⟩, ⟨some 8, none, .fa (.t 7) 23⟩, ⟨some 9, none, .ld (.t 8) 1 false⟩, ⟨some 2, none, .mv (.t 9)⟩]) .rt)))⟩
theorem k21 : cF Tryz.prog Tryz.f21 = some c21 := by kernel_rfl
def c22 : Fu := ⟨7, [.t 2], (.sq (.rg [⟨some 2, none, .mv (.c (.int .i64 0))⟩]) (.sq (.rg [⟨some 3, none, .mv (.t 0)⟩, ⟨some 4, none, .nc (.t 3)⟩, ⟨some 5, none, .fa (.t 4) 15⟩, ⟨some 6, none, .ld (.t 5) 1 false⟩, ⟨some 2, none, .mv (.t 6)⟩]) .rt))⟩
theorem k22 : cF Tryz.prog Tryz.f22 = some c22 := by kernel_rfl
def c23 : Fu := ⟨18, [.t 6], (.sq (.rg [⟨some 6, none, .mv (.c (.int .i64 0))⟩]) (.sq (.sq (.rg [⟨some 7, none, .mv (.t 0)⟩, ⟨some 8, none, .mv (.t 1)⟩, ⟨some 9, none, .ca 81 [.t 7, .t 8]⟩, ⟨some 10, none, .nt (.t 9)⟩]) (.cd (.t 10) (.sq (.rg [⟨some 6, none, .mv (.c (.int .i64 1))⟩]) .rt) .sk)) (.sq (.rg [⟨some 11, none, .mv (.t 0)⟩, ⟨some 12, none, .nc (.t 11)⟩, ⟨some 13, none, .fa (.t 12) 0⟩, ⟨some 14, none, .ld (.t 13) 1 false⟩, ⟨some 15, none, .mv (.t 1)⟩, ⟨some 16, none, .mv (.t 2)⟩, ⟨some 17, none, .ia (.t 14) (.t 15) 1⟩, ⟨none, none, .st (.t 17) (.t 16) 1⟩]) (.sq (.rg [⟨some 6, none, .mv (.c (.int .i64 0))⟩]) .rt))))⟩
theorem k23 : cF Tryz.prog Tryz.f23 = some c23 := by kernel_rfl
def c24 : Fu := ⟨34, [.t 6], (.sq (.rg [⟨some 3, none, .bx 24 (.t 0)⟩, ⟨some 6, none, .mv (.c (.int .i64 0))⟩]) (.sq (.sq (.rg [⟨some 7, none, .mv (.t 1)⟩, ⟨some 8, none, .fa (.t 3) 1⟩, ⟨some 9, none, .ld (.t 8) 1 false⟩, ⟨some 10, none, .ib .sub (.t 9) (.c (.int .i64 1))⟩, ⟨some 11, none, .ca 82 [.t 7, (.c (.int .i64 0)), .t 10]⟩, ⟨some 12, none, .nt (.t 11)⟩, ⟨some 13, none, .mv (.t 12)⟩, ⟨some 14, some (13, false), .mv (.t 2)⟩, ⟨some 15, some (13, false), .fa (.t 3) 2⟩, ⟨some 16, some (13, false), .ld (.t 15) 1 false⟩, ⟨some 17, some (13, false), .ib .sub (.t 16) (.c (.int .i64 1))⟩, ⟨some 18, some (13, false), .ca 82 [.t 14, (.c (.int .i64 0)), .t 17]⟩, ⟨some 19, some (13, false), .nt (.t 18)⟩, ⟨some 20, none, .pk (.t 13) (.c (.bool true)) (.t 19)⟩, ⟨some 21, none, .mv (.t 20)⟩, ⟨some 22, some (21, false), .ld (.t 3) 6 true⟩, ⟨some 23, some (21, false), .ca 77 [.t 22]⟩, ⟨some 24, some (21, false), .nt (.t 23)⟩, ⟨some 25, none, .pk (.t 21) (.c (.bool true)) (.t 24)⟩]) (.cd (.t 25) (.sq (.rg [⟨some 6, none, .mv (.c (.int .i64 (-1)))⟩]) .rt) .sk)) (.sq (.rg [⟨some 26, none, .ld (.t 3) 6 true⟩, ⟨some 27, none, .mv (.t 1)⟩, ⟨some 28, none, .fa (.t 3) 2⟩, ⟨some 29, none, .ld (.t 28) 1 false⟩, ⟨some 30, none, .ib .mul (.t 27) (.t 29)⟩, ⟨some 31, none, .mv (.t 2)⟩, ⟨some 32, none, .ib .add (.t 30) (.t 31)⟩, ⟨some 33, none, .ca 83 [.t 26, (.c (.int .i64 7)), .t 32]⟩, ⟨some 6, none, .mv (.t 33)⟩]) .rt)))⟩
theorem k24 : cF Tryz.prog Tryz.f24 = some c24 := by kernel_rfl
def c25 : Fu := ⟨77, [.t 4, .t 5, .t 6], (.sq (.rg [⟨some 4, none, .mv (.c (.int .i64 0))⟩, ⟨some 5, none, .mv (.c (.int .i64 0))⟩, ⟨some 6, none, .mv (.c (.bool false))⟩]) (.sq (.rd [⟨0, 0, [0], ⟨some 12, none, .mv (.t 0)⟩⟩, ⟨1, 1, [12], ⟨some 13, none, .nc (.t 12)⟩⟩, ⟨2, 3, [13], ⟨some 14, none, .fa (.t 13) 7⟩⟩, ⟨3, 7, [14], ⟨some 15, none, .ld (.t 14) 1 false⟩⟩, ⟨4, 0, [1], ⟨some 16, none, .mv (.t 1)⟩⟩, ⟨5, 31, [15, 16], ⟨some 17, none, .ca 84 [.t 15, .t 16]⟩⟩, ⟨6, 0, [0], ⟨some 18, none, .mv (.t 0)⟩⟩, ⟨7, 64, [18], ⟨some 19, none, .nc (.t 18)⟩⟩, ⟨8, 192, [19], ⟨some 20, none, .fa (.t 19) 11⟩⟩, ⟨9, 448, [20], ⟨some 21, none, .ld (.t 20) 1 false⟩⟩, ⟨10, 0, [1], ⟨some 22, none, .mv (.t 1)⟩⟩, ⟨11, 2047, [21, 22], ⟨some 23, none, .ca 85 [.t 21, .t 22]⟩⟩, ⟨12, 4095, [17], ⟨some 7, none, .mv (.t 17)⟩⟩, ⟨13, 8191, [23], ⟨some 8, none, .mv (.t 23)⟩⟩]) (.sq (.sq (.rg [⟨some 24, none, .mv (.t 7)⟩, ⟨some 25, none, .en 0 false (.t 24) (.c (.pointer none))⟩]) (.cd (.t 25) (.sq (.rg [⟨some 4, none, .mv (.c (.int .i64 0))⟩, ⟨some 5, none, .mv (.c (.int .i64 0))⟩, ⟨some 6, none, .mv (.c (.bool false))⟩]) .rt) .sk)) (.sq (.sq (.rg [⟨some 9, none, .mv (.c (.int .i64 0))⟩]) (.bl 0 (.lp (.sq (.sq (.rg [⟨some 26, none, .mv (.t 9)⟩, ⟨some 27, none, .ib .lss (.t 26) (.c (.int .i64 10))⟩]) (.cd (.t 27) .sk (.ex 0))) (.sq (.bl 1 (.sq (.rg [⟨some 30, none, .mv (.t 7)⟩, ⟨some 31, none, .ca 86 [.t 30]⟩]) (.rg [⟨some 32, none, .mv (.t 8)⟩, ⟨some 33, none, .ca 87 [.t 32]⟩]))) (.rg [⟨some 28, none, .mv (.t 9)⟩, ⟨some 29, none, .ib .add (.t 28) (.c (.int .i64 1))⟩, ⟨some 9, none, .mv (.t 29)⟩])))))) (.sq (.rg [⟨some 35, none, .mv (.t 7)⟩, ⟨some 36, none, .ca 88 [.t 35]⟩, ⟨some 34, none, .mv (.t 36)⟩, ⟨some 37, none, .ex (.t 34) 0⟩, ⟨some 38, none, .ex (.t 34) 1⟩, ⟨some 10, none, .mv (.t 37)⟩, ⟨some 11, none, .mv (.t 38)⟩]) (.sq (.rd [⟨0, 0, [10], ⟨some 39, none, .mv (.t 10)⟩⟩, ⟨1, 0, [11], ⟨some 40, none, .mv (.t 11)⟩⟩, ⟨2, 0, [7], ⟨some 41, none, .mv (.t 7)⟩⟩, ⟨3, 4, [41], ⟨some 42, none, .ca 89 [.t 41]⟩⟩,
  ⟨4, 12, [42], ⟨some 43, none, .mv (.t 42)⟩⟩, ⟨5, 28, [8, 43], ⟨some 44, some (43, true), .mv (.t 8)⟩⟩, ⟨6, 60, [44, 43], ⟨some 45, some (43, true), .nc (.t 44)⟩⟩, ⟨7, 124, [45, 43], ⟨some 46, some (43, true), .fa (.t 45) 13⟩⟩, ⟨8, 252, [46, 43], ⟨some 47, some (43, true), .ld (.t 46) 1 false⟩⟩, ⟨9, 508, [43, 47], ⟨some 48, none, .pk (.t 43) (.t 47) (.c (.bool false))⟩⟩, ⟨10, 1020, [48], ⟨some 49, none, .mv (.t 48)⟩⟩, ⟨11, 2044, [7, 49], ⟨some 50, some (49, true), .mv (.t 7)⟩⟩, ⟨12, 4092, [50, 49], ⟨some 51, some (49, true), .ca 90 [.t 50]⟩⟩, ⟨13, 8188, [51, 49], ⟨some 52, some (49, true), .ib .eql (.t 51) (.c (.int .i64 0))⟩⟩, ⟨14, 16380, [49, 52], ⟨some 53, none, .pk (.t 49) (.t 52) (.c (.bool false))⟩⟩, ⟨15, 32764, [53], ⟨some 54, none, .mv (.t 53)⟩⟩, ⟨16, 65532, [8, 54], ⟨some 55, some (54, true), .mv (.t 8)⟩⟩, ⟨17, 131068, [55, 54], ⟨some 56, some (54, true), .nc (.t 55)⟩⟩, ⟨18, 262140, [56, 54], ⟨some 57, some (54, true), .fa (.t 56) 12⟩⟩, ⟨19, 524284, [57, 54], ⟨some 58, some (54, true), .ld (.t 57) 1 false⟩⟩, ⟨20, 1048572, [58, 54], ⟨some 59, some (54, true), .ib .eql (.t 58) (.c (.int .i64 0))⟩⟩, ⟨21, 2097148, [54, 59], ⟨some 60, none, .pk (.t 54) (.t 59) (.c (.bool false))⟩⟩, ⟨22, 4194300, [60], ⟨some 61, none, .mv (.t 60)⟩⟩, ⟨23, 8388604, [10, 61], ⟨some 62, some (61, true), .mv (.t 10)⟩⟩, ⟨24, 8388604, [8, 61], ⟨some 63, some (61, true), .mv (.t 8)⟩⟩, ⟨25, 25165820, [63, 61], ⟨some 64, some (61, true), .nc (.t 63)⟩⟩, ⟨26, 58720252, [64, 61], ⟨some 65, some (61, true), .fa (.t 64) 5⟩⟩, ⟨27, 125829116, [65, 61], ⟨some 66, some (61, true), .ld (.t 65) 1 false⟩⟩, ⟨28, 268435452, [62, 66, 61], ⟨some 67, some (61, true), .ib .eql (.t 62) (.t 66)⟩⟩, ⟨29, 536870908, [61, 67], ⟨some 68, none, .pk (.t 61) (.t 67) (.c (.bool false))⟩⟩, ⟨30, 1073741820, [68], ⟨some 69, none, .mv (.t 68)⟩⟩, ⟨31, 2147483644, [11, 69], ⟨some 70, some (69, true), .mv (.t 11)⟩⟩, ⟨32, 2147483644, [8, 69], ⟨some 71, some (69, true), .mv (.t 8)⟩⟩, ⟨33, 6442450940, [71, 69], ⟨some 72, some (69, true), .nc (.t 71)⟩⟩,
  ⟨34, 15032385532, [72, 69], ⟨some 73, some (69, true), .fa (.t 72) 6⟩⟩, ⟨35, 32212254716, [73, 69], ⟨some 74, some (69, true), .ld (.t 73) 1 false⟩⟩, ⟨36, 68719476732, [70, 74, 69], ⟨some 75, some (69, true), .ib .eql (.t 70) (.t 74)⟩⟩, ⟨37, 137438953468, [69, 75], ⟨some 76, none, .pk (.t 69) (.t 75) (.c (.bool false))⟩⟩, ⟨38, 2147483645, [39], ⟨some 4, none, .mv (.t 39)⟩⟩, ⟨39, 277025390591, [40], ⟨some 5, none, .mv (.t 40)⟩⟩, ⟨40, 1099511627775, [76], ⟨some 6, none, .mv (.t 76)⟩⟩]) .rt))))))⟩
theorem k25 : cF Tryz.prog Tryz.f25 = some c25 := by kernel_rfl
def c26 : Fu := ⟨7, [.t 2], (.sq (.rg [⟨some 2, none, .mv (.c (.bool false))⟩]) (.sq (.rg [⟨some 3, none, .mv (.t 0)⟩, ⟨some 4, none, .nc (.t 3)⟩, ⟨some 5, none, .fa (.t 4) 0⟩, ⟨some 6, none, .ca 91 [.t 5]⟩, ⟨some 2, none, .mv (.t 6)⟩]) .rt))⟩
theorem k26 : cF Tryz.prog Tryz.f26 = some c26 := by kernel_rfl
def c27 : Fu := ⟨7, [.t 2], (.sq (.rg [⟨some 2, none, .mv (.c (.bool false))⟩]) (.sq (.rg [⟨some 3, none, .mv (.t 0)⟩, ⟨some 4, none, .nc (.t 3)⟩, ⟨some 5, none, .fa (.t 4) 0⟩, ⟨some 6, none, .ca 92 [.t 5]⟩, ⟨some 2, none, .mv (.t 6)⟩]) .rt))⟩
theorem k27 : cF Tryz.prog Tryz.f27 = some c27 := by kernel_rfl
def c28 : Fu := ⟨11, [.c 2 5 true], (.sq (.rg [⟨some 2, none, .al 62 [.int .i64 0, .int .i64 0, .int .i64 0, .int .i64 0, .int .i64 0]⟩]) (.sq (.sq (.rg [⟨some 3, none, .mv (.t 0)⟩, ⟨some 4, none, .ca 27 [.t 3]⟩, ⟨some 5, none, .nt (.t 4)⟩]) (.cd (.t 5) (.sq (.rg [⟨some 6, none, .bd [.int .i64 0, .int .i64 0, .int .i64 0, .int .i64 0, .int .i64 0] []⟩, ⟨none, none, .st (.t 2) (.t 6) 5⟩]) .rt) .sk)) (.sq (.rg [⟨some 7, none, .mv (.t 0)⟩, ⟨some 8, none, .nc (.t 7)⟩, ⟨some 9, none, .fa (.t 8) 24⟩, ⟨some 10, none, .ld (.t 9) 5 true⟩, ⟨none, none, .st (.t 2) (.t 10) 5⟩]) .rt)))⟩
theorem k28 : cF Tryz.prog Tryz.f28 = some c28 := by kernel_rfl
def c29 : Fu := ⟨16, [.t 4], (.sq (.rg [⟨some 4, none, .mv (.c (.int .u64 0))⟩]) (.sq (.sq (.rg [⟨some 5, none, .mv (.t 0)⟩, ⟨some 6, none, .mv (.t 1)⟩, ⟨some 7, none, .ca 81 [.t 5, .t 6]⟩, ⟨some 8, none, .nt (.t 7)⟩]) (.cd (.t 8) (.sq (.rg [⟨some 4, none, .mv (.c (.int .u64 0))⟩]) .rt) .sk)) (.sq (.rg [⟨some 9, none, .mv (.t 0)⟩, ⟨some 10, none, .nc (.t 9)⟩, ⟨some 11, none, .fa (.t 10) 0⟩, ⟨some 12, none, .ld (.t 11) 1 false⟩, ⟨some 13, none, .mv (.t 1)⟩, ⟨some 14, none, .ia (.t 12) (.t 13) 1⟩, ⟨some 15, none, .ld (.t 14) 1 false⟩, ⟨some 4, none, .mv (.t 15)⟩]) .rt)))⟩
theorem k29 : cF Tryz.prog Tryz.f29 = some c29 := by kernel_rfl
def c32 : Fu := ⟨7, [.t 2], (.sq (.rg [⟨some 2, none, .mv (.c (.bool false))⟩]) (.sq (.rg [⟨some 3, none, .mv (.t 0)⟩, ⟨some 4, none, .nc (.t 3)⟩, ⟨some 5, none, .fa (.t 4) 0⟩, ⟨some 6, none, .ca 91 [.t 5]⟩, ⟨some 2, none, .mv (.t 6)⟩]) .rt))⟩
theorem k32 : cF Tryz.prog Tryz.f32 = some c32 := by kernel_rfl
def c33 : Fu := ⟨118, [.t 2], (.sq (.rg [⟨some 2, none, .mv (.c (.bool false))⟩]) (.sq (.sq (.rg [⟨some 7, none, .mv (.t 0)⟩, ⟨some 8, none, .nc (.t 7)⟩, ⟨some 9, none, .fa (.t 8) 9⟩, ⟨some 10, none, .ld (.t 9) 1 false⟩]) (.cd (.t 10) (.sq (.rg [⟨some 2, none, .mv (.c (.bool false))⟩]) .rt) .sk)) (.sq (.rg [⟨some 11, none, .mv (.t 0)⟩, ⟨some 12, none, .nc (.t 11)⟩, ⟨some 13, none, .fa (.t 12) 4⟩, ⟨some 14, none, .ld (.t 13) 1 false⟩, ⟨some 15, none, .ib .add (.t 14) (.c (.int .i64 1))⟩, ⟨some 16, none, .nc (.t 11)⟩, ⟨some 17, none, .fa (.t 16) 4⟩, ⟨none, none, .st (.t 17) (.t 15) 1⟩]) (.sq (.rd [⟨0, 0, [0], ⟨some 18, none, .mv (.t 0)⟩⟩, ⟨1, 1, [18], ⟨some 19, none, .nc (.t 18)⟩⟩, ⟨2, 3, [19], ⟨some 20, none, .fa (.t 19) 0⟩⟩, ⟨3, 7, [20], ⟨some 21, none, .ld (.t 20) 1 false⟩⟩, ⟨4, 15, [21], ⟨some 22, none, .nc (.t 21)⟩⟩, ⟨5, 31, [22], ⟨some 23, none, .fa (.t 22) 0⟩⟩, ⟨6, 63, [23], ⟨some 24, none, .ld (.t 23) 6 true⟩⟩, ⟨7, 0, [0], ⟨some 25, none, .mv (.t 0)⟩⟩, ⟨8, 128, [25], ⟨some 26, none, .nc (.t 25)⟩⟩, ⟨9, 384, [26], ⟨some 27, none, .fa (.t 26) 1⟩⟩, ⟨10, 896, [27], ⟨some 28, none, .ld (.t 27) 1 false⟩⟩, ⟨11, 2047, [24, 28], ⟨some 29, none, .ca 97 [.t 24, .t 28]⟩⟩, ⟨12, 4095, [29], ⟨some 3, none, .mv (.t 29)⟩⟩]) (.sq (.sq (.rg [⟨some 30, none, .mv (.t 0)⟩, ⟨some 31, none, .nc (.t 30)⟩, ⟨some 32, none, .fa (.t 31) 3⟩, ⟨some 33, none, .ld (.t 32) 1 false⟩, ⟨some 34, none, .ib .eql (.t 33) (.c (.int .i64 0))⟩]) (.cd (.t 34) (.sq (.rg [⟨some 35, none, .mv (.t 0)⟩, ⟨some 36, none, .mv (.t 0)⟩, ⟨some 37, none, .nc (.t 36)⟩, ⟨some 38, none, .fa (.t 37) 0⟩, ⟨some 39, none, .ld (.t 38) 1 false⟩, ⟨some 40, none, .nc (.t 39)⟩, ⟨some 41, none, .fa (.t 40) 6⟩, ⟨some 42, none, .ld (.t 41) 1 false⟩, ⟨some 43, none, .mv (.t 3)⟩, ⟨some 44, none, .ca 98 [.t 42, .t 43]⟩, ⟨some 45, none, .nc (.t 35)⟩, ⟨some 46, none, .fa (.t 45) 7⟩, ⟨none, none, .st (.t 46) (.t 44) 1⟩]) (.sq (.sq (.rd [⟨0, 0, [0], ⟨some 47, none, .mv (.t 0)⟩⟩, ⟨1, 1, [47], ⟨some 48, none, .nc (.t 47)⟩⟩, ⟨2, 3, [48], ⟨some 49, none, .fa (.t 48) 7⟩⟩,
  ⟨3, 7, [49], ⟨some 50, none, .ld (.t 49) 1 false⟩⟩, ⟨4, 15, [50], ⟨some 51, none, .ca 100 [.t 50]⟩⟩, ⟨5, 0, [0], ⟨some 52, none, .mv (.t 0)⟩⟩, ⟨6, 32, [52], ⟨some 53, none, .nc (.t 52)⟩⟩, ⟨7, 96, [53], ⟨some 54, none, .fa (.t 53) 2⟩⟩, ⟨8, 224, [54], ⟨some 55, none, .ld (.t 54) 1 false⟩⟩, ⟨9, 511, [51, 55], ⟨some 56, none, .ca 99 [.t 51, .t 55]⟩⟩, ⟨10, 1023, [56], ⟨some 57, none, .nt (.t 56)⟩⟩]) (.cd (.t 57) (.rg [⟨some 58, none, .mv (.t 0)⟩, ⟨some 59, none, .mv (.t 0)⟩, ⟨some 60, none, .mv (.t 0)⟩, ⟨some 61, none, .mv (.t 0)⟩, ⟨some 62, none, .nc (.t 61)⟩, ⟨some 63, none, .fa (.t 62) 4⟩, ⟨some 64, none, .ld (.t 63) 1 false⟩, ⟨some 65, none, .nc (.t 58)⟩, ⟨some 66, none, .fa (.t 65) 8⟩, ⟨none, none, .st (.t 66) (.c (.int .i64 3)) 1⟩, ⟨some 67, none, .nc (.t 59)⟩, ⟨some 68, none, .fa (.t 67) 5⟩, ⟨none, none, .st (.t 68) (.t 64) 1⟩, ⟨some 69, none, .nc (.t 60)⟩, ⟨some 70, none, .fa (.t 69) 9⟩, ⟨none, none, .st (.t 70) (.c (.bool true)) 1⟩]) .sk)) (.sq (.rg [⟨some 71, none, .mv (.t 0)⟩, ⟨some 72, none, .nc (.t 71)⟩, ⟨some 73, none, .fa (.t 72) 3⟩, ⟨none, none, .st (.t 73) (.c (.int .i64 1)) 1⟩]) (.sq (.rg [⟨some 2, none, .mv (.c (.bool true))⟩]) .rt)))) .sk)) (.sq (.rg [⟨some 74, none, .mv (.t 0)⟩, ⟨some 75, none, .nc (.t 74)⟩, ⟨some 76, none, .fa (.t 75) 7⟩, ⟨some 77, none, .ld (.t 76) 1 false⟩, ⟨some 78, none, .ca 100 [.t 77]⟩, ⟨some 4, none, .al 162 [.int .i64 0, .int .i64 0, .int .i64 0, .int .i64 0]⟩, ⟨none, none, .st (.t 4) (.t 78) 4⟩]) (.sq (.rg [⟨some 80, none, .fa (.t 4) 0⟩, ⟨some 81, none, .ld (.t 80) 1 false⟩, ⟨some 82, none, .bd [.int .i64 0, .int .i64 0, .int .i64 0, .int .i64 0] [(0, 1, (.t 81))]⟩, ⟨some 83, none, .ca 101 [.t 82]⟩, ⟨some 79, none, .mv (.t 83)⟩, ⟨some 84, none, .ex (.t 79) 0⟩, ⟨some 85, none, .ex (.t 79) 1⟩, ⟨some 5, none, .mv (.t 84)⟩, ⟨some 6, none, .mv (.t 85)⟩]) (.sq (.sq (.rd [⟨0, 0, [0], ⟨some 86, none, .mv (.t 0)⟩⟩, ⟨1, 1, [86], ⟨some 87, none, .nc (.t 86)⟩⟩, ⟨2, 3, [87], ⟨some 88, none, .fa (.t 87) 0⟩⟩, ⟨3, 7, [88], ⟨some 89, none, .ld (.t 88) 1 false⟩⟩,
  ⟨4, 15, [89], ⟨some 90, none, .nc (.t 89)⟩⟩, ⟨5, 31, [90], ⟨some 91, none, .fa (.t 90) 6⟩⟩, ⟨6, 63, [91], ⟨some 92, none, .ld (.t 91) 1 false⟩⟩, ⟨7, 0, [3], ⟨some 93, none, .mv (.t 3)⟩⟩, ⟨8, 0, [0], ⟨some 94, none, .mv (.t 0)⟩⟩, ⟨9, 256, [94], ⟨some 95, none, .nc (.t 94)⟩⟩, ⟨10, 768, [95], ⟨some 96, none, .fa (.t 95) 7⟩⟩, ⟨11, 1792, [96], ⟨some 97, none, .ld (.t 96) 1 false⟩⟩, ⟨12, 0, [5], ⟨some 98, none, .mv (.t 5)⟩⟩, ⟨13, 8191, [92, 93, 97, 98], ⟨some 99, none, .ca 102 [.t 92, .t 93, .t 97, .t 98]⟩⟩]) (.cd (.t 99) (.rd [⟨0, 0, [0], ⟨some 100, none, .mv (.t 0)⟩⟩, ⟨1, 0, [0], ⟨some 101, none, .mv (.t 0)⟩⟩, ⟨2, 0, [0], ⟨some 102, none, .mv (.t 0)⟩⟩, ⟨3, 0, [4], ⟨some 103, none, .ld (.t 4) 4 true⟩⟩, ⟨4, 8, [103], ⟨some 104, none, .ca 103 [.t 103]⟩⟩, ⟨5, 0, [0], ⟨some 105, none, .mv (.t 0)⟩⟩, ⟨6, 32, [105], ⟨some 106, none, .nc (.t 105)⟩⟩, ⟨7, 96, [106], ⟨some 107, none, .fa (.t 106) 4⟩⟩, ⟨8, 224, [107], ⟨some 108, none, .ld (.t 107) 1 false⟩⟩, ⟨9, 505, [100], ⟨some 109, none, .nc (.t 100)⟩⟩, ⟨10, 1017, [109], ⟨some 110, none, .fa (.t 109) 6⟩⟩, ⟨11, 2041, [110, 104], ⟨none, none, .st (.t 110) (.t 104) 1⟩⟩, ⟨12, 4091, [101], ⟨some 111, none, .nc (.t 101)⟩⟩, ⟨13, 8187, [111], ⟨some 112, none, .fa (.t 111) 5⟩⟩, ⟨14, 16379, [112, 108], ⟨none, none, .st (.t 112) (.t 108) 1⟩⟩, ⟨15, 32767, [102], ⟨some 113, none, .nc (.t 102)⟩⟩, ⟨16, 65535, [113], ⟨some 114, none, .fa (.t 113) 9⟩⟩, ⟨17, 131071, [114], ⟨none, none, .st (.t 114) (.c (.bool true)) 1⟩⟩]) .sk)) (.sq (.rg [⟨some 115, none, .mv (.t 0)⟩, ⟨some 116, none, .nc (.t 115)⟩, ⟨some 117, none, .fa (.t 116) 3⟩, ⟨none, none, .st (.t 117) (.c (.int .i64 0)) 1⟩]) (.sq (.rg [⟨some 2, none, .mv (.c (.bool true))⟩]) .rt))))))))))⟩
theorem k33 : cF Tryz.prog Tryz.f33 = some c33 := by kernel_rfl
def c34 : Fu := ⟨7, [.t 2], (.sq (.rg [⟨some 2, none, .mv (.c (.bool false))⟩]) (.sq (.rg [⟨some 3, none, .mv (.t 0)⟩, ⟨some 4, none, .nc (.t 3)⟩, ⟨some 5, none, .fa (.t 4) 0⟩, ⟨some 6, none, .ca 92 [.t 5]⟩, ⟨some 2, none, .mv (.t 6)⟩]) .rt))⟩
theorem k34 : cF Tryz.prog Tryz.f34 = some c34 := by kernel_rfl
def c35 : Fu := ⟨25, [.t 6, .t 7], (.sq (.rg [⟨some 6, none, .mv (.c (.pointer none))⟩, ⟨some 7, none, .mv (.c (.int .i64 0))⟩]) (.sq (.sq (.rg [⟨some 9, none, .mv (.t 0)⟩, ⟨some 10, none, .mv (.t 1)⟩, ⟨some 11, none, .ca 104 [.t 9, .t 10]⟩, ⟨some 12, none, .nt (.t 11)⟩]) (.cd (.t 12) (.sq (.rg [⟨some 6, none, .mv (.c (.pointer none))⟩, ⟨some 7, none, .mv (.c (.int .i64 1))⟩]) .rt) .sk)) (.sq (.rg [⟨some 13, none, .mv (.t 0)⟩, ⟨some 14, none, .mv (.t 1)⟩, ⟨some 15, none, .mv (.t 2)⟩, ⟨some 16, none, .bd [.nilFunc, .nilFunc, .nilFunc, .nilFunc, .int .i64 0, (.pointer none), .int .i64 0, .int .i64 0, (.int .u64 0), .int .i64 0, .int .i64 0, .int .i64 0, .int .i64 0, .int .i64 0, .int .i64 0, .int .i64 0] [(5, 1, (.t 13)), (6, 1, (.t 14)), (7, 1, (.t 15)), (14, 1, (.c (.int .i64 (-1))))]⟩, ⟨some 17, none, .bx 173 (.t 16)⟩, ⟨some 8, none, .mv (.t 17)⟩]) (.sq (.rg [⟨some 18, none, .mv (.t 8)⟩, ⟨some 19, none, .nc (.t 18)⟩, ⟨some 20, none, .fa (.t 19) 0⟩, ⟨some 21, none, .mv (.t 8)⟩, ⟨some 22, none, .mf (.func 105) [.t 21] []⟩, ⟨some 23, none, .ca 79 [.t 20, .t 22]⟩]) (.sq (.rg [⟨some 24, none, .mv (.t 8)⟩, ⟨some 6, none, .mv (.t 24)⟩, ⟨some 7, none, .mv (.c (.int .i64 0))⟩]) .rt)))))⟩
theorem k35 : cF Tryz.prog Tryz.f35 = some c35 := by kernel_rfl
def c36 : Fu := ⟨12, [.t 6], (.sq (.rg [⟨some 6, none, .mv (.c (.pointer none))⟩]) (.sq (.rg [⟨some 7, none, .mv (.t 0)⟩, ⟨some 8, none, .mv (.t 1)⟩, ⟨some 9, none, .mv (.t 2)⟩, ⟨some 10, none, .bd [(.pointer none), .int .i64 0, .int .i64 0, .int .i64 0, .int .i64 0, .int .i64 0, .int .i64 0, (.int .u64 0), .int .i64 0, (.bool false)] [(0, 1, (.t 7)), (1, 1, (.t 8)), (2, 1, (.t 9)), (6, 1, (.c (.int .i64 (-1))))]⟩, ⟨some 11, none, .bx 77 (.t 10)⟩, ⟨some 6, none, .mv (.t 11)⟩]) .rt))⟩
theorem k36 : cF Tryz.prog Tryz.f36 = some c36 := by kernel_rfl
def c37 : Fu := ⟨15, [.t 8], (.sq (.rg [⟨some 8, none, .mv (.c (.pointer none))⟩]) (.sq (.rg [⟨some 9, none, .mv (.t 0)⟩, ⟨some 10, none, .mv (.t 1)⟩, ⟨some 11, none, .mv (.t 2)⟩, ⟨some 12, none, .mv (.t 3)⟩, ⟨some 13, none, .bd [(.pointer none), .int .i64 0, .int .i64 0, .int .i64 0, .int .i64 0, .int .i64 0, .int .i64 0, .int .i64 0, .int .i64 0, .int .i64 0, (.int .u64 0), (.pointer none), (.pointer none), .int .i64 0, .int .i64 0, .int .i64 0, .int .i64 0, .int .i64 0, .int .i64 0, (.bool false), (.bool false)] [(0, 1, (.t 9)), (1, 1, (.t 10)), (2, 1, (.t 11)), (3, 1, (.t 12)), (8, 1, (.c (.int .i64 (-1))))]⟩, ⟨some 14, none, .bx 87 (.t 13)⟩, ⟨some 8, none, .mv (.t 14)⟩]) .rt))⟩
theorem k37 : cF Tryz.prog Tryz.f37 = some c37 := by kernel_rfl
def c38 : Fu := ⟨241, [.t 2], (.sq (.rg [⟨some 2, none, .mv (.c (.bool false))⟩]) (.sq (.sq (.rg [⟨some 13, none, .mv (.t 0)⟩, ⟨some 14, none, .nc (.t 13)⟩, ⟨some 15, none, .fa (.t 14) 20⟩, ⟨some 16, none, .ld (.t 15) 1 false⟩]) (.cd (.t 16) (.sq (.rg [⟨some 2, none, .mv (.c (.bool false))⟩]) .rt) .sk)) (.sq (.rg [⟨some 17, none, .mv (.t 0)⟩, ⟨some 18, none, .nc (.t 17)⟩, ⟨some 19, none, .fa (.t 18) 5⟩, ⟨some 20, none, .ld (.t 19) 1 false⟩, ⟨some 21, none, .ib .add (.t 20) (.c (.int .i64 1))⟩, ⟨some 22, none, .nc (.t 17)⟩, ⟨some 23, none, .fa (.t 22) 5⟩, ⟨none, none, .st (.t 23) (.t 21) 1⟩]) (.sq (.rg [⟨some 24, none, .mv (.t 0)⟩, ⟨some 25, none, .nc (.t 24)⟩, ⟨some 26, none, .fa (.t 25) 0⟩, ⟨some 27, none, .ld (.t 26) 1 false⟩, ⟨some 28, none, .nc (.t 27)⟩, ⟨some 29, none, .fa (.t 28) 0⟩, ⟨some 30, none, .ld (.t 29) 1 false⟩, ⟨some 3, none, .mv (.t 30)⟩]) (.sq (.rd [⟨0, 0, [3], ⟨some 31, none, .mv (.t 3)⟩⟩, ⟨1, 1, [31], ⟨some 32, none, .nc (.t 31)⟩⟩, ⟨2, 3, [32], ⟨some 33, none, .fa (.t 32) 0⟩⟩, ⟨3, 7, [33], ⟨some 34, none, .ld (.t 33) 6 true⟩⟩, ⟨4, 0, [0], ⟨some 35, none, .mv (.t 0)⟩⟩, ⟨5, 16, [35], ⟨some 36, none, .nc (.t 35)⟩⟩, ⟨6, 48, [36], ⟨some 37, none, .fa (.t 36) 1⟩⟩, ⟨7, 112, [37], ⟨some 38, none, .ld (.t 37) 1 false⟩⟩, ⟨8, 255, [34, 38], ⟨some 39, none, .ca 97 [.t 34, .t 38]⟩⟩, ⟨9, 511, [39], ⟨some 4, none, .mv (.t 39)⟩⟩]) (.sq (.rg [⟨some 40, none, .mv (.t 0)⟩, ⟨some 41, none, .nc (.t 40)⟩, ⟨some 42, none, .fa (.t 41) 10⟩, ⟨some 43, none, .ld (.t 42) 1 false⟩, ⟨some 44, none, .ca 100 [.t 43]⟩, ⟨some 5, none, .al 162 [.int .i64 0, .int .i64 0, .int .i64 0, .int .i64 0]⟩, ⟨none, none, .st (.t 5) (.t 44) 4⟩]) (.sq (.sq (.rg [⟨some 45, none, .mv (.t 0)⟩, ⟨some 46, none, .nc (.t 45)⟩, ⟨some 47, none, .fa (.t 46) 4⟩, ⟨some 48, none, .ld (.t 47) 1 false⟩]) (.bl 0 (.sq (.rg [⟨some 65, none, .ib .eql (.t 48) (.c (.int .i64 0))⟩, ⟨some 64, none, .mv (.t 65)⟩]) (.cd (.t 64) (.sq (.rg [⟨some 66, none, .mv (.t 0)⟩, ⟨some 67, none, .mv (.t 3)⟩, ⟨some 68, none, .nc (.t 67)⟩,
  ⟨some 69, none, .fa (.t 68) 6⟩, ⟨some 70, none, .ld (.t 69) 1 false⟩, ⟨some 71, none, .mv (.t 4)⟩, ⟨some 72, none, .ca 98 [.t 70, .t 71]⟩, ⟨some 73, none, .nc (.t 66)⟩, ⟨some 74, none, .fa (.t 73) 10⟩, ⟨none, none, .st (.t 74) (.t 72) 1⟩]) (.rg [⟨some 75, none, .mv (.t 0)⟩, ⟨some 76, none, .ca 106 [.t 75]⟩])) (.sq (.rg [⟨some 78, none, .ib .eql (.t 48) (.c (.int .i64 1))⟩, ⟨some 77, none, .mv (.t 78)⟩]) (.cd (.t 77) (.sq (.rg [⟨some 79, none, .ld (.t 5) 4 true⟩, ⟨some 6, none, .al 162 [.int .i64 0, .int .i64 0, .int .i64 0, .int .i64 0]⟩, ⟨none, none, .st (.t 6) (.t 79) 4⟩]) (.sq (.rd [⟨0, 0, [5], ⟨some 80, none, .fa (.t 5) 3⟩⟩, ⟨1, 1, [80], ⟨some 81, none, .ld (.t 80) 1 false⟩⟩, ⟨2, 0, [0], ⟨some 82, none, .mv (.t 0)⟩⟩, ⟨3, 4, [82], ⟨some 83, none, .nc (.t 82)⟩⟩, ⟨4, 12, [83], ⟨some 84, none, .fa (.t 83) 7⟩⟩, ⟨5, 28, [84], ⟨some 85, none, .ld (.t 84) 1 false⟩⟩, ⟨6, 63, [81, 85], ⟨some 86, none, .ib .add (.t 81) (.t 85)⟩⟩, ⟨7, 127, [6], ⟨some 87, none, .fa (.t 6) 3⟩⟩, ⟨8, 255, [87, 86], ⟨none, none, .st (.t 87) (.t 86) 1⟩⟩]) (.sq (.rg [⟨some 89, none, .ld (.t 6) 4 true⟩, ⟨some 90, none, .ca 101 [.t 89]⟩, ⟨some 88, none, .mv (.t 90)⟩, ⟨some 91, none, .ex (.t 88) 0⟩, ⟨some 92, none, .ex (.t 88) 1⟩, ⟨some 7, none, .mv (.t 91)⟩, ⟨some 8, none, .mv (.t 92)⟩]) (.sq (.rg [⟨some 93, none, .mv (.t 0)⟩, ⟨some 94, none, .nc (.t 93)⟩, ⟨some 95, none, .fa (.t 94) 4⟩, ⟨none, none, .st (.t 95) (.c (.int .i64 0)) 1⟩]) (.sq (.rd [⟨0, 0, [3], ⟨some 96, none, .mv (.t 3)⟩⟩, ⟨1, 1, [96], ⟨some 97, none, .nc (.t 96)⟩⟩, ⟨2, 3, [97], ⟨some 98, none, .fa (.t 97) 6⟩⟩, ⟨3, 7, [98], ⟨some 99, none, .ld (.t 98) 1 false⟩⟩, ⟨4, 0, [4], ⟨some 100, none, .mv (.t 4)⟩⟩, ⟨5, 0, [0], ⟨some 101, none, .mv (.t 0)⟩⟩, ⟨6, 32, [101], ⟨some 102, none, .nc (.t 101)⟩⟩, ⟨7, 96, [102], ⟨some 103, none, .fa (.t 102) 10⟩⟩, ⟨8, 224, [103], ⟨some 104, none, .ld (.t 103) 1 false⟩⟩, ⟨9, 0, [7], ⟨some 105, none, .mv (.t 7)⟩⟩, ⟨10, 1023, [99, 100, 104, 105], ⟨some 106, none, .ca 102 [.t 99, .t 100, .t 104, .t 105]⟩⟩])
 (.cd (.t 106) (.rd [⟨0, 0, [0], ⟨some 107, none, .mv (.t 0)⟩⟩, ⟨1, 0, [5], ⟨some 108, none, .ld (.t 5) 4 true⟩⟩, ⟨2, 2, [108], ⟨some 109, none, .ca 103 [.t 108]⟩⟩, ⟨3, 0, [5], ⟨some 110, none, .fa (.t 5) 3⟩⟩, ⟨4, 8, [110], ⟨some 111, none, .ld (.t 110) 1 false⟩⟩, ⟨5, 31, [107, 109, 111], ⟨some 112, none, .ca 107 [.t 107, .t 109, .t 111]⟩⟩]) .sk)))))) (.sq (.rg [⟨some 114, none, .ib .eql (.t 48) (.c (.int .i64 2))⟩, ⟨some 113, none, .mv (.t 114)⟩]) (.cd (.t 113) (.sq (.rg [⟨some 115, none, .mv (.t 0)⟩, ⟨some 116, none, .nc (.t 115)⟩, ⟨some 117, none, .fa (.t 116) 11⟩, ⟨some 118, none, .ld (.t 117) 1 false⟩, ⟨some 119, none, .ca 108 [.t 118]⟩]) (.sq (.rg [⟨some 120, none, .mv (.t 0)⟩, ⟨some 121, none, .nc (.t 120)⟩, ⟨some 122, none, .fa (.t 121) 11⟩, ⟨some 123, none, .ld (.t 122) 1 false⟩, ⟨some 124, none, .nc (.t 123)⟩, ⟨some 125, none, .fa (.t 124) 5⟩, ⟨some 126, none, .ld (.t 125) 1 false⟩]) (.cd (.t 126) (.rg [⟨some 127, none, .mv (.t 0)⟩, ⟨some 128, none, .ca 109 [.t 127]⟩]) .sk))) (.sq (.rg [⟨some 130, none, .ib .eql (.t 48) (.c (.int .i64 3))⟩, ⟨some 129, none, .mv (.t 130)⟩]) (.cd (.t 129) (.sq (.rd [⟨0, 0, [3], ⟨some 131, none, .mv (.t 3)⟩⟩, ⟨1, 1, [131], ⟨some 132, none, .nc (.t 131)⟩⟩, ⟨2, 3, [132], ⟨some 133, none, .fa (.t 132) 6⟩⟩, ⟨3, 7, [133], ⟨some 134, none, .ld (.t 133) 1 false⟩⟩, ⟨4, 0, [3], ⟨some 135, none, .mv (.t 3)⟩⟩, ⟨5, 16, [135], ⟨some 136, none, .nc (.t 135)⟩⟩, ⟨6, 48, [136], ⟨some 137, none, .fa (.t 136) 0⟩⟩, ⟨7, 112, [137], ⟨some 138, none, .ld (.t 137) 6 true⟩⟩, ⟨8, 0, [0], ⟨some 139, none, .mv (.t 0)⟩⟩, ⟨9, 256, [139], ⟨some 140, none, .nc (.t 139)⟩⟩, ⟨10, 768, [140], ⟨some 141, none, .fa (.t 140) 8⟩⟩, ⟨11, 1792, [141], ⟨some 142, none, .ld (.t 141) 1 false⟩⟩, ⟨12, 0, [0], ⟨some 143, none, .mv (.t 0)⟩⟩, ⟨13, 4096, [143], ⟨some 144, none, .nc (.t 143)⟩⟩, ⟨14, 12288, [144], ⟨some 145, none, .fa (.t 144) 9⟩⟩, ⟨15, 28672, [145], ⟨some 146, none, .ld (.t 145) 1 false⟩⟩, ⟨16, 65520, [138, 142, 146], ⟨some 147, none, .ca 111 [.t 138, .t 142, .t 146]⟩⟩,
  ⟨17, 131071, [134, 147], ⟨some 148, none, .ca 110 [.t 134, .t 147, (.c (.int .u64 0))]⟩⟩]) (.sq (.rg [⟨some 149, none, .mv (.t 0)⟩, ⟨some 150, none, .nc (.t 149)⟩, ⟨some 151, none, .fa (.t 150) 9⟩, ⟨some 152, none, .ld (.t 151) 1 false⟩, ⟨some 153, none, .ib .add (.t 152) (.c (.int .i64 1))⟩, ⟨some 154, none, .nc (.t 149)⟩, ⟨some 155, none, .fa (.t 154) 9⟩, ⟨none, none, .st (.t 155) (.t 153) 1⟩]) (.sq (.rd [⟨0, 0, [0], ⟨some 156, none, .mv (.t 0)⟩⟩, ⟨1, 1, [156], ⟨some 157, none, .nc (.t 156)⟩⟩, ⟨2, 3, [157], ⟨some 158, none, .fa (.t 157) 9⟩⟩, ⟨3, 7, [158], ⟨some 159, none, .ld (.t 158) 1 false⟩⟩, ⟨4, 0, [3], ⟨some 160, none, .mv (.t 3)⟩⟩, ⟨5, 16, [160], ⟨some 161, none, .nc (.t 160)⟩⟩, ⟨6, 48, [161], ⟨some 162, none, .fa (.t 161) 0⟩⟩, ⟨7, 112, [162], ⟨some 163, none, .fa (.t 162) 2⟩⟩, ⟨8, 240, [163], ⟨some 164, none, .ld (.t 163) 1 false⟩⟩, ⟨9, 511, [159, 164], ⟨some 165, none, .ib .eql (.t 159) (.t 164)⟩⟩]) (.cd (.t 165) (.rg [⟨some 166, none, .mv (.t 0)⟩, ⟨some 167, none, .nc (.t 166)⟩, ⟨some 168, none, .fa (.t 167) 4⟩, ⟨none, none, .st (.t 168) (.c (.int .i64 4)) 1⟩]) .sk)))) (.sq (.rg [⟨some 170, none, .ib .eql (.t 48) (.c (.int .i64 4))⟩, ⟨some 169, none, .mv (.t 170)⟩]) (.cd (.t 169) (.sq (.rd [⟨0, 0, [3], ⟨some 171, none, .mv (.t 3)⟩⟩, ⟨1, 1, [171], ⟨some 172, none, .nc (.t 171)⟩⟩, ⟨2, 3, [172], ⟨some 173, none, .fa (.t 172) 6⟩⟩, ⟨3, 7, [173], ⟨some 174, none, .ld (.t 173) 1 false⟩⟩, ⟨4, 0, [3], ⟨some 175, none, .mv (.t 3)⟩⟩, ⟨5, 16, [175], ⟨some 176, none, .nc (.t 175)⟩⟩, ⟨6, 48, [176], ⟨some 177, none, .fa (.t 176) 0⟩⟩, ⟨7, 112, [177], ⟨some 178, none, .ld (.t 177) 6 true⟩⟩, ⟨8, 0, [0], ⟨some 179, none, .mv (.t 0)⟩⟩, ⟨9, 256, [179], ⟨some 180, none, .nc (.t 179)⟩⟩, ⟨10, 768, [180], ⟨some 181, none, .fa (.t 180) 8⟩⟩, ⟨11, 1792, [181], ⟨some 182, none, .ld (.t 181) 1 false⟩⟩, ⟨12, 4080, [178, 182], ⟨some 183, none, .ca 112 [.t 178, .t 182]⟩⟩, ⟨13, 0, [5], ⟨some 184, none, .ld (.t 5) 4 true⟩⟩, ⟨14, 16368, [184], ⟨some 185, none, .ca 103 [.t 184]⟩⟩, ⟨15, 32752, [185], ⟨some 186, none, .ib .add (.t 185) (.c (.int .i64 1))⟩⟩,
  ⟨16, 65520, [186], ⟨some 187, none, .cv .u64 (.t 186)⟩⟩, ⟨17, 131071, [174, 183, 187], ⟨some 188, none, .ca 110 [.t 174, .t 183, .t 187]⟩⟩]) (.rg [⟨some 189, none, .mv (.t 0)⟩, ⟨some 190, none, .nc (.t 189)⟩, ⟨some 191, none, .fa (.t 190) 4⟩, ⟨none, none, .st (.t 191) (.c (.int .i64 5)) 1⟩])) (.sq (.rg [⟨some 193, none, .ib .eql (.t 48) (.c (.int .i64 5))⟩, ⟨some 192, none, .mv (.t 193)⟩]) (.cd (.t 192) (.sq (.rg [⟨some 194, none, .ld (.t 5) 4 true⟩, ⟨some 9, none, .al 162 [.int .i64 0, .int .i64 0, .int .i64 0, .int .i64 0]⟩, ⟨none, none, .st (.t 9) (.t 194) 4⟩]) (.sq (.rd [⟨0, 0, [0], ⟨some 195, none, .mv (.t 0)⟩⟩, ⟨1, 1, [195], ⟨some 196, none, .nc (.t 195)⟩⟩, ⟨2, 3, [196], ⟨some 197, none, .fa (.t 196) 8⟩⟩, ⟨3, 7, [197], ⟨some 198, none, .ld (.t 197) 1 false⟩⟩, ⟨4, 15, [198], ⟨some 199, none, .ib .add (.t 198) (.c (.int .i64 2))⟩⟩, ⟨5, 0, [3], ⟨some 200, none, .mv (.t 3)⟩⟩, ⟨6, 32, [200], ⟨some 201, none, .nc (.t 200)⟩⟩, ⟨7, 96, [201], ⟨some 202, none, .fa (.t 201) 0⟩⟩, ⟨8, 224, [202], ⟨some 203, none, .fa (.t 202) 2⟩⟩, ⟨9, 480, [203], ⟨some 204, none, .ld (.t 203) 1 false⟩⟩, ⟨10, 0, [0], ⟨some 205, none, .mv (.t 0)⟩⟩, ⟨11, 1024, [205], ⟨some 206, none, .nc (.t 205)⟩⟩, ⟨12, 3072, [206], ⟨some 207, none, .fa (.t 206) 7⟩⟩, ⟨13, 7168, [207], ⟨some 208, none, .ld (.t 207) 1 false⟩⟩, ⟨14, 16352, [204, 208], ⟨some 209, none, .ca 113 [.t 204, .t 208]⟩⟩, ⟨15, 31, [9], ⟨some 210, none, .fa (.t 9) 1⟩⟩, ⟨16, 65535, [210, 199], ⟨none, none, .st (.t 210) (.t 199) 1⟩⟩, ⟨17, 131071, [9], ⟨some 211, none, .fa (.t 9) 3⟩⟩, ⟨18, 262143, [211, 209], ⟨none, none, .st (.t 211) (.t 209) 1⟩⟩]) (.sq (.rg [⟨some 213, none, .ld (.t 9) 4 true⟩, ⟨some 214, none, .ca 101 [.t 213]⟩, ⟨some 212, none, .mv (.t 214)⟩, ⟨some 215, none, .ex (.t 212) 0⟩, ⟨some 216, none, .ex (.t 212) 1⟩, ⟨some 10, none, .mv (.t 215)⟩, ⟨some 11, none, .mv (.t 216)⟩]) (.sq (.rg [⟨some 217, none, .mv (.t 0)⟩, ⟨some 218, none, .nc (.t 217)⟩, ⟨some 219, none, .fa (.t 218) 4⟩, ⟨none, none, .st (.t 219) (.c (.int .i64 0)) 1⟩])
 (.sq (.rd [⟨0, 0, [3], ⟨some 220, none, .mv (.t 3)⟩⟩, ⟨1, 1, [220], ⟨some 221, none, .nc (.t 220)⟩⟩, ⟨2, 3, [221], ⟨some 222, none, .fa (.t 221) 6⟩⟩, ⟨3, 7, [222], ⟨some 223, none, .ld (.t 222) 1 false⟩⟩, ⟨4, 0, [4], ⟨some 224, none, .mv (.t 4)⟩⟩, ⟨5, 0, [0], ⟨some 225, none, .mv (.t 0)⟩⟩, ⟨6, 32, [225], ⟨some 226, none, .nc (.t 225)⟩⟩, ⟨7, 96, [226], ⟨some 227, none, .fa (.t 226) 10⟩⟩, ⟨8, 224, [227], ⟨some 228, none, .ld (.t 227) 1 false⟩⟩, ⟨9, 0, [10], ⟨some 229, none, .mv (.t 10)⟩⟩, ⟨10, 1023, [223, 224, 228, 229], ⟨some 230, none, .ca 102 [.t 223, .t 224, .t 228, .t 229]⟩⟩]) (.cd (.t 230) (.sq (.rg [⟨some 231, none, .mv (.t 0)⟩, ⟨some 232, none, .nc (.t 231)⟩, ⟨some 233, none, .fa (.t 232) 8⟩, ⟨some 234, none, .ld (.t 233) 1 false⟩, ⟨some 12, none, .mv (.t 234)⟩]) (.sq (.rg [⟨some 235, none, .mv (.t 0)⟩, ⟨some 236, none, .nc (.t 235)⟩, ⟨some 237, none, .fa (.t 236) 8⟩, ⟨none, none, .st (.t 237) (.c (.int .i64 (-1))) 1⟩]) (.rg [⟨some 238, none, .mv (.t 0)⟩, ⟨some 239, none, .mv (.t 12)⟩, ⟨some 240, none, .ca 107 [.t 238, .t 239, (.c (.int .i64 0))]⟩]))) .sk)))))) (.sq (.rg [⟨some 49, none, .mv (.t 0)⟩, ⟨some 50, none, .nc (.t 49)⟩, ⟨some 51, none, .fa (.t 50) 12⟩, ⟨some 52, none, .ld (.t 51) 1 false⟩, ⟨some 53, none, .ca 114 [.t 52]⟩]) (.rg [⟨some 54, none, .mv (.t 0)⟩, ⟨some 55, none, .mv (.t 0)⟩, ⟨some 56, none, .nc (.t 55)⟩, ⟨some 57, none, .fa (.t 56) 12⟩, ⟨some 58, none, .ld (.t 57) 1 false⟩, ⟨some 59, none, .nc (.t 58)⟩, ⟨some 60, none, .fa (.t 59) 2⟩, ⟨some 61, none, .ld (.t 60) 1 false⟩, ⟨some 62, none, .nc (.t 54)⟩, ⟨some 63, none, .fa (.t 62) 20⟩, ⟨none, none, .st (.t 63) (.t 61) 1⟩])))))))))))))))) (.sq (.rg [⟨some 2, none, .mv (.c (.bool true))⟩]) .rt))))))))⟩
theorem k38 : cF Tryz.prog Tryz.f38 = some c38 := by kernel_rfl
def c39 : Fu := ⟨59, [.t 4], (.sq (.rg [⟨some 4, none, .mv (.c (.bool false))⟩]) (.sq (.sq (.rd [⟨0, 0, [0], ⟨some 5, none, .mv (.t 0)⟩⟩, ⟨1, 1, [5], ⟨some 6, none, .ca 27 [.t 5]⟩⟩, ⟨2, 0, [1], ⟨some 7, none, .mv (.t 1)⟩⟩, ⟨3, 4, [7], ⟨some 8, none, .nc (.t 7)⟩⟩, ⟨4, 12, [8], ⟨some 9, none, .fa (.t 8) 20⟩⟩, ⟨5, 28, [9], ⟨some 10, none, .ld (.t 9) 1 false⟩⟩, ⟨6, 63, [6, 10], ⟨some 11, none, .bb true (.t 6) (.t 10)⟩⟩, ⟨7, 127, [11], ⟨some 12, none, .mv (.t 11)⟩⟩, ⟨8, 255, [0, 12], ⟨some 13, some (12, false), .mv (.t 0)⟩⟩, ⟨9, 511, [13, 12], ⟨some 14, some (12, false), .ca 22 [.t 13]⟩⟩, ⟨10, 255, [1, 12], ⟨some 15, some (12, false), .mv (.t 1)⟩⟩, ⟨11, 1279, [15, 12], ⟨some 16, some (12, false), .nc (.t 15)⟩⟩, ⟨12, 3327, [16, 12], ⟨some 17, some (12, false), .fa (.t 16) 6⟩⟩, ⟨13, 7423, [17, 12], ⟨some 18, some (12, false), .ld (.t 17) 1 false⟩⟩, ⟨14, 16383, [14, 18, 12], ⟨some 19, some (12, false), .ib .neq (.t 14) (.t 18)⟩⟩, ⟨15, 32767, [12, 19], ⟨some 20, none, .pk (.t 12) (.c (.bool true)) (.t 19)⟩⟩, ⟨16, 65535, [20], ⟨some 21, none, .mv (.t 20)⟩⟩, ⟨17, 131071, [0, 21], ⟨some 22, some (21, false), .mv (.t 0)⟩⟩, ⟨18, 262143, [22, 21], ⟨some 23, some (21, false), .ca 42 [.t 22]⟩⟩, ⟨19, 131071, [1, 21], ⟨some 24, some (21, false), .mv (.t 1)⟩⟩, ⟨20, 1048575, [24, 21], ⟨some 25, some (21, false), .ca 115 [.t 24]⟩⟩, ⟨21, 2097151, [23, 25, 21], ⟨some 26, some (21, false), .ca 62 [.t 23, .t 25]⟩⟩, ⟨22, 4194303, [26, 21], ⟨some 27, some (21, false), .nt (.t 26)⟩⟩, ⟨23, 8388607, [21, 27], ⟨some 28, none, .pk (.t 21) (.c (.bool true)) (.t 27)⟩⟩]) (.cd (.t 28) (.sq (.rg [⟨some 4, none, .mv (.c (.bool false))⟩]) .rt) .sk)) (.sq (.sq (.rg [⟨some 29, none, .mv (.t 1)⟩, ⟨some 30, none, .nc (.t 29)⟩, ⟨some 31, none, .fa (.t 30) 20⟩, ⟨some 32, none, .ld (.t 31) 1 false⟩, ⟨some 33, none, .nt (.t 32)⟩]) (.cd (.t 33) (.sq (.rg [⟨some 34, none, .mv (.t 0)⟩, ⟨some 35, none, .ca 21 [.t 34]⟩, ⟨some 36, none, .ib .eql (.t 35) (.c (.int .i64 0))⟩, ⟨some 37, none, .mv (.t 36)⟩, ⟨some 38, some (37, true), .mv (.t 0)⟩,
  ⟨some 39, some (37, true), .ca 28 [.t 38]⟩, ⟨some 40, some (37, true), .bd [.int .i64 0, .int .i64 0, .int .i64 0, .int .i64 0, .int .i64 0] []⟩, ⟨some 41, some (37, true), .es 5 false (.t 39) (.t 40)⟩, ⟨some 42, none, .pk (.t 37) (.t 41) (.c (.bool false))⟩, ⟨some 4, none, .mv (.t 42)⟩]) .rt) .sk)) (.sq (.rd [⟨0, 0, [0], ⟨some 43, none, .mv (.t 0)⟩⟩, ⟨1, 1, [43], ⟨some 44, none, .ca 21 [.t 43]⟩⟩, ⟨2, 0, [1], ⟨some 45, none, .mv (.t 1)⟩⟩, ⟨3, 4, [45], ⟨some 46, none, .nc (.t 45)⟩⟩, ⟨4, 12, [46], ⟨some 47, none, .fa (.t 46) 13⟩⟩, ⟨5, 28, [47], ⟨some 48, none, .ld (.t 47) 1 false⟩⟩, ⟨6, 63, [44, 48], ⟨some 49, none, .ib .eql (.t 44) (.t 48)⟩⟩, ⟨7, 127, [49], ⟨some 50, none, .mv (.t 49)⟩⟩, ⟨8, 255, [0, 50], ⟨some 51, some (50, true), .mv (.t 0)⟩⟩, ⟨9, 511, [51, 50], ⟨some 52, some (50, true), .ca 28 [.t 51]⟩⟩, ⟨10, 255, [1, 50], ⟨some 53, some (50, true), .mv (.t 1)⟩⟩, ⟨11, 1279, [53, 50], ⟨some 54, some (50, true), .nc (.t 53)⟩⟩, ⟨12, 3327, [54, 50], ⟨some 55, some (50, true), .fa (.t 54) 14⟩⟩, ⟨13, 7423, [55, 50], ⟨some 56, some (50, true), .ld (.t 55) 5 true⟩⟩, ⟨14, 16383, [52, 56, 50], ⟨some 57, some (50, true), .es 5 false (.t 52) (.t 56)⟩⟩, ⟨15, 32767, [50, 57], ⟨some 58, none, .pk (.t 50) (.t 57) (.c (.bool false))⟩⟩, ⟨16, 65535, [58], ⟨some 4, none, .mv (.t 58)⟩⟩]) .rt))))⟩
theorem k39 : cF Tryz.prog Tryz.f39 = some c39 := by kernel_rfl
def c40 : Fu := ⟨88, [.t 2], (.sq (.rg [⟨some 2, none, .mv (.c (.bool false))⟩]) (.sq (.sq (.rg [⟨some 3, none, .mv (.c (.int .i64 0))⟩]) (.bl 0 (.lp (.sq (.sq (.rg [⟨some 5, none, .mv (.t 3)⟩, ⟨some 6, none, .mv (.t 0)⟩, ⟨some 7, none, .nc (.t 6)⟩, ⟨some 8, none, .fa (.t 7) 11⟩, ⟨some 9, none, .ld (.t 8) 1 false⟩, ⟨some 10, none, .nc (.t 9)⟩, ⟨some 11, none, .fa (.t 10) 6⟩, ⟨some 12, none, .ld (.t 11) 1 false⟩, ⟨some 13, none, .nc (.t 12)⟩, ⟨some 14, none, .fa (.t 13) 0⟩, ⟨some 15, none, .ld (.t 14) 1 false⟩, ⟨some 16, none, .len (.t 15)⟩, ⟨some 17, none, .ib .lss (.t 5) (.t 16)⟩]) (.cd (.t 17) .sk (.ex 0))) (.sq (.bl 1 (.sq (.rd [⟨0, 0, [0], ⟨some 20, none, .mv (.t 0)⟩⟩, ⟨1, 1, [20], ⟨some 21, none, .nc (.t 20)⟩⟩, ⟨2, 3, [21], ⟨some 22, none, .fa (.t 21) 6⟩⟩, ⟨3, 7, [22], ⟨some 23, none, .ld (.t 22) 1 false⟩⟩, ⟨4, 0, [3], ⟨some 24, none, .mv (.t 3)⟩⟩, ⟨5, 31, [23, 24], ⟨some 25, none, .ca 29 [.t 23, .t 24]⟩⟩, ⟨6, 0, [0], ⟨some 26, none, .mv (.t 0)⟩⟩, ⟨7, 64, [26], ⟨some 27, none, .nc (.t 26)⟩⟩, ⟨8, 192, [27], ⟨some 28, none, .fa (.t 27) 11⟩⟩, ⟨9, 448, [28], ⟨some 29, none, .ld (.t 28) 1 false⟩⟩, ⟨10, 960, [29], ⟨some 30, none, .nc (.t 29)⟩⟩, ⟨11, 1984, [30], ⟨some 31, none, .fa (.t 30) 6⟩⟩, ⟨12, 4032, [31], ⟨some 32, none, .ld (.t 31) 1 false⟩⟩, ⟨13, 8128, [32], ⟨some 33, none, .nc (.t 32)⟩⟩, ⟨14, 16320, [33], ⟨some 34, none, .fa (.t 33) 0⟩⟩, ⟨15, 32704, [34], ⟨some 35, none, .ld (.t 34) 1 false⟩⟩, ⟨16, 0, [3], ⟨some 36, none, .mv (.t 3)⟩⟩, ⟨17, 131008, [35, 36], ⟨some 37, none, .ia (.t 35) (.t 36) 1⟩⟩, ⟨18, 262080, [37], ⟨some 38, none, .ld (.t 37) 1 false⟩⟩, ⟨19, 524287, [25, 38], ⟨some 39, none, .ib .neq (.t 25) (.t 38)⟩⟩]) (.cd (.t 39) (.sq (.rg [⟨some 2, none, .mv (.c (.bool false))⟩]) .rt) .sk))) (.rg [⟨some 18, none, .mv (.t 3)⟩, ⟨some 19, none, .ib .add (.t 18) (.c (.int .i64 1))⟩, ⟨some 3, none, .mv (.t 19)⟩])))))) (.sq (.sq (.rg [⟨some 4, none, .mv (.c (.int .i64 0))⟩]) (.bl 2 (.lp (.sq (.sq (.rg [⟨some 40, none, .mv (.t 4)⟩, ⟨some 41, none, .mv (.t 0)⟩,
  ⟨some 42, none, .nc (.t 41)⟩, ⟨some 43, none, .fa (.t 42) 10⟩, ⟨some 44, none, .ld (.t 43) 1 false⟩, ⟨some 45, none, .len (.t 44)⟩, ⟨some 46, none, .ib .lss (.t 40) (.t 45)⟩]) (.cd (.t 46) .sk (.ex 2))) (.sq (.bl 3 (.sq (.rd [⟨0, 0, [0], ⟨some 49, none, .mv (.t 0)⟩⟩, ⟨1, 1, [49], ⟨some 50, none, .nc (.t 49)⟩⟩, ⟨2, 3, [50], ⟨some 51, none, .fa (.t 50) 10⟩⟩, ⟨3, 7, [51], ⟨some 52, none, .ld (.t 51) 1 false⟩⟩, ⟨4, 0, [4], ⟨some 53, none, .mv (.t 4)⟩⟩, ⟨5, 31, [52, 53], ⟨some 54, none, .ia (.t 52) (.t 53) 1⟩⟩, ⟨6, 63, [54], ⟨some 55, none, .ld (.t 54) 1 false⟩⟩, ⟨7, 127, [55], ⟨some 56, none, .ca 44 [.t 55]⟩⟩, ⟨8, 0, [0], ⟨some 57, none, .mv (.t 0)⟩⟩, ⟨9, 256, [57], ⟨some 58, none, .nc (.t 57)⟩⟩, ⟨10, 768, [58], ⟨some 59, none, .fa (.t 58) 12⟩⟩, ⟨11, 1792, [59], ⟨some 60, none, .ld (.t 59) 1 false⟩⟩, ⟨12, 0, [4], ⟨some 61, none, .mv (.t 4)⟩⟩, ⟨13, 7936, [60, 61], ⟨some 62, none, .ia (.t 60) (.t 61) 1⟩⟩, ⟨14, 16128, [62], ⟨some 63, none, .ld (.t 62) 1 false⟩⟩, ⟨15, 32512, [63], ⟨some 64, none, .nc (.t 63)⟩⟩, ⟨16, 65280, [64], ⟨some 65, none, .fa (.t 64) 1⟩⟩, ⟨17, 130816, [65], ⟨some 66, none, .ld (.t 65) 1 false⟩⟩, ⟨18, 261888, [66], ⟨some 67, none, .nc (.t 66)⟩⟩, ⟨19, 524032, [67], ⟨some 68, none, .fa (.t 67) 1⟩⟩, ⟨20, 1048320, [68], ⟨some 69, none, .ld (.t 68) 1 false⟩⟩, ⟨21, 2097151, [56, 69], ⟨some 70, none, .ca 62 [.t 56, .t 69]⟩⟩, ⟨22, 4194303, [70], ⟨some 71, none, .nt (.t 70)⟩⟩]) (.cd (.t 71) (.sq (.rg [⟨some 2, none, .mv (.c (.bool false))⟩]) .rt) .sk))) (.rg [⟨some 47, none, .mv (.t 4)⟩, ⟨some 48, none, .ib .add (.t 47) (.c (.int .i64 1))⟩, ⟨some 4, none, .mv (.t 48)⟩])))))) (.sq (.rd [⟨0, 0, [0], ⟨some 72, none, .mv (.t 0)⟩⟩, ⟨1, 1, [72], ⟨some 73, none, .nc (.t 72)⟩⟩, ⟨2, 3, [73], ⟨some 74, none, .fa (.t 73) 6⟩⟩, ⟨3, 7, [74], ⟨some 75, none, .ld (.t 74) 1 false⟩⟩, ⟨4, 15, [75], ⟨some 76, none, .ca 116 [.t 75]⟩⟩, ⟨5, 0, [0], ⟨some 77, none, .mv (.t 0)⟩⟩, ⟨6, 32, [77], ⟨some 78, none, .nc (.t 77)⟩⟩, ⟨7, 96, [78], ⟨some 79, none, .fa (.t 78) 11⟩⟩, ⟨8, 224, [79], ⟨some 80, none, .ld (.t 79) 1 false⟩⟩,
  ⟨9, 480, [80], ⟨some 81, none, .nc (.t 80)⟩⟩, ⟨10, 992, [81], ⟨some 82, none, .fa (.t 81) 6⟩⟩, ⟨11, 2016, [82], ⟨some 83, none, .ld (.t 82) 1 false⟩⟩, ⟨12, 4064, [83], ⟨some 84, none, .nc (.t 83)⟩⟩, ⟨13, 8160, [84], ⟨some 85, none, .fa (.t 84) 1⟩⟩, ⟨14, 16352, [85], ⟨some 86, none, .ld (.t 85) 1 false⟩⟩, ⟨15, 32767, [76, 86], ⟨some 87, none, .ib .eql (.t 76) (.t 86)⟩⟩, ⟨16, 65535, [87], ⟨some 2, none, .mv (.t 87)⟩⟩]) .rt))))⟩
theorem k40 : cF Tryz.prog Tryz.f40 = some c40 := by kernel_rfl
def c42 : Fu := ⟨24, [.t 2], (.sq (.rg [⟨some 2, none, .mv (.c (.slice none 0 0))⟩]) (.sq (.bl 0 (.sq (.rg [⟨some 4, none, .mv (.t 0)⟩, ⟨some 5, none, .nc (.t 4)⟩, ⟨some 6, none, .fa (.t 5) 13⟩, ⟨some 7, none, .ld (.t 6) 1 false⟩, ⟨some 3, none, .mv (.t 7)⟩]) (.cd (.t 3) (.sq (.rg [⟨some 8, none, .mv (.t 0)⟩, ⟨some 9, none, .nc (.t 8)⟩, ⟨some 10, none, .fa (.t 9) 22⟩, ⟨some 11, none, .ld (.t 10) 1 false⟩, ⟨some 12, none, .ca 117 [.t 11]⟩, ⟨some 2, none, .mv (.t 12)⟩]) .rt) (.sq (.rg [⟨some 14, none, .mv (.t 0)⟩, ⟨some 15, none, .nc (.t 14)⟩, ⟨some 16, none, .fa (.t 15) 10⟩, ⟨some 17, none, .ld (.t 16) 1 false⟩, ⟨some 18, none, .ib .geq (.t 17) (.c (.int .i64 0))⟩, ⟨some 13, none, .mv (.t 18)⟩]) (.cd (.t 13) (.sq (.rg [⟨some 19, none, .mv (.t 0)⟩, ⟨some 20, none, .nc (.t 19)⟩, ⟨some 21, none, .fa (.t 20) 10⟩, ⟨some 22, none, .ld (.t 21) 1 false⟩, ⟨some 23, none, .bs 3 1 [.int .i64 0] [(0, 1, (.t 22))]⟩, ⟨some 2, none, .mv (.t 23)⟩]) .rt) .sk))))) (.sq (.rg [⟨some 2, none, .mv (.c (.slice none 0 0))⟩]) .rt)))⟩
theorem k42 : cF Tryz.prog Tryz.f42 = some c42 := by kernel_rfl
def c44 : Fu := ⟨8, [.t 2], (.sq (.rg [⟨some 2, none, .mv (.c (.slice none 0 0))⟩]) (.sq (.rg [⟨some 3, none, .mv (.t 0)⟩, ⟨some 4, none, .nc (.t 3)⟩, ⟨some 5, none, .fa (.t 4) 8⟩, ⟨some 6, none, .ld (.t 5) 1 false⟩, ⟨some 7, none, .ca 118 [.t 6]⟩, ⟨some 2, none, .mv (.t 7)⟩]) .rt))⟩
theorem k44 : cF Tryz.prog Tryz.f44 = some c44 := by kernel_rfl
def c62 : Fu := ⟨26, [.t 4], (.sq (.rg [⟨some 4, none, .mv (.c (.bool false))⟩]) (.sq (.sq (.rg [⟨some 6, none, .mv (.t 0)⟩, ⟨some 7, none, .len (.t 6)⟩, ⟨some 8, none, .mv (.t 1)⟩, ⟨some 9, none, .len (.t 8)⟩, ⟨some 10, none, .ib .neq (.t 7) (.t 9)⟩]) (.cd (.t 10) (.sq (.rg [⟨some 4, none, .mv (.c (.bool false))⟩]) .rt) .sk)) (.sq (.sq (.rg [⟨some 5, none, .mv (.c (.int .i64 0))⟩]) (.bl 0 (.lp (.sq (.sq (.rg [⟨some 11, none, .mv (.t 5)⟩, ⟨some 12, none, .mv (.t 0)⟩, ⟨some 13, none, .len (.t 12)⟩, ⟨some 14, none, .ib .lss (.t 11) (.t 13)⟩]) (.cd (.t 14) .sk (.ex 0))) (.sq (.bl 1 (.sq (.rd [⟨0, 0, [0], ⟨some 17, none, .mv (.t 0)⟩⟩, ⟨1, 0, [5], ⟨some 18, none, .mv (.t 5)⟩⟩, ⟨2, 3, [17, 18], ⟨some 19, none, .ia (.t 17) (.t 18) 1⟩⟩, ⟨3, 7, [19], ⟨some 20, none, .ld (.t 19) 1 false⟩⟩, ⟨4, 0, [1], ⟨some 21, none, .mv (.t 1)⟩⟩, ⟨5, 0, [5], ⟨some 22, none, .mv (.t 5)⟩⟩, ⟨6, 48, [21, 22], ⟨some 23, none, .ia (.t 21) (.t 22) 1⟩⟩, ⟨7, 112, [23], ⟨some 24, none, .ld (.t 23) 1 false⟩⟩, ⟨8, 255, [20, 24], ⟨some 25, none, .ib .neq (.t 20) (.t 24)⟩⟩]) (.cd (.t 25) (.sq (.rg [⟨some 4, none, .mv (.c (.bool false))⟩]) .rt) .sk))) (.rg [⟨some 15, none, .mv (.t 5)⟩, ⟨some 16, none, .ib .add (.t 15) (.c (.int .i64 1))⟩, ⟨some 5, none, .mv (.t 16)⟩])))))) (.sq (.rg [⟨some 4, none, .mv (.c (.bool true))⟩]) .rt))))⟩
theorem k62 : cF Tryz.prog Tryz.f62 = some c62 := by kernel_rfl
def c67 : Fu := ⟨20, [.t 4], (.sq (.rg [⟨some 4, none, .mv (.c (.int .i64 0))⟩]) (.sq (.rg [⟨some 6, none, .mv (.t 0)⟩, ⟨some 7, none, .nc (.t 6)⟩, ⟨some 8, none, .fa (.t 7) 9⟩, ⟨some 9, none, .ld (.t 8) 1 false⟩, ⟨some 10, none, .mv (.t 1)⟩, ⟨some 11, none, .ca 135 [.t 9, .t 10]⟩, ⟨some 5, none, .mv (.t 11)⟩]) (.sq (.rg [⟨some 12, none, .mv (.t 0)⟩, ⟨some 13, none, .nc (.t 12)⟩, ⟨some 14, none, .fa (.t 13) 8⟩, ⟨some 15, none, .ld (.t 14) 1 false⟩, ⟨some 16, none, .mv (.t 5)⟩, ⟨some 17, none, .ca 136 [.t 15, .t 16]⟩]) (.sq (.rg [⟨some 18, none, .mv (.t 5)⟩, ⟨some 19, none, .len (.t 18)⟩, ⟨some 4, none, .mv (.t 19)⟩]) .rt))))⟩
theorem k67 : cF Tryz.prog Tryz.f67 = some c67 := by kernel_rfl
def c68 : Fu := ⟨36, [.t 4], (.sq (.rg [⟨some 4, none, .mv (.c (.int .i64 0))⟩]) (.sq (.rg [⟨some 5, none, .mv (.c (.int .i64 0))⟩]) (.sq (.sq (.rd [⟨0, 0, [0], ⟨some 6, none, .mv (.t 0)⟩⟩, ⟨1, 1, [6], ⟨some 7, none, .nc (.t 6)⟩⟩, ⟨2, 3, [7], ⟨some 8, none, .fa (.t 7) 1⟩⟩, ⟨3, 7, [8], ⟨some 9, none, .ld (.t 8) 1 false⟩⟩, ⟨4, 0, [0], ⟨some 10, none, .mv (.t 0)⟩⟩, ⟨5, 16, [10], ⟨some 11, none, .nc (.t 10)⟩⟩, ⟨6, 48, [11], ⟨some 12, none, .fa (.t 11) 0⟩⟩, ⟨7, 112, [12], ⟨some 13, none, .ld (.t 12) 1 false⟩⟩, ⟨8, 240, [13], ⟨some 14, none, .len (.t 13)⟩⟩, ⟨9, 511, [9, 14], ⟨some 15, none, .ib .lss (.t 9) (.t 14)⟩⟩]) (.cd (.t 15) (.rd [⟨0, 0, [0], ⟨some 16, none, .mv (.t 0)⟩⟩, ⟨1, 1, [16], ⟨some 17, none, .nc (.t 16)⟩⟩, ⟨2, 3, [17], ⟨some 18, none, .fa (.t 17) 0⟩⟩, ⟨3, 7, [18], ⟨some 19, none, .ld (.t 18) 1 false⟩⟩, ⟨4, 0, [0], ⟨some 20, none, .mv (.t 0)⟩⟩, ⟨5, 16, [20], ⟨some 21, none, .nc (.t 20)⟩⟩, ⟨6, 48, [21], ⟨some 22, none, .fa (.t 21) 1⟩⟩, ⟨7, 112, [22], ⟨some 23, none, .ld (.t 22) 1 false⟩⟩, ⟨8, 255, [19, 23], ⟨some 24, none, .ia (.t 19) (.t 23) 1⟩⟩, ⟨9, 511, [24], ⟨some 25, none, .ld (.t 24) 1 false⟩⟩, ⟨10, 1023, [25], ⟨some 5, none, .mv (.t 25)⟩⟩]) .sk)) (.sq (.rg [⟨some 26, none, .mv (.t 0)⟩, ⟨some 27, none, .nc (.t 26)⟩, ⟨some 28, none, .fa (.t 27) 1⟩, ⟨some 29, none, .ld (.t 28) 1 false⟩, ⟨some 30, none, .ib .add (.t 29) (.c (.int .i64 1))⟩, ⟨some 31, none, .nc (.t 26)⟩, ⟨some 32, none, .fa (.t 31) 1⟩, ⟨none, none, .st (.t 32) (.t 30) 1⟩]) (.sq (.rg [⟨some 33, none, .mv (.t 5)⟩, ⟨some 34, none, .mv (.t 1)⟩, ⟨some 35, none, .ca 16 [.t 33, .t 34]⟩, ⟨some 4, none, .mv (.t 35)⟩]) .rt)))))⟩
theorem k68 : cF Tryz.prog Tryz.f68 = some c68 := by kernel_rfl
def c69 : Fu := ⟨35, [.t 4, .t 5], (.sq (.rg [⟨some 3, none, .bx 24 (.t 1)⟩, ⟨some 4, none, .mv (.c (.pointer none))⟩, ⟨some 5, none, .mv (.c (.int .i64 0))⟩]) (.sq (.sq (.rd [⟨0, 0, [3], ⟨some 8, none, .ld (.t 3) 6 true⟩⟩, ⟨1, 1, [8], ⟨some 9, none, .ca 77 [.t 8]⟩⟩, ⟨2, 3, [9], ⟨some 10, none, .nt (.t 9)⟩⟩, ⟨3, 7, [10], ⟨some 11, none, .mv (.t 10)⟩⟩, ⟨4, 15, [0, 11], ⟨some 12, some (11, false), .mv (.t 0)⟩⟩, ⟨5, 31, [12, 11], ⟨some 13, some (11, false), .ca 137 [.t 12]⟩⟩, ⟨6, 15, [3, 11], ⟨some 14, some (11, false), .ld (.t 3) 6 true⟩⟩, ⟨7, 127, [14, 11], ⟨some 15, some (11, false), .ca 17 [.t 14]⟩⟩, ⟨8, 255, [13, 15, 11], ⟨some 16, some (11, false), .ib .lss (.t 13) (.t 15)⟩⟩, ⟨9, 511, [11, 16], ⟨some 17, none, .pk (.t 11) (.c (.bool true)) (.t 16)⟩⟩]) (.cd (.t 17) (.sq (.rg [⟨some 4, none, .mv (.c (.pointer none))⟩, ⟨some 5, none, .mv (.c (.int .i64 1))⟩]) .rt) .sk)) (.sq (.rd [⟨0, 0, [0], ⟨some 19, none, .mv (.t 0)⟩⟩, ⟨1, 0, [3], ⟨some 20, none, .ld (.t 3) 6 true⟩⟩, ⟨2, 2, [20], ⟨some 21, none, .ca 139 [.t 20, (.c (.int .i64 0))]⟩⟩, ⟨3, 0, [3], ⟨some 22, none, .fa (.t 3) 1⟩⟩, ⟨4, 8, [22], ⟨some 23, none, .ld (.t 22) 1 false⟩⟩, ⟨5, 31, [19, 21, 23], ⟨some 24, none, .ca 138 [.t 19, (.c (.int .i64 0)), .t 21, .t 23]⟩⟩, ⟨6, 63, [24], ⟨some 18, none, .mv (.t 24)⟩⟩, ⟨7, 127, [18], ⟨some 25, none, .ex (.t 18) 0⟩⟩, ⟨8, 127, [18], ⟨some 26, none, .ex (.t 18) 1⟩⟩, ⟨9, 255, [25], ⟨some 6, none, .mv (.t 25)⟩⟩, ⟨10, 1023, [26], ⟨some 7, none, .mv (.t 26)⟩⟩]) (.sq (.sq (.rg [⟨some 27, none, .mv (.t 7)⟩, ⟨some 28, none, .ib .neq (.t 27) (.c (.int .i64 0))⟩]) (.cd (.t 28) (.sq (.rg [⟨some 29, none, .mv (.t 7)⟩, ⟨some 4, none, .mv (.c (.pointer none))⟩, ⟨some 5, none, .mv (.t 29)⟩]) .rt) .sk)) (.sq (.rg [⟨some 30, none, .mv (.t 0)⟩, ⟨some 31, none, .ld (.t 3) 6 true⟩, ⟨some 32, none, .mv (.t 6)⟩, ⟨some 33, none, .bd [(.pointer none), .int .i64 0, .int .i64 0, .int .i64 0, .int .i64 0, .int .i64 0, .int .i64 0, (.pointer none)] [(0, 1, (.t 30)), (1, 6, (.t 31)), (7, 1, (.t 32))]⟩,
  ⟨some 34, none, .bx 215 (.t 33)⟩, ⟨some 4, none, .mv (.t 34)⟩, ⟨some 5, none, .mv (.c (.int .i64 0))⟩]) .rt)))))⟩
theorem k69 : cF Tryz.prog Tryz.f69 = some c69 := by kernel_rfl
end Go.Proofs.YtflalhdofhobmaaGreat
