/-
  A small code: the model's operations and code with types looked up ahead and edges and places struck; what its plain operations come to; how the model's code turns into it.
-/
import Derived.Test.YtnbkjcmmjgkdaaaGreatSlA
set_option linter.unusedSimpArgs false
namespace Go.Proofs.YtnbkjcmmjgkdaaaGreat
open Go

/-- An operand: a temporary, or a constant. -/
inductive X
  | t (i : Nat)
  | c (v : Value)
/-- Operations. -/
inductive S
  | mv (x : X)
  | pk (c a b : X)
  | ib (o : BinOp) (x y : X)
  | bb (neg : Bool) (x y : X)
  | en (t : Nat) (neg : Bool) (x y : X)
  | sb (o : BinOp) (x y : X)
  | nt (x : X)
  | ng (x : X)
  | cv (k : IntKind) (x : X)
  | nc (x : X)
  | fa (x : X) (off : Nat)
  | fv (x : X) (off n : Nat) (agg : Bool)
  | ia (x i : X) (sz : Nat)
  | iaa (x i : X) (len sz : Nat)
  | iv (x i : X) (len sz : Nat) (agg : Bool)
  | is (x i : X)
  | ld (x : X) (n : Nat) (agg : Bool)
  | st (x v : X) (n : Nat)
  | al (E : TypeId) (z : List Value)
  | bx (E : TypeId) (x : X)
  | bd (z : List Value) (parts : List (Nat × Nat × X))
  | bs (E : TypeId) (len : Nat) (z : List Value) (parts : List (Nat × Nat × X))
  | mk (E sz by_ : Nat) (z : List Value) (l c : X)
  | sl (sz : Nat) (x : X) (lo hi mx : Option X)
  | sa (len sz : Nat) (x : X) (lo hi mx : Option X)
  | ss (x : X) (lo hi : Option X)
  | ex (x : X) (i : Nat)
  | mf (fn : Fn) (a b : List X)
  | len (x : X)
  | cap (x : X)
  | lens (x : X)
  | mm (big : Bool) (x y : X)
  | ap (T E sz by_ : Nat) (z : List Value) (x y : X)
  | ca (f : FuncId) (xs : List X)
  | cl (f : X) (xs : List X)
/-- An operation with its slot and its guard. -/
structure G where
  d : Option Nat
  g : Option (Nat × Bool)
  s : S
/-- Is a bit set? -/
def bit (m n : Nat) : Bool := Nat.beq (Nat.land (Nat.shiftRight m n) 1) 1
/-- An operation of a region that draws its order: its place, which places go ahead of it (bits), which temporaries it looks at. -/
structure It where
  i : Nat
  ds : Nat
  rs : List Nat
  g : G
/-- Code. -/
inductive C
  | sk
  | rg (l : List G)
  | rd (l : List It)
  | sq (a b : C)
  | cd (x : X) (a b : C)
  | bl (id : Nat) (c : C)
  | lp (c : C)
  | ex (id : Nat)
  | rt

/-- What is known of the temporaries: the newest first. -/
abbrev En := List (Nat × Value)
def En.get : En → Nat → Option Value
  | [], _ => none
  | (i, v) :: e, j => bif Nat.beq i j then some v else En.get e j
def En.put (e : En) (d : Option Nat) (v : Value) : En := match d with | some i => (i, v) :: e | none => e
def X.get (e : En) : X → Option Value
  | .t i => e.get i
  | .c v => some v
def gets (e : En) : List X → Option (List Value)
  | [] => some []
  | x :: l => match x.get e with
    | some v => match gets e l with
      | some vs => some (v :: vs)
      | none => none
    | none => none

/-- Whole numbers. -/
def bitsOf (o : BinOp) (k : IntKind) (x y : Int) : Int :=
  match o with
  | .and => k.wrap ((BitVec.ofInt k.bits x &&& BitVec.ofInt k.bits y).toNat)
  | .or => k.wrap ((BitVec.ofInt k.bits x ||| BitVec.ofInt k.bits y).toNat)
  | .xor => k.wrap ((BitVec.ofInt k.bits x ^^^ BitVec.ofInt k.bits y).toNat)
  | _ => k.wrap ((BitVec.ofInt k.bits x &&& ~~~ (BitVec.ofInt k.bits y)).toNat)
/-- What an operation on two whole numbers of one kind comes to, and on which condition. -/
def iop (o : BinOp) (k : IntKind) (x y : Int) : Option (Prop × Value) :=
  match o with
  | .add => some (True, .int k (k.wrap (x + y)))
  | .sub => some (True, .int k (k.wrap (x - y)))
  | .mul => some (True, .int k (k.wrap (x * y)))
  | .quo => some (y ≠ 0, .int k (k.wrap (x.tdiv y)))
  | .rem => some (y ≠ 0, .int k (x.tmod y))
  | .eql => some (True, .bool (decide (x = y)))
  | .neq => some (True, .bool (!decide (x = y)))
  | .lss => some (True, .bool (decide (x < y)))
  | .leq => some (True, .bool (decide (x ≤ y)))
  | .gtr => some (True, .bool (decide (y < x)))
  | .geq => some (True, .bool (decide (y ≤ x)))
  | .and => some (True, .int k (bitsOf .and k x y))
  | .or => some (True, .int k (bitsOf .or k x y))
  | .xor => some (True, .int k (bitsOf .xor k x y))
  | .andNot => some (True, .int k (bitsOf .andNot k x y))
  | _ => none
def shop (o : BinOp) (k : IntKind) (x y : Int) : Option (Prop × Value) :=
  match o with
  | .shl => some (0 ≤ y, .int k (k.wrap (x * 2 ^ (min y.toNat k.bits))))
  | .shr => some (0 ≤ y, .int k (x.fdiv (2 ^ (min y.toNat k.bits))))
  | _ => none
/-- The skip of a slice expression: none at its very end. -/
def skp (m l sz : Nat) : Nat := if m = l then 0 else l * sz
/-- Parts laid into a row of cells. -/
def lay (cs : List Value) (off : Nat) (vs : List Value) : List Value := cs.take off ++ vs ++ cs.drop (off + vs.length)
def cellsOf (v : Value) : Option (List Value) :=
  match v with
  | .agg cs => some cs.toList
  | .tuple _ => none
  | .bool b => some [.bool b]
  | .int k n => some [.int k n]
  | .float k n => some [.float k n]
  | .complex k a b => some [.complex k a b]
  | .string s => some [.string s]
  | .pointer a => some [.pointer a]
  | .slice a n c => some [.slice a n c]
  | .map r => some [.map r]
  | .chan r => some [.chan r]
  | .func f a b => some [.func f a b]
  | .nilFunc => some [.nilFunc]
  | .iface t v => some [.iface t v]
  | .nilIface => some [.nilIface]
def fills (e : En) (cs : List Value) : List (Nat × Nat × X) → Option (List Value)
  | [] => some cs
  | (off, sz, x) :: l => match x.get e with
    | some v => match cellsOf v with
      | some vs => bif (Nat.beq vs.length sz && Nat.ble (off + sz) cs.length) then fills e (lay cs off vs) l else none
      | none => none
    | none => none
def intX (e : En) (x : X) : Option Int := match x.get e with | some (.int _ n) => some n | _ => none
def eqNil (t : Nat) (x y : Value) : Option Bool :=
  match t, x, y with
  | 0, .pointer a, .pointer none => some a.isNone
  | 0, .pointer none, .pointer a => some a.isNone
  | 1, .slice a _ _, .slice none _ _ => some a.isNone
  | 1, .slice none _ _, .slice a _ _ => some a.isNone
  | 2, .nilFunc, .nilFunc => some true
  | 2, .func _ _ _, .nilFunc => some false
  | 2, .nilFunc, .func _ _ _ => some false
  | _, _, _ => none
/-- What an operation that touches no memory comes to, and on which condition. -/
def pv (e : En) : S → Option (Prop × Value)
  | .mv x => match x.get e with | some v => some (True, v) | none => none
  | .pk c a b => match c.get e with
    | some (.bool true) => match a.get e with | some v => some (True, v) | none => none
    | some (.bool false) => match b.get e with | some v => some (True, v) | none => none
    | _ => none
  | .ib o x y => match x.get e, y.get e with
    | some (.int k a), some (.int k' b) => match o with
      | .shl => shop .shl k a b
      | .shr => shop .shr k a b
      | o => bif decide (k = k') then iop o k a b else none
    | _, _ => none
  | .bb neg x y => match x.get e, y.get e with
    | some (.bool a), some (.bool b) => some (True, .bool (if neg then !(a == b) else a == b))
    | _, _ => none
  | .en t neg x y => match x.get e, y.get e with
    | some a, some b => match eqNil t a b with
      | some r => some (True, .bool (bif neg then !r else r))
      | none => none
    | _, _ => none
  | .sb neg x y => match neg, x.get e, y.get e with
    | .eql, some (.string a), some (.string b) => some (True, .bool (a.toList == b.toList))
    | .neq, some (.string a), some (.string b) => some (True, .bool (!(a.toList == b.toList)))
    | _, _, _ => none
  | .nt x => match x.get e with | some (.bool b) => some (True, .bool (!b)) | _ => none
  | .ng x => match x.get e with | some (.int k n) => some (True, .int k (k.wrap (0 - n))) | _ => none
  | .cv k x => match x.get e with | some (.int _ n) => some (True, .int k (k.wrap n)) | _ => none
  | .nc x => match x.get e with
    | some (.pointer (some a)) => some (True, .pointer (some a))
    | some (.func (.func f) a b) => some (True, .func (.func f) a b)
    | _ => none
  | .fa x off => match x.get e with | some (.pointer (some ⟨b, o, none⟩)) => some (True, .pointer (some ⟨b, o + off, none⟩)) | _ => none
  | .fv x off n agg => match x.get e with
    | some (.agg cs) => bif agg then some (True, .agg ((cs.toList.drop off).take n).toArray) else match cs.toList[off]? with | some v => some (True, v) | none => none
    | _ => none
  | .ia x i sz => match x.get e, intX e i with
    | some (.slice (some ⟨b, o, none⟩) len _), some n => some (0 ≤ n ∧ n < len, .pointer (some ⟨b, o + n.toNat * sz, none⟩))
    | _, _ => none
  | .iaa x i len sz => match x.get e, intX e i with
    | some (.pointer (some ⟨b, o, none⟩)), some n => some (0 ≤ n ∧ n < len, .pointer (some ⟨b, o + n.toNat * sz, none⟩))
    | _, _ => none
  | .iv x i len sz agg => match x.get e, intX e i with
    | some (.agg cs), some n => bif agg then some (0 ≤ n ∧ n < len, .agg ((cs.toList.drop (n.toNat * sz)).take sz).toArray) else
      match cs.toList[n.toNat * sz]? with | some v => some (0 ≤ n ∧ n < len, v) | none => none
    | _, _ => none
  | .sl sz x lo hi mx => match x.get e, mx with
    | some (.slice a len cap), none => match lo, hi with
      | none, none => some (True, .slice a len cap)
      | none, some h => match intX e h with
        | some h => some (0 ≤ h ∧ h ≤ cap, .slice a h.toNat cap)
        | none => none
      | some l, none => match intX e l, a with
        | some l, some ⟨b, o, none⟩ => some (0 ≤ l ∧ l ≤ len, .slice (some ⟨b, o + skp cap l.toNat sz, none⟩) (len - l.toNat) (cap - l.toNat))
        | some l, none => some (l = 0, .slice none len cap)
        | _, _ => none
      | some l, some h => match intX e l, intX e h, a with
        | some l, some h, some ⟨b, o, none⟩ => some (0 ≤ l ∧ l ≤ h ∧ h ≤ cap, .slice (some ⟨b, o + skp cap l.toNat sz, none⟩) (h.toNat - l.toNat) (cap - l.toNat))
        | some l, some h, none => some (l = 0 ∧ 0 ≤ h ∧ h ≤ cap, .slice none h.toNat cap)
        | _, _, _ => none
    | _, _ => none
  | .sa len _ x lo hi mx => match x.get e, lo, hi, mx with
    | some (.pointer (some ⟨b, o, none⟩)), none, none, none => some (True, .slice (some ⟨b, o, none⟩) len len)
    | _, _, _, _ => none
  | .ex x i => match x.get e with
    | some (.tuple vs) => match vs.toList[i]? with | some v => some (True, v) | none => none
    | _ => none
  | .mf fn a b => match gets e a, gets e b with
    | some a, some b => some (True, .func fn a.toArray b.toArray)
    | _, _ => none
  | .bd z parts => match fills e z parts with | some cs => some (True, .agg cs.toArray) | none => none
  | .len x => match x.get e with | some (.slice _ n _) => some (True, .int .i64 n) | _ => none
  | .lens x => match x.get e with | some (.string s) => some (True, .int .i64 s.size) | _ => none
  | .cap x => match x.get e with | some (.slice _ _ n) => some (True, .int .i64 n) | _ => none
  | .mm big x y => match x.get e, y.get e with
    | some (.int k a), some (.int _ b) => some (True, .int k (bif big then (if a < b then b else a) else (if b < a then b else a)))
    | _, _ => none
  | _ => none

/-- Operations that ask for nothing. -/
def plain : S → Bool
  | .mv _ => true
  | .ib o _ _ => match o with | .quo => false | .rem => false | .shl => false | .shr => false | _ => true
  | .bb _ _ _ => true
  | .en _ _ _ _ => true
  | .sb _ _ _ => true
  | .nt _ => true
  | .ng _ => true
  | .cv _ _ => true
  | .nc _ => true
  | .fa _ _ => true
  | .fv _ _ _ _ => true
  | .sa _ _ _ _ _ _ => true
  | .ex _ _ => true
  | .mf _ _ _ => true
  | .bd _ _ => true
  | .len _ => true
  | .lens _ => true
  | .cap _ => true
  | .mm _ _ _ => true
  | _ => false
/-- A stretch of such operations: what is left, and what is known behind them. -/
def pvs : List G → En → Option (List G × En)
  | ⟨d, none, s⟩ :: l, e => bif plain s then match pv e s with
      | some (_, v) => match pvs l (e.put d v) with
        | some r => some r
        | none => some (l, e.put d v)
      | none => none
      else none
  | _, _ => none

/-! How the model's code turns into it. -/
def cX : Operand → X
  | .tmp t => .t t
  | .const v => .c v
  | .global g => .c (.pointer (some ⟨g, 0, none⟩))
  | .func f => .c (.func (.func f) #[] #[])
def isAggT (P : Program) (t : TypeId) : Option Bool := match P.underlying t with
  | some (.struct _) => some true
  | some (.array _ _) => some true
  | some _ => some false
  | none => none
def szT (P : Program) (t : TypeId) : Option Nat := (P.info? t).map (·.size)
def zeroT (P : Program) (t : TypeId) : Option (List Value) := match P.info? t with
  | some i => match i.zero with | some z => some z.cells.toList | none => none
  | none => none
def placesS (P : Program) : List Field → Option (List (Nat × Nat))
  | [] => some []
  | f :: l => match szT P f.type with
    | some n => match placesS P l with
      | some r => some ((f.offset, n) :: r)
      | none => none
    | none => none
def partsS (pl : Nat → Option (Nat × Nat)) (ps : List (Nat × Operand)) : Option (List (Nat × Nat × X)) :=
  ps.mapM fun p => match pl p.1 with | some q => some (q.1, q.2, cX p.2) | none => none
def callable (P : Program) (f : FuncId) : Bool := match P.funcs[f]? with
  | some fn => fn.body.isSome && !(fn.name == "runtime.NumGoroutine")
  | none => false
def cCall (P : Program) (c : Call) : Option S :=
  match c.callee with
  | .value (.func f) => if callable P f then some (.ca f (c.args.toList.map cX)) else none
  | .value (.tmp t) => some (.cl (.t t) (c.args.toList.map cX))
  | .builtin .len => match c.args.toList, c.argTypes.toList with
    | [x], [t] => match P.underlying t with
      | some (.slice _) => some (.len (cX x))
      | some .string => some (.lens (cX x))
      | some (.array n _) => some (.mv (.c (.int .i64 n)))
      | _ => none
    | _, _ => none
  | .builtin .cap => match c.args.toList, c.argTypes.toList with
    | [x], [t] => match P.underlying t with
      | some (.slice _) => some (.cap (cX x))
      | _ => none
    | _, _ => none
  | .builtin .max => match c.args.toList with | [x, y] => some (.mm true (cX x) (cX y)) | _ => none
  | .builtin .min => match c.args.toList with | [x, y] => some (.mm false (cX x) (cX y)) | _ => none
  | .builtin .append => match c.args.toList, c.argTypes.toList with
    | [x, y], [t, u] => if t = u then match P.underlying t with
      | some (.slice E) => match P.info? E with
        | some i => match i.zero with
          | some z => if z.cells.size = i.size ∧ 0 < i.size then some (.ap t E i.size i.bytes z.cells.toList (cX x) (cX y)) else none
          | none => none
        | none => none
      | _ => none
      else none
    | _, _ => none
  | _ => none
def cS (P : Program) (o : Oper) : Option S :=
  match o.op with
  | .move x => some (.mv (cX x))
  | .assign x => some (.mv (cX x))
  | .pick c a b => some (.pk (cX c) (cX a) (cX b))
  | .alloc E => match zeroT P E with | some z => some (.al E z) | none => none
  | .box E x => some (.bx E (cX x))
  | .build t ps => match P.underlying t with
    | some (.struct fs) => match zeroT P t, placesS P fs.toList with
      | some z, some pl => match partsS (fun i => pl[i]?) ps.toList with
        | some l => some (.bd z l)
        | none => none
      | _, _ => none
    | some (.array _ E) => match zeroT P t, szT P E with
      | some z, some n => match partsS (fun i => some (i * n, n)) ps.toList with
        | some l => some (.bd z l)
        | none => none
      | _, _ => none
    | _ => none
  | .buildSlice t len ps => match P.underlying t with
    | some (.slice E) => match zeroT P E, szT P E with
      | some z, some n => if 0 < n ∧ len * n ≤ 65536 ∧ z.length = n then
          match partsS (fun i => some (i * n, n)) ps.toList with
          | some l => some (.bs E len ((List.range (len * n)).map fun i => z[i % z.length]!) l)
          | none => none
          else none
      | _, _ => none
    | _ => none
  | .load t a => match isAggT P t, szT P t with
    | some g, some n => some (.ld (cX a) n g)
    | _, _ => none
  | .store t a v => match szT P t with | some n => some (.st (cX a) (cX v) n) | none => none
  | .nilCheck x => some (.nc (cX x))
  | .binOp op t x y _ => match P.underlying t with
    | some (.int _) => some (.ib op (cX x) (cX y))
    | some .bool => match op with | .eql => some (.bb false (cX x) (cX y)) | .neq => some (.bb true (cX x) (cX y)) | _ => none
    | some (.pointer _) => match op with | .eql => some (.en 0 false (cX x) (cX y)) | .neq => some (.en 0 true (cX x) (cX y)) | _ => none
    | some (.slice _) => match op with | .eql => some (.en 1 false (cX x) (cX y)) | .neq => some (.en 1 true (cX x) (cX y)) | _ => none
    | some (.func ..) => match op with | .eql => some (.en 2 false (cX x) (cX y)) | .neq => some (.en 2 true (cX x) (cX y)) | _ => none
    | some .string => match op with | .eql => some (.sb .eql (cX x) (cX y)) | .neq => some (.sb .neq (cX x) (cX y)) | _ => none
    | _ => none
  | .unOp .not _ x => some (.nt (cX x))
  | .unOp .neg t x => match P.underlying t with | some (.int _) => some (.ng (cX x)) | _ => none
  | .convert src dst x => match P.underlying src, P.underlying dst with | some _, some (.int k) => some (.cv k (cX x)) | _, _ => none
  | .makeFunc fn a b => some (.mf fn (a.toList.map cX) (b.toList.map cX))
  | .makeSlice t l c => match P.underlying t with
    | some (.slice E) => match P.info? E with
      | some i => match i.zero with
        | some z => if z.cells.size = i.size ∧ 0 < i.size then some (.mk E i.size i.bytes z.cells.toList (cX l) (cX c)) else none
        | none => none
      | none => none
    | _ => none
  | .slice t x lo hi mx => match P.underlying t with
    | some (.slice E) => match szT P E with | some n => some (.sl n (cX x) (lo.map cX) (hi.map cX) (mx.map cX)) | none => none
    | some (.array n E) => match szT P E with | some s => some (.sa n s (cX x) (lo.map cX) (hi.map cX) (mx.map cX)) | none => none
    | some .string => some (.ss (cX x) (lo.map cX) (hi.map cX))
    | _ => none
  | .fieldAddr t x i => match P.underlying t with
    | some (.struct fs) => match fs[i]? with
      | some f => match szT P f.type with
        | some n => if 0 < n then some (.fa (cX x) f.offset) else none
        | none => none
      | none => none
    | _ => none
  | .field t x i => match P.underlying t with
    | some (.struct fs) => match fs[i]? with
      | some f => match szT P f.type, isAggT P f.type with
        | some n, some g => some (.fv (cX x) f.offset n g)
        | _, _ => none
      | none => none
    | _ => none
  | .indexAddr t x i => match P.underlying t with
    | some (.slice E) => match szT P E with | some n => some (.ia (cX x) (cX i) n) | none => none
    | some (.array len E) => match szT P E with | some n => some (.iaa (cX x) (cX i) len n) | none => none
    | _ => none
  | .index t x i => match P.underlying t with
    | some (.array len E) => match szT P E, isAggT P E with | some n, some g => some (.iv (cX x) (cX i) len n g) | _, _ => none
    | some .string => some (.is (cX x) (cX i))
    | _ => none
  | .extract x i => some (.ex (cX x) i)
  | .call c => cCall P c
  | _ => none
def dstOk (N : Nat) (d : Option Nat) : Bool := match d with | some d => Nat.blt d N | none => true
def cG (P : Program) (N : Nat) (ops : Array Oper) (o : Oper) : Option G :=
  match cS P o with
  | none => none
  | some s => if dstOk N o.dst = true then
      match o.guard with
      | none => some ⟨o.dst, none, s⟩
      | some (j, want) => match ops[j]? with
        | some q => match q.dst with
          | some t => some ⟨o.dst, some (t, want), s⟩
          | none => none
        | none => none
    else none
def cL (P : Program) (N : Nat) (ops : Array Oper) : List Oper → Option (List G)
  | [] => some []
  | o :: os => match cG P N ops o with
    | some g => match cL P N ops os with
      | some l => some (g :: l)
      | none => none
    | none => none
def tmpsOf (xs : List Operand) : List Nat := xs.filterMap fun | .tmp t => some t | _ => none
def direct (o : Oper) : List Nat := (o.after.toList.filter (Region.binds .any)).map (·.on)
def clos (acc : List Nat) (l : List Nat) : Nat := l.foldr (fun d m => Nat.lor (Nat.lor m (acc.getD d 0)) (Nat.shiftLeft 1 d)) 0
def cIt (P : Program) (N : Nat) (ops : Array Oper) (acc : List Nat) (i : Nat) (o : Oper) : Option It :=
  match cG P N ops o with
  | some g => some ⟨i, clos acc (direct o), tmpsOf o.op.operands.toList ++ (match g.g with | some p => [p.1] | none => []), g⟩
  | none => none
def cIts (P : Program) (N : Nat) (ops : Array Oper) : List Nat → Nat → List Oper → Option (List It)
  | _, _, [] => some []
  | acc, i, o :: os => match cIt P N ops acc i o with
    | some x => match cIts P N ops (acc ++ [x.ds]) (i + 1) os with
      | some l => some (x :: l)
      | none => none
    | none => none
def cRg (P : Program) (N : Nat) (ops : Array Oper) (draw : Bool) : Option C :=
  match draw with
  | false => match cL P N ops ops.toList with
    | some l => some (.rg l)
    | none => none
  | true => match (P.follows .mixedOrders || !Region.departs ops), ops.toList.zipIdx.all (fun p => (direct p.1).all fun d => Nat.blt d p.2), cIts P N ops [] 0 ops.toList with
    | true, true, some l => some (.rd l)
    | _, _, _ => none
def cC (P : Program) (N : Nat) : Code → Option C
  | .skip => some .sk
  | .region _ ops draw => cRg P N ops draw
  | .seq a b => match cC P N a, cC P N b with
    | some a, some b => some (.sq a b)
    | _, _ => none
  | .cond x a b => match cC P N a, cC P N b with
    | some a, some b => some (.cd (cX x) a b)
    | _, _ => none
  | .block id c => match cC P N c with | some c => some (.bl id c) | none => none
  | .loop c => match cC P N c with | some c => some (.lp c) | none => none
  | .exit id => some (.ex id)
  | .ret => some .rt
  | _ => none
/-- A function's results: temporaries, or variables behind temporaries (so many cells; a struct or an array?). -/
inductive RV
  | t (i : Nat)
  | c (i n : Nat) (agg : Bool)
def cR (P : Program) : ResultVar → Option RV
  | .tmp t => some (.t t)
  | .cell a t => match szT P t, isAggT P t with | some n, some g => some (.c a n g) | _, _ => none
/-- A function. -/
structure Fu where
  n : Nat
  rs : List RV
  c : C
def cRs (P : Program) : List ResultVar → Option (List RV)
  | [] => some []
  | r :: l => match cR P r with
    | some r => match cRs P l with
      | some l => some (r :: l)
      | none => none
    | none => none
def cF (P : Program) (f : Func) : Option Fu :=
  match f.body with
  | some b => match cC P f.ntmps b, cRs P f.results.toList with
    | some c, some rs => some ⟨f.ntmps, rs, c⟩
    | _, _ => none
  | none => none
end Go.Proofs.YtnbkjcmmjgkdaaaGreat
