/- An evaluator of the model's code over plain values, and the proof that it is sound. Conditions: none. -/
import Derived.Calls
import Derived.Orders
import Derived.Laws.Sem
import Derived.Laws.World
import Derived.Laws.Cells
import Derived.Laws.Rows
noncomputable section
namespace Go.Proofs.Ythpmachmnoljeaa.Rx
open Go

inductive PV where
 | top
 | sc (v : Value)
 | ro (e : TypeId) (nl fl : Bool) (els : List PV)
 | ow (e : TypeId) (id : Nat) (path : List Nat) (off len : Nat) (cap : Option Nat)
 | ptr (id : Nat) (path : List Nat)
 | rp (t : TypeId) (v : PV)
 | ar (t : TypeId) (els : List PV)
 | st (t : TypeId) (fs : List PV)
 | tup (vs : List PV)
 | fn (f : Fn) (first cap : List PV)
 | va (e : TypeId) (els : List PV)
 | vr (t : TypeId) (v : PV)
 deriving Inhabited

inductive Ent where
 | box (fz : Bool) (t : TypeId) (v : PV)
 | vec (fz : Bool) (e : TypeId) (nl : Bool) (els : List PV)
 | dead
 deriving Inhabited

abbrev Upd := List (Nat × Ent)
structure Res where
 val : PV
 pars : List Ent
 news : List Ent

structure Tab where
 und : TypeId -> Option TypeDesc
 siz : TypeId -> Nat
 byt : TypeId -> Nat
 zer : TypeId -> Option PV
 hold : (β : Type) -> β -> (β -> Option Res) -> Option Res

structure Sig where
 own : List Bool
 run : List PV -> List Ent -> (Res -> Option Res) -> Option Res

structure Sta where
 fr : List PV
 hp : List (Nat × Ent)

/-! ### Jr1 readers -/
namespace PV
def int : PV -> Int | .sc (.int _ n) => n | _ => 0
def isInt (k : IntKind) : PV -> Bool | .sc (.int j _) => decide (j = k) | _ => false
def bool : PV -> Bool | .sc (.bool b) => b | _ => false
def isBool : PV -> Bool | .sc (.bool _) => true | _ => false
def str : PV -> ByteArray | .sc (.string s) => s | _ => ByteArray.empty
def isStr : PV -> Bool | .sc (.string _) => true | _ => false
def flo : PV -> Nat | .sc (.float _ n) => n | _ => 0
def isFlo (k : FloatKind) : PV -> Bool | .sc (.float j _) => decide (j = k) | _ => false
def cre : PV -> Nat | .sc (.complex _ n _) => n | _ => 0
def cim : PV -> Nat | .sc (.complex _ _ n) => n | _ => 0
def isCom (k : FloatKind) : PV -> Bool | .sc (.complex j _ _) => decide (j = k) | _ => false
def els : PV -> List PV | .ro _ _ _ l => l | .ar _ l => l | _ => []
def nl : PV -> Bool | .ro _ b _ _ => b | _ => false
def fl : PV -> Bool | .ro _ _ b _ => b | _ => false
def isRo (e : TypeId) : PV -> Bool | .ro e' _ _ _ => decide (e' = e) | _ => false
def isAr (t : TypeId) : PV -> Bool | .ar t' _ => decide (t' = t) | _ => false
def isSt (t : TypeId) (n : Nat) : PV -> Bool | .st t' fs => decide (t' = t) && decide (fs.length = n) | _ => false
def fs : PV -> List PV | .st _ l => l | _ => []
def child (i : Nat) : PV -> PV | .st _ l => l.getD i .top | .ar _ l => l.getD i .top | _ => .top
end PV

def Tab.kind (τ : Tab) (t : TypeId) : Option IntKind := match τ.und t with | some (.int k) => some k | _ => none
def Tab.agg (τ : Tab) (t : TypeId) : Bool := match τ.und t with | some (.struct _) => true | some (.array _ _) => true | _ => false
def Tab.elem (τ : Tab) (t : TypeId) : Option TypeId := match τ.und t with | some (.slice e) => some e | _ => none
def Tab.isPtr (τ : Tab) (t : TypeId) : Bool := match τ.und t with | some (.pointer _) => true | _ => false
def Tab.scal (τ : Tab) (t : TypeId) : Bool := match τ.und t with | some (.int _) => true | some .bool => true | some .string => true | some (.float _) => true | some (.complex _) => true | _ => false
def Tab.isFun (τ : Tab) (t : TypeId) : Bool := match τ.und t with | some (.func _ _ _) => true | _ => false

def JqJ (τ : Tab) (e : TypeId) : Bool :=
 match τ.und e with
 | some (.slice _) => true
 | some (.struct _) => true
 | some (.array _ _) => true
 | _ => false
def Ju1 (τ : Tab) (e : TypeId) (len : Nat) : Option Nat :=
 match τ.und e with
 | some (.struct _) => bif Nat.blt 0 len then none else some len
 | _ => some len
def Jdb (τ : Tab) : Nat -> TypeId -> PV -> Bool × PV
  | 0, _, p => (false, p)
  | n + 1, t, p =>
    match τ.und t with
    | some (.int k) => (p.isInt k, .sc (.int k p.int))
    | some .bool => (p.isBool, .sc (.bool p.bool))
    | some .string => (p.isStr, .sc (.string p.str))
    | some (.float k) => (p.isFlo k, .sc (.float k p.flo))
    | some (.complex k) => (p.isCom k, .sc (.complex k p.cre p.cim))
    | some (.slice e) => (p.isRo e, .ro e p.nl p.fl p.els)
    | some (.array m e) => bif JqJ τ e then
        (let r := (List.range m).map fun i => Jdb τ n e (p.child i)
         (p.isSt t m && r.all (·.1), .st t (r.map (·.2))))
      else (p.isAr t, .ar t p.els)
    | some (.struct fds) =>
      let r := fds.toList.zipIdx.map fun (f, i) => Jdb τ n f.type (p.child i)
      (p.isSt t fds.size && r.all (·.1), .st t (r.map (·.2)))
    | some (.pointer _) => (true, p)
    | _ => (false, p)

def Xh (τ : Tab) (t : TypeId) : PV -> Bool
 | .sc _ => !τ.agg t
 | .ro e _ _ _ => τ.elem t == some e
 | .ow e _ _ _ _ _ => τ.elem t == some e
 | .ptr _ _ => τ.isPtr t
 | .fn _ _ _ => τ.isFun t
 | .st t' _ => t' == t
 | .ar t' _ => t' == t
 | _ => false

def J0 (τ : Tab) (t : TypeId) : PV -> PV
 | .sc (.slice none 0 0) => match τ.und t with | some (.slice e) => .ro e true true [] | _ => .sc (.slice none 0 0)
 | p => p

def rdF (fr : List PV) : Operand -> PV
 | .tmp t => fr.getD t .top
 | .const v => match v with | .agg _ => .top | .tuple _ => .top | v => .sc v
 | .func f => .fn (.func f) [] []
 | .global _ => .top

/-! ### places -/
def Jr : PV -> List Nat -> PV
 | v, [] => v
 | v, i :: p => Jr (v.child i) p
def Jae : PV -> List Nat -> PV -> PV
 | _, [], y => y
 | .st t l, i :: p, y => .st t (l.set i (Jae (l.getD i .top) p y))
 | .ar t l, i :: p, y => .ar t (l.set i (Jae (l.getD i .top) p y))
 | v, _ :: _, _ => v
def tyP (τ : Tab) : TypeId -> List Nat -> Option TypeId
 | t, [] => some t
 | t, i :: p => match τ.und t with
  | some (.struct fds) => (fds.toList[i]?).bind fun f => tyP τ f.type p
  | some (.array _ e) => tyP τ e p
  | _ => none
def JqK (τ : Tab) : TypeId -> List Nat -> Bool
 | _, [] => false
 | t, i :: p => match τ.und t with
  | some (.struct fds) => match fds.toList[i]? with | some f => JqK τ f.type p | none => false
  | _ => true
def Ent.get (τ : Tab) : Ent -> List Nat -> Option (TypeId × Bool × PV)
 | .box _ t v, p => (tyP τ t p).map fun u => (u, JqK τ t p, Jr v p)
 | .vec _ e _ els, i :: p => (tyP τ e p).map fun u => (u, true, Jr (els.getD i .top) p)
 | _, _ => none
def Ent.ty (τ : Tab) : Ent -> List Nat -> Option TypeId
 | .box _ t _, p => tyP τ t p
 | .vec _ e _ _, _ :: p => tyP τ e p
 | _, _ => none
def ZK (τ : Tab) (lk : Nat -> Option Ent) (id : Nat) (p : List Nat) (t : TypeId) : Bool :=
 match lk id with
 | some e => match e.ty τ p with | some u => u == t | none => false
 | none => false
def Jn2 (lk : Nat -> Option Ent) (id : Nat) : Bool := match lk id with | some (.box _ _ _) => true | _ => false
def Ent.set : Ent -> List Nat -> PV -> Ent
 | .box z t v, p, y => .box z t (Jae v p y)
 | .vec z e nl els, i :: p, y => .vec z e nl (els.set i (Jae (els.getD i .top) p y))
 | e, _, _ => e
def Ent.free : Ent -> Bool
 | .box z _ _ => !z
 | .vec z _ _ _ => !z
 | .dead => false
def Ent.ice : Ent -> Ent
 | .box _ t v => .box true t v
 | .vec _ e n l => .vec true e n l
 | .dead => .dead
def Ent.row : Ent -> List Nat -> Option (List PV)
 | .vec _ _ _ els, [] => some els
 | .box _ _ v, p => match Jr v p with | .ar _ els => some els | _ => none
 | _, _ => none
def Ent.nil : Ent -> Bool
 | .vec _ _ nl _ => nl
 | _ => false
def Ent.setRow : Ent -> List Nat -> List PV -> Ent
 | .vec z e nl _, [], l => .vec z e nl l
 | .box z t v, p, l => match Jr v p with | .ar t' _ => .box z t (Jae v p (.ar t' l)) | _ => .box z t v
 | e, _, _ => e

/-! ### what a value leads to -/
mutual
def PV.ids : PV -> List Nat
 | .ow _ id _ _ _ _ => [id]
 | .ptr id _ => [id]
 | .st _ fs => Qs fs
 | .tup vs => Qs vs
 | .fn _ a b => Qs a ++ Qs b
 | .va _ els => Qs els
 | .vr _ v => v.ids
 | _ => []
def Qs : List PV -> List Nat
 | [] => []
 | p :: ps => p.ids ++ Qs ps
end
def Ent.ids (τ : Tab) : Ent -> List Nat
 | .box _ _ v => v.ids
 | .vec _ e _ els => bif τ.isPtr e then Qs els else []
 | .dead => []
mutual
def PV.ren (ρ : Nat -> Nat) : PV -> PV
 | .ow e id p o l c => .ow e (ρ id) p o l c
 | .ptr id p => .ptr (ρ id) p
 | .st t fs => .st t (Wa ρ fs)
 | .tup vs => .tup (Wa ρ vs)
 | .fn f a b => .fn f (Wa ρ a) (Wa ρ b)
 | .va e els => .va e (Wa ρ els)
 | .vr t v => .vr t (v.ren ρ)
 | p => p
def Wa (ρ : Nat -> Nat) : List PV -> List PV
 | [] => []
 | p :: ps => p.ren ρ :: Wa ρ ps
end
def Ent.ren (τ : Tab) (ρ : Nat -> Nat) : Ent -> Ent
 | .box z t v => .box z t (v.ren ρ)
 | .vec z e nl els => .vec z e nl (bif τ.isPtr e then Wa ρ els else els)
 | .dead => .dead
def XL (τ : Tab) (lk : Nat -> Option Ent) : Nat -> List Nat -> List Nat -> List Nat
 | 0, _, acc => acc
 | _ + 1, [], acc => acc
 | n + 1, i :: todo, acc =>
  bif acc.elem i then XL τ lk n todo acc
  else match lk i with
   | some e => XL τ lk n (todo ++ e.ids τ) (acc ++ [i])
   | none => XL τ lk n todo acc
def pos (i : Nat) : List Nat -> Nat -> Option Nat
 | [], _ => none
 | x :: xs, n => bif x == i then some n else pos i xs (n + 1)

/-! ### entries -/
def JB (hp : List (Nat × Ent)) (id : Nat) : Option Ent :=
 match hp with
 | [] => none
 | (i, e) :: r => bif i == id then some e else JB r id
def Ji2 : List (Nat × Ent) -> Nat -> Ent -> List (Nat × Ent)
 | [], id, e => [(id, e)]
 | (i, x) :: r, id, e => bif i == id then (i, e) :: r else (i, x) :: Ji2 r id e
def Jp8 (hp : List (Nat × Ent)) : Upd -> List (Nat × Ent)
 | [] => hp
 | (i, e) :: r => Jp8 (Ji2 hp i e) r

abbrev Ents := Nat -> Option Ent
def JT (h : Ents) (id : Nat) (e : Ent) : Ents := fun i => if i = id then some e else h i
def JK (h : Ents) : Upd -> Ents
 | [] => h
 | (i, e) :: r => JK (JT h i e) r
def XM (τ : Tab) (lk : Nat -> Option Ent) : PV -> Option (PV × Upd)
 | .ow e id p off len _ =>
  bif τ.isPtr e then none else
  match lk id with
  | some x =>
   match x.row p with
   | some l => some (.ro e x.nil false ((l.drop off).take len), bif x.free then [(id, x.ice)] else [])
   | none => none
  | none => none
 | .ptr _ _ => none
 | .fn _ _ _ => none
 | .rp _ _ => none
 | .tup _ => none
 | .st _ _ => none
 | .va _ _ => none
 | .vr _ _ => none
 | p => some (p, [])
mutual
def Qq (τ : Tab) (lk : Nat -> Option Ent) : PV -> Option (PV × Upd)
 | .st t fs => (YX τ lk fs).map fun r => (.st t r.1, r.2)
 | .va e els => bif τ.isPtr e then none else (YX τ lk els).map fun r => (.ro e false true r.1, r.2)
 | .vr _ _ => none
 | .ow e id p off len cap => XM τ lk (.ow e id p off len cap)
 | p => XM τ lk p
def YX (τ : Tab) (lk : Nat -> Option Ent) : List PV -> Option (List PV × Upd)
 | [] => some ([], [])
 | p :: ps => match Qq τ lk p, YX τ lk ps with
  | some a, some b => some (a.1 :: b.1, a.2 ++ b.2)
  | _, _ => none
end
def JcF (τ : Tab) (e : TypeId) (lk : Nat -> Option Ent) (p : PV) : Option (PV × Upd) :=
 bif Xh τ e p then (bif τ.isPtr e then some (p, []) else Qq τ lk p) else none
/-! ### operations on plain numbers -/
def Xs (k : IntKind) (x y : Int) : Int := k.wrap (x * 2 ^ (min y.toNat k.bits))
def JV (k : IntKind) (x y : Int) : Int := x.fdiv (2 ^ (min y.toNat k.bits))
def JM (op : BinOp) (k : IntKind) (x y : Int) : Int :=
 let a := BitVec.ofInt k.bits x
 let b := BitVec.ofInt k.bits y
 match op with
 | .and => k.wrap (a &&& b).toNat
 | .or => k.wrap (a ||| b).toNat
 | .xor => k.wrap (a ^^^ b).toNat
 | _ => k.wrap (a &&& ~~~b).toNat
def Jb0 (op : BinOp) (k : IntKind) (x y : Int) : Option (Bool × Value) :=
 match op with
 | .add => some (true, .int k (k.wrap (x + y)))
 | .sub => some (true, .int k (k.wrap (x - y)))
 | .mul => some (true, .int k (k.wrap (x * y)))
 | .quo => some (!decide (y = 0), .int k (k.wrap (x.tdiv y)))
 | .rem => some (!decide (y = 0), .int k (x.tmod y))
 | .and => some (true, .int k (JM .and k x y))
 | .or => some (true, .int k (JM .or k x y))
 | .xor => some (true, .int k (JM .xor k x y))
 | .andNot => some (true, .int k (JM .andNot k x y))
 | .eql => some (true, .bool (x == y))
 | .neq => some (true, .bool (x != y))
 | .lss => some (true, .bool (decide (x < y)))
 | .leq => some (true, .bool (decide (x <= y)))
 | .gtr => some (true, .bool (decide (x > y)))
 | .geq => some (true, .bool (decide (x >= y)))
 | _ => none
abbrev XN (x y : ByteArray) : Bool := x.toList == y.toList
def JdI (op : BinOp) (x y : ByteArray) : Option (Bool × Value) :=
 match op with
 | .add => some (decide (x.size + y.size <= 9223372036854775807), .string (x ++ y))
 | .eql => some (true, .bool (XN x y))
 | .neq => some (true, .bool (!XN x y))
 | _ => none
def JdJ (op : BinOp) (k : FloatKind) (x y : Nat) : Option (Bool × Value) :=
 match op with
 | .add => some ((k.format.add x y).isSome, .float k ((k.format.add x y).getD 0))
 | .sub => some ((k.format.sub x y).isSome, .float k ((k.format.sub x y).getD 0))
 | .mul => some ((k.format.mul x y).isSome, .float k ((k.format.mul x y).getD 0))
 | .eql => some (true, .bool (k.format.order x y == some .eq))
 | .neq => some (true, .bool (k.format.order x y != some .eq))
 | .lss => some (true, .bool (k.format.order x y == some .lt))
 | .leq => some (true, .bool (k.format.order x y == some .lt || k.format.order x y == some .eq))
 | .gtr => some (true, .bool (k.format.order x y == some .gt))
 | .geq => some (true, .bool (k.format.order x y == some .gt || k.format.order x y == some .eq))
 | _ => none
def JdK (op : BinOp) (k : FloatKind) (a b c d : Nat) : Option (Bool × Value) :=
 match op with
 | .add => some ((k.format.add a c).isSome && (k.format.add b d).isSome, .complex k ((k.format.add a c).getD 0) ((k.format.add b d).getD 0))
 | .sub => some ((k.format.sub a c).isSome && (k.format.sub b d).isSome, .complex k ((k.format.sub a c).getD 0) ((k.format.sub b d).getD 0))
 | .eql => some (true, .bool ((k.format.order a c == some .eq) && (k.format.order b d == some .eq)))
 | .neq => some (true, .bool (!((k.format.order a c == some .eq) && (k.format.order b d == some .eq))))
 | _ => none

def J3 : List PV -> List PV -> Bool
 | [], [] => true
 | x :: xs, y :: ys => (x.int == y.int) && J3 xs ys
 | _, _ => false
def Jl (k : IntKind) : List PV -> Bool
 | [] => true
 | x :: xs => x.isInt k && Jl k xs
def eqP (τ : Tab) : Nat -> TypeId -> PV -> PV -> Bool × Bool
 | 0, _, _, _ => (false, false)
 | n + 1, t, x, y =>
  match τ.und t with
  | some (.int k) => (x.isInt k && y.isInt k, x.int == y.int)
  | some .bool => (x.isBool && y.isBool, x.bool == y.bool)
  | some .string => (x.isStr && y.isStr, XN x.str y.str)
  | some (.array m e) => match n, τ.und e with
   | _ + 1, some (.int k) => (x.isAr t && y.isAr t && decide (x.els.length = m) && decide (y.els.length = m) && Jl k x.els && Jl k y.els, J3 x.els y.els)
   | _, _ => (false, false)
  | some (.struct fds) =>
   let r := fds.toList.zipIdx.map fun (f, i) => eqP τ n f.type (x.child i) (y.child i)
   (x.isSt t fds.size && y.isSt t fds.size && fds.toList.all (fun f => f.name != "_") && r.all (·.1), r.all (·.2))
  | _ => (false, false)

def JU : List PV -> List UInt8
 | [] => []
 | p :: ps => UInt8.ofNat p.int.toNat :: JU ps
def Jj (s : ByteArray) : List PV := s.data.toList.map fun b => .sc (.int .u8 b.toNat)

def Je (n bytes : Nat) : Bool := decide (n * bytes <= 140737488355328)

def Qa (o : Oper) : Nat := 16 * (o.dst.getD 0 + 1)
def depth : Nat := 12

def Xt (lk : Nat -> Option Ent) (e : TypeId) : PV -> Option (Bool × List PV)
 | .ro e' nl _ l => bif e' == e then some (nl, l) else none
 | .ow e' id p off len _ => bif e' == e then (match lk id with
  | some x => match x.row p with | some l => some (x.nil, (l.drop off).take len) | none => none
  | none => none) else none
 | _ => none

abbrev Ans := Option (Bool × PV × Upd)

def Jdh (τ : Tab) (e : TypeId) (lk : Nat -> Option Ent) (nid : Nat) (s : PV) (new : List PV) : Ans :=
 match s with
 | .ro e' true _ _ => bif e' == e then some (Je new.length (τ.byt e), .ow e nid [] 0 new.length none, [(nid, .vec false e new.isEmpty new)]) else none
 | .ro e' false true l => bif e' == e then some (Je (l.length + new.length) (τ.byt e) && (l.isEmpty || !new.isEmpty), .ow e nid [] 0 (l.length + new.length) none, [(nid, .vec false e false (l ++ new))]) else none
 | .ow e' id [] off len cap =>
  match lk id with
  | some (.vec false e2 nl l) =>
   bif e' == e && e2 == e then
    bif cap.isNone || cap == some len then some (Je (len + new.length) (τ.byt e), .ow e nid [] 0 (len + new.length) none, [(id, .dead), (nid, .vec false e (nl && new.isEmpty) ((l.drop off).take len ++ new))])
    else some (decide (len + new.length <= cap.getD 0), .ow e id [] off (len + new.length) cap, [(id, .vec false e nl (l.take (off + len) ++ new ++ l.drop (off + len + new.length)))])
   else none
  | _ => none
 | _ => none

def Ju2 (τ : Tab) (t : TypeId) (x : PV) : Option (Bool × Int) :=
 match τ.und t with
 | some .string => some (x.isStr, (x.str.size : Int))
 | some (.array n _) => some (true, (n : Int))
 | some (.slice e) =>
  match x with
  | .ro e' _ _ l => bif e' == e then some (true, (l.length : Int)) else none
  | .ow e' _ _ _ len _ => bif e' == e then some (true, (len : Int)) else none
  | _ => none
 | _ => none

def ZL (τ : Tab) (e : TypeId) (lk : Nat -> Option Ent) (t : TypeId) (x : PV) : Option (Bool × List PV) :=
 match τ.und t with
 | some .string => bif τ.kind e == some .u8 then some (x.isStr, Jj x.str) else none
 | some (.slice _) => (Xt lk e x).map fun r => (true, r.2)
 | _ => none
def JgP (e : TypeId) : PV -> Bool
 | .ro e' true _ _ => e' == e
 | _ => false
def JgQ (τ : Tab) (nid : Nat) (lk : Nat -> Option Ent) (t t2 : TypeId) (s x : PV) : Ans :=
 match τ.und t with
 | some (.slice e) =>
  match τ.zer e with
  | some z =>
   match τ.und t2 with
   | some (.int k) => bif JgP e s then some (x.isInt k && decide (0 <= x.int) && Je x.int.toNat (τ.byt e), .ow e nid [] 0 x.int.toNat none, [(nid, .vec false e (x.int == 0) (List.replicate x.int.toNat z))]) else
    (match s with
    | .ow e' id [] off len (some c) => match lk id with
     | some (.vec false e2 _ l) => bif e' == e && e2 == e then some (x.isInt k && decide (0 <= x.int) && decide (c < len + x.int.toNat) && Je (len + x.int.toNat) (τ.byt e), .ow e nid [] 0 (len + x.int.toNat) none, [(nid, .vec false e false ((l.drop off).take len ++ List.replicate x.int.toNat z))]) else none
     | _ => none
    | .ow e' id [] off len none => match lk id with
     | some (.vec false e2 nl l) => bif e' == e && e2 == e then some (x.isInt k && decide (0 <= x.int) && Je (len + x.int.toNat) (τ.byt e), .ow e nid [] 0 (len + x.int.toNat) none, [(id, .dead), (nid, .vec false e (nl && (x.int == 0)) ((l.drop off).take len ++ List.replicate x.int.toNat z))]) else none
     | _ => none
    | _ => none)
   | _ => match ZL τ e lk t2 x with
    | some (c, new) => (Jdh τ e lk nid s new).map fun r => (c && r.1, r.2)
    | none => none
  | none => none
 | _ => none

def Qf (x y : Int) : Int := if y < x then y else x
def V5 (x y : Int) : Int := if x < y then y else x

def XG (τ : Tab) (nid : Nat) (lk : Nat -> Option Ent) (b : Builtin) (ts : List TypeId) (xs : List PV) : Ans :=
 match b, ts, xs with
 | .len, [t], [x] => (Ju2 τ t x).map fun r => (r.1, .sc (.int .i64 r.2), [])
 | .append, [t, t2], [s, x] => JgQ τ nid lk t t2 s x
 | .copy, [t, t2], [d, x] =>
  match τ.und t, d with
  | some (.slice e), .ow e' id p off len _ =>
   bif e' == e then
    match lk id, ZL τ e lk t2 x with
    | some ent, some (c, src) =>
     match ent.row p with
     | some l => bif ent.free then some (c, .sc (.int .i64 ((min src.length len : Nat) : Int)), [(id, ent.setRow p (l.take off ++ src.take len ++ l.drop (off + min src.length len)))]) else none
     | none => none
    | _, _ => none
   else none
  | _, _ => none
 | .clear, [t], [d] =>
  match τ.und t, d with
  | some (.slice e), .ow e' id p off len _ =>
   bif e' == e then
    match lk id, τ.zer e with
    | some ent, some z =>
     match ent.row p with
     | some l => bif ent.free then some (true, .top, [(id, ent.setRow p (l.take off ++ List.replicate len z ++ l.drop (off + len)))]) else none
     | none => none
    | _, _ => none
   else none
  | _, _ => none
 | .cap, [t], [d] =>
  match τ.und t, d with
  | some (.slice e), .ow e' _ _ _ _ (some c) => bif e' == e then some (true, .sc (.int .i64 (c : Int)), []) else none
  | some (.slice e), .ro e' nl fl l => bif e' == e && (nl || fl) then some (true, .sc (.int .i64 (l.length : Int)), []) else none
  | _, _ => none
 | .min, [_, _], [.sc (.int k x), .sc (.int k' y)] => bif decide (k = k') then some (true, .sc (.int k (Qf x y)), []) else none
 | .max, [_, _], [.sc (.int k x), .sc (.int k' y)] => bif decide (k = k') then some (true, .sc (.int k (V5 x y)), []) else none
 | .complex, _, [.sc (.float k x), .sc (.float k' y)] => bif decide (k = k') then some (true, .sc (.complex k x y), []) else none
 | .real, _, [.sc (.complex k x _)] => some (true, .sc (.float k x), [])
 | .imag, _, [.sc (.complex k _ y)] => some (true, .sc (.float k y), [])
 | _, _, _ => none

def J1 (τ : Tab) (ty : Nat -> Option TypeId) (lk : Nat -> Option Ent) (own : Bool) : List PV -> List (Nat × PV) -> Option (List PV × Upd)
 | l, [] => some (l, [])
 | l, (i, p) :: r =>
  match ty i with
  | some t =>
   bif Xh τ t (J0 τ t p) && decide (i < l.length) then
    match (bif own then some (J0 τ t p, []) else JcF τ t lk (J0 τ t p)) with
    | some a => match J1 τ ty lk own (l.set i a.1) r with
     | some b => some (b.1, a.2 ++ b.2)
     | none => none
    | none => none
   else none
  | none => none

def JEJ : PV -> Bool
 | .ow _ _ _ _ _ _ => true
 | _ => false
def ZM (lk : Nat -> Option Ent) (e : TypeId) : PV -> Option Bool
 | .ro e' nl _ _ => bif e' == e then some nl else none
 | .ow e' id _ _ _ _ => bif e' == e then (match lk id with | some .dead => none | some ent => some ent.nil | none => none) else none
 | _ => none

def Jn3 (τ : Tab) (op : BinOp) (t : TypeId) (lk : Nat -> Option Ent) (x y : PV) : Option (Bool × Value) :=
 match τ.und t with
 | some (.int k) =>
  match op with
  | .shl => match y with | .sc (.int _ m) => some (x.isInt k && decide (0 <= m), .int k (Xs k x.int m)) | _ => none
  | .shr => match y with | .sc (.int _ m) => some (x.isInt k && decide (0 <= m), .int k (JV k x.int m)) | _ => none
  | op => (Jb0 op k x.int y.int).map fun r => (x.isInt k && y.isInt k && r.1, r.2)
 | some .bool =>
  match op with
  | .eql => some (x.isBool && y.isBool, .bool (x.bool == y.bool))
  | .neq => some (x.isBool && y.isBool, .bool (!(x.bool == y.bool)))
  | _ => none
 | some .string => (JdI op x.str y.str).map fun r => (x.isStr && y.isStr && r.1, r.2)
 | some (.float k) => (JdJ op k x.flo y.flo).map fun r => (x.isFlo k && y.isFlo k && r.1, r.2)
 | some (.complex k) => (JdK op k x.cre x.cim y.cre y.cim).map fun r => (x.isCom k && y.isCom k && r.1, r.2)
 | some (.slice e) =>
  match y with
  | .sc (.slice none 0 0) => match op, ZM lk e x with
   | .eql, some b => some (true, .bool b)
   | .neq, some b => some (true, .bool (!b))
   | _, _ => none
  | _ => none
 | some (.pointer _) =>
  match x, y with
  | .ptr _ _, .sc (.pointer none) => match op with
   | .eql => some (true, .bool false)
   | .neq => some (true, .bool true)
   | _ => none
  | _, _ => none
 | some (.struct _) => match op with
  | .eql => some ((eqP τ depth t x y).1, .bool (eqP τ depth t x y).2)
  | .neq => some ((eqP τ depth t x y).1, .bool (!(eqP τ depth t x y).2))
  | _ => none
 | some (.array _ _) => match op with
  | .eql => some ((eqP τ depth t x y).1, .bool (eqP τ depth t x y).2)
  | .neq => some ((eqP τ depth t x y).1, .bool (!(eqP τ depth t x y).2))
  | _ => none
 | _ => none

def fOf (f : FloatKind) (x : Int) : Nat := bif decide (x <= x) then f.nearest x else 0
def fTo (f : FloatKind) (b : Nat) : Option Int := bif Nat.ble b b then (f.decode b).toInt .zero else none
theorem JqL (f : FloatKind) (x : Int) : fOf f x = f.nearest x := by simp [fOf]
theorem JAb (f : FloatKind) (b : Nat) : fTo f b = (f.decode b).toInt .zero := by
 have : Nat.ble b b = true := by rw [Nat.ble_eq]; exact Nat.le_refl b
 rw [fTo, this]; rfl
def Jkv (τ : Tab) (nid : Nat) (lk : Nat -> Option Ent) (src dst : TypeId) (x : PV) : Ans :=
 match τ.und src, τ.und dst with
 | some (.int k), some (.int k') => some (x.isInt k, .sc (.int k' (k'.wrap x.int)), [])
 | some (.int k), some (.float f) => some (x.isInt k, .sc (.float f (fOf f x.int)), [])
 | some (.float f), some (.int k) =>
  some (x.isFlo f && (fTo f x.flo).isSome && decide (k.min <= (fTo f x.flo).getD 0) && decide ((fTo f x.flo).getD 0 <= k.max), .sc (.int k ((fTo f x.flo).getD 0)), [])
 | some .string, some .string => some (x.isStr, .sc (.string x.str), [])
 | some .string, some (.slice e) =>
  match τ.und e with
  | some (.int .u8) => some (x.isStr && Je x.str.size 1, .ow e nid [] 0 x.str.size none, [(nid, .vec false e false (Jj x.str))])
  | _ => none
 | some (.slice e), some .string =>
  match τ.und e with
  | some (.int .u8) => match Xt lk e x with
   | some r => some (Jl .u8 r.2, .sc (.string ⟨(JU r.2).toArray⟩), [])
   | none => none
  | _ => none
 | some (.slice e), some (.slice _) =>
  match τ.und e, x with
  | some (.int .u8), .ow e' id [] off len cap =>
   match lk id with
   | some (.vec false e2 nl els) => bif src == dst && e2 == e then some (decide (0 < len), .ow e' id [] off len cap, [(id, .vec false e2 nl els)]) else none
   | _ => none
  | _, _ => none
 | _, _ => none

def bnd (x : Option PV) (d : Nat) : Option (Bool × Nat) :=
 match x with
 | none => some (true, d)
 | some (.sc (.int _ n)) => some (decide (0 <= n), n.toNat)
 | _ => none

def JgR (τ : Tab) (lk : Nat -> Option Ent) (t : TypeId) (x : PV) (lo hi mx : Option PV) : Ans :=
 match τ.und t with
 | some .string =>
  match mx, bnd lo 0, bnd hi x.str.size with
  | none, some (a, l), some (b, h) => some (x.isStr && a && b && decide (l <= h) && decide (h <= x.str.size), .sc (.string (x.str.extract l h)), [])
  | _, _, _ => none
 | some (.array n e) =>
  match x, mx, bnd lo 0, bnd hi n with
  | .ptr id p, none, some (a, l), some (b, h) => bif ZK τ lk id p t && Jn2 lk id then some (a && b && decide (l <= h) && decide (h <= n), .ow e id p l (h - l) (some (n - l)), []) else none
  | _, _, _, _ => none
 | some (.slice e) =>
  match x with
  | .ro e' nl fl els =>
   bif e' == e then
    match mx with
    | none => match bnd lo 0, bnd hi els.length with
     | some (a, l), some (b, h) => some (a && b && decide (l <= h) && decide (h <= els.length), .ro e nl (nl || (fl && hi.isNone)) ((els.take h).drop l), [])
     | _, _ => none
    | some m => match bnd lo 0, bnd hi els.length, bnd (some m) 0 with
     | some (a, l), some (b, h), some (c, g) => some (a && b && c && hi.isSome && decide (l <= h) && decide (h <= g) && decide (g <= els.length), .ro e nl (nl || (h == g)) ((els.take h).drop l), [])
     | _, _, _ => none
   else none
  | .ow e' id p off len cap =>
   bif e' == e then
    match lk id with
    | some ent => match ent.row p with
     | some l0 =>
      match mx with
      | none => match bnd lo 0, bnd hi len with
       | some (a, l), some (b, h) => some (a && b && decide (l <= h) && decide (h <= cap.getD (l0.length - off)), .ow e id p (off + l) (h - l) (cap.map (· - l)), [])
       | _, _ => none
      | some m => match bnd lo 0, bnd hi len, bnd (some m) 0 with
       | some (a, l), some (b, h), some (c, g) => some (a && b && c && hi.isSome && decide (l <= h) && decide (h <= g) && decide (g <= cap.getD (l0.length - off)), .ow e id p (off + l) (h - l) (some (g - l)), [])
       | _, _, _ => none
     | none => none
    | none => none
   else none
  | _ => none
 | _ => none

def JqM : PV -> Bool
 | .va _ _ => true
 | _ => false
def vaL (τ : Tab) (lk : Nat -> Option Ent) : List PV -> Option (List PV × Upd)
 | [] => some ([], [])
 | p :: ps => match (bif JqM p then Qq τ lk p else some (p, [])), vaL τ lk ps with
  | some a, some b => some (a.1 :: b.1, a.2 ++ b.2)
  | _, _ => none
def YY (τ : Tab) (nid : Nat) (lk : Nat -> Option Ent) (b : Builtin) (ts : List TypeId) (xs : List PV) : Ans :=
 bif xs.any JqM then
  match vaL τ lk xs with
  | some (ys, u) => (XG τ nid (JK lk u) b ts ys).map fun r => (r.1, r.2.1, u ++ r.2.2)
  | none => none
 else XG τ nid lk b ts xs
noncomputable def JEK : {f : Nat -> PV -> List PV // f = fun n z => List.replicate n z} := Classical.choice ⟨⟨_, rfl⟩⟩
noncomputable def Jkw (n : Nat) (z : PV) : List PV := JEK.1 n z
theorem Jp9 (n : Nat) (z : PV) : Jkw n z = List.replicate n z := by unfold Jkw; rw [JEK.2]
noncomputable def JqN (l : Operand) (n : Nat) (z : PV) : List PV :=
 match l with
 | .const _ => bif Nat.ble 1000 n then Jkw n z else List.replicate n z
 | _ => List.replicate n z
theorem JqO (l : Operand) (n : Nat) (z : PV) : JqN l n z = List.replicate n z := by
 unfold JqN
 split
 · rw [Jp9]; cases Nat.ble 1000 n <;> rfl
 · rfl
def Wb (τ : Tab) (o : Oper) (rd : Operand -> PV) (lk : Nat -> Option Ent) : Ans :=
 match o.op with
 | .move x | .assign x => some (true, J0 τ o.type (rd x), [])
 | .pick c a b => match rd c with
  | .sc (.bool true) => some (true, rd a, [])
  | .sc (.bool false) => some (true, rd b, [])
  | _ => none
 | .alloc t => (τ.zer t).map fun z => (true, .ptr (Qa o) [], [(Qa o, .box false t z)])
 | .box t x => bif Xh τ t (J0 τ t (rd x)) && (τ.und t).isSome then some (true, .ptr (Qa o) [], [(Qa o, .box false t (J0 τ t (rd x)))]) else none
 | .build t parts =>
  match τ.und t, τ.zer t with
  | some (.struct fds), some (.st _ z) => (J1 τ (fun i => (fds.toList[i]?).map (·.type)) lk true z (parts.toList.map fun p => (p.1, rd p.2))).map fun r => (true, .st t r.1, r.2)
  | some (.array _ e), some (.ar _ z) => (J1 τ (fun _ => some e) lk true z (parts.toList.map fun p => (p.1, rd p.2))).map fun r => (true, .ar t r.1, r.2)
  | some (.array _ e), some (.st _ z) => (J1 τ (fun _ => some e) lk true z (parts.toList.map fun p => (p.1, rd p.2))).map fun r => (true, .st t r.1, r.2)
  | _, _ => none
 | .buildSlice t len parts =>
  match τ.und t with
  | some (.slice e) =>
   match τ.zer e with
   | some z => bif decide (len * τ.siz e <= 16777216) then bif (parts.toList.any fun p => JEJ (rd p.2)) && !τ.isPtr e then (J1 τ (fun _ => some e) lk true (List.replicate len z) (parts.toList.map fun p => (p.1, rd p.2))).map fun r => (true, .va e r.1, r.2) else (J1 τ (fun _ => some e) lk false (List.replicate len z) (parts.toList.map fun p => (p.1, rd p.2))).map fun r => (true, .ow e (Qa o) [] 0 len (Ju1 τ e len), r.2 ++ [(Qa o, .vec false e false r.1)]) else none
   | none => none
  | _ => none
 | .load t x =>
  match rd x with
  | .ptr id p => match lk id with
   | some ent => match ent.get τ p with
    | some (u, via, v) => bif u == t then (bif via then some ((Jdb τ depth t v).1, (Jdb τ depth t v).2, []) else some (true, v, [])) else none
    | none => none
   | none => none
  | .rp u v => bif u == t && (τ.und t).isSome then some (true, v, []) else none
  | .vr u v => bif u == t && (τ.und t).isSome then some (true, v, []) else none
  | _ => none
 | .store t x y =>
  match rd x with
  | .ptr id p => match lk id with
   | some ent =>
    match ent.get τ p with
    | some (u, _, _) =>
     bif u == t && ent.free && Xh τ t (J0 τ t (rd y)) then
      match ent with
      | .vec _ e _ _ => bif τ.isPtr t && !τ.isPtr e then none else (JcF τ t lk (J0 τ t (rd y))).map fun r => (r.2.all fun q => !(q.1 == id), .top, r.2 ++ [(id, ent.set p r.1)])
      | _ => some (true, .top, [(id, ent.set p (J0 τ t (rd y)))])
     else none
    | none => none
   | none => none
  | _ => none
 | .nilCheck x => match rd x with
  | .ptr id p => some (true, .ptr id p, [])
  | .rp t v => some (true, .rp t v, [])
  | .fn (.func f) a b => some (true, .fn (.func f) a b, [])
  | _ => none
 | .binOp op t x y _ => (Jn3 τ op t lk (rd x) (rd y)).map fun r => (r.1, .sc r.2, [])
 | .unOp op t x =>
  match op, τ.und t with
  | .not, some .bool => some ((rd x).isBool, .sc (.bool (!(rd x).bool)), [])
  | .neg, some (.int k) => some ((rd x).isInt k, .sc (.int k (k.wrap (0 - (rd x).int))), [])
  | .xor, some (.int k) => some ((rd x).isInt k, .sc (.int k (JM .xor k (if k.signed then -1 else k.max) (rd x).int)), [])
  | _, _ => none
 | .convert src dst x => Jkv τ (Qa o) lk src dst (rd x)
 | .makeFunc fn first captured => some (true, .fn fn (first.toList.map rd) (captured.toList.map rd), [])
 | .makeSlice t l c =>
  match τ.und t, rd l, rd c with
  | some (.slice e), .sc (.int .i64 a), .sc (.int .i64 b) =>
   (τ.zer e).map fun z => (decide (0 <= a) && decide (a <= b) && decide (b * τ.byt e <= 140737488355328), .ow e (Qa o) [] 0 a.toNat (some b.toNat), [(Qa o, .vec false e false (JqN l b.toNat z))])
  | _, _, _ => none
 | .slice t x lo hi mx => JgR τ lk t (rd x) (lo.map rd) (hi.map rd) (mx.map rd)
 | .fieldAddr t x i =>
  match τ.und t, rd x with
  | some (.struct fds), .ptr id p => bif ZK τ lk id p t && decide (i < fds.size) then some (true, .ptr id (p ++ [i]), []) else none
  | some (.struct fds), .rp u v => match fds.toList[i]? with
   | some f => bif u == t then some (true, .rp f.type (v.child i), []) else none
   | none => none
  | _, _ => none
 | .field t x i =>
  match τ.und t, rd x with
  | some (.struct _), .st u l => bif u == t && decide (i < l.length) then some (true, l.getD i .top, []) else none
  | _, _ => none
 | .indexAddr t x i =>
  match τ.und t, rd x, rd i with
  | some (.slice e), .ow e' id p off len _, .sc (.int _ n) => bif e' == e then some (decide (0 <= n) && decide (n < (len : Int)), .ptr id (p ++ [off + n.toNat]), []) else none
  | some (.slice e), .ro e' _ _ l, .sc (.int _ n) => bif e' == e then some (decide (0 <= n) && decide (n < (l.length : Int)) && (Jdb τ depth e (l.getD n.toNat .top)).1, .rp e (Jdb τ depth e (l.getD n.toNat .top)).2, []) else none
  | some (.slice e), .va e' l, .sc (.int _ n) => bif e' == e then some (decide (0 <= n) && decide (n < (l.length : Int)), .vr e (l.getD n.toNat .top), []) else none
  | some (.array m _), .ptr id p, .sc (.int _ n) => bif ZK τ lk id p t && decide (1 < m) then some (decide (0 <= n) && decide (n < (m : Int)), .ptr id (p ++ [n.toNat]), []) else none
  | _, _, _ => none
 | .index t x i =>
  match τ.und t, rd i with
  | some (.array m e), .sc (.int _ n) => some (Xh τ t (rd x) && decide (0 <= n) && decide (n < (m : Int)) && (Jdb τ depth e ((rd x).child n.toNat)).1, (Jdb τ depth e ((rd x).child n.toNat)).2, [])
  | some .string, .sc (.int _ n) => some ((rd x).isStr && decide (0 <= n) && decide (n < ((rd x).str.size : Int)), .sc (.int .u8 (((rd x).str.data.toList.getD n.toNat 0).toNat : Int)), [])
  | _, _ => none
 | .extract x i => match rd x with
  | .tup l => bif decide (i < l.length) then some (true, l.getD i .top, []) else none
  | _ => none
 | .call c => match c.callee with
  | .builtin b => YY τ (Qa o) lk b c.argTypes.toList (c.args.toList.zipIdx.map fun (x, i) => match c.argTypes.toList[i]? with | some t => J0 τ t (rd x) | none => rd x)
  | _ => none
 | _ => none

/-! ### calls -/
def JfO (τ : Tab) (lk : Nat -> Option Ent) (own : Bool) : PV -> Option (PV × Upd)
 | .ptr id p => some (.ptr id p, [])
 | .fn f a b => some (.fn f a b, [])
 | .rp t v => some (.rp t v, [])
 | .tup _ => none
 | .ow e id p off len cap => bif own then some (.ow e id p off len cap, []) else Qq τ lk (.ow e id p off len cap)
 | p => Qq τ lk p
def Jkx (τ : Tab) (lk : Nat -> Option Ent) : List Bool -> List PV -> Option (List PV × Upd)
 | _, [] => some ([], [])
 | ow, p :: ps => match JfO τ lk (ow.headD false) p, Jkx τ lk ow.tail ps with
  | some a, some b => some (a.1 :: b.1, a.2 ++ b.2)
  | _, _ => none
mutual
def plain : PV -> Bool
 | .top => true
 | .sc _ => true
 | .ar _ _ => true
 | .st _ fs => YZ fs
 | .tup vs => YZ vs
 | _ => false
def YZ : List PV -> Bool
 | [] => true
 | p :: ps => plain p && YZ ps
end
def inn (ids : List Nat) (i : Nat) : Nat := (pos i ids 0).getD 99
def Jaf (ids : List Nat) (nid : Nat) (n : Nat) : Nat := bif n < 16 then ids.getD n 0 else nid + (n - 16)
def JcG (τ : Tab) (ρ : Nat -> Nat) (nid : Nat) : List Ent -> Nat -> Upd
 | [], _ => []
 | e :: r, n => (nid + n, e.ren τ ρ) :: JcG τ ρ nid r (n + 1)
def JfP (τ : Tab) (ρ : Nat -> Nat) : List Nat -> List Ent -> Upd
 | i :: is, e :: es => (i, e.ren τ ρ) :: JfP τ ρ is es
 | _, _ => []
def Q7 (τ : Tab) (lk : Nat -> Option Ent) (ids : List Nat) : Bool := ids.all fun i => match lk i with | some e => (e.ids τ).all fun j => ids.elem j | none => false
def Xo : List Nat -> Bool
 | [] => true
 | x :: xs => !(xs.elem x) && Xo xs
def JdL (lk : Nat -> Option Ent) (nid n : Nat) : Bool := (List.range n).all fun k => (lk (nid + k)).isNone
def JP (pars news : List Ent) : Ents := fun i => if i < 16 then pars[i]? else news[i - 16]?
def JcH (τ : Tab) (ids : List Nat) (nid : Nat) (r : Res) : Upd := JfP τ (Jaf ids nid) ids r.pars ++ JcG τ (Jaf ids nid) nid r.news 0
def Jky (τ : Tab) (g : Sig) (nid : Nat) (lk : Nat -> Option Ent) (args : List PV) (k : PV -> Upd -> Option Res) : Option Res :=
 match Jkx τ lk g.own args with
 | none => none
 | some (xs, u) =>
  let ids := XL τ (JK lk u) 40 (Qs xs) []
  bif decide (ids.length <= 15) && Xo ids && Q7 τ (JK lk u) ids && (Qs xs).all (fun j => ids.elem j) then
   g.run (Wa (inn ids) xs) (ids.map fun i => ((JK lk u i).getD .dead).ren τ (inn ids)) fun r =>
    bif ids.isEmpty && plain r.val && r.news.isEmpty then k r.val [] else
    bif decide (r.pars.length = ids.length) && JdL (JK lk u) nid r.news.length then k (r.val.ren (Jaf ids nid)) (u ++ JcH τ ids nid r) else none
  else none

abbrev Fns := Nat -> Option Sig
def JdM (τ : Tab) (rd : Operand -> PV) (o : Oper) : Option (Nat × List PV) :=
 match o.op with
 | .call c => match c.callee with
  | .value f =>
   match rd f with
   | .fn (.func g) a b => some (g, a ++ (c.args.toList.zipIdx.map fun (x, i) => match c.argTypes.toList[i]? with | some t => J0 τ t (rd x) | none => rd x) ++ b)
   | _ => none
  | _ => none
 | _ => none

def JqP : Op -> Bool
 | .alloc _ => true
 | .box _ _ => true
 | .buildSlice _ _ _ => true
 | .convert _ _ _ => true
 | .makeSlice _ _ _ => true
 | .call _ => true
 | _ => false
def Sta.put (s : Sta) (d : Option Nat) (v : PV) : Sta := match d with | some d => { s with fr := s.fr.set d v } | none => s

def Jkz {α : Type} (p : PV) (k : PV -> α) : α :=
 match p with
 | .sc v => match v with
  | .int a n => k (.sc (.int a n))
  | .bool b => k (.sc (.bool b))
  | .string s => k (.sc (.string s))
  | .float a n => k (.sc (.float a n))
  | .complex a n m => k (.sc (.complex a n m))
  | v => k (.sc v)
 | .ro e nl fl els => k (.ro e nl fl els)
 | .ow e id q off len cap => k (.ow e id q off len cap)
 | .ptr id q => k (.ptr id q)
 | .st t fs => k (.st t fs)
 | .ar t els => k (.ar t els)
 | p => k p
def JgS {α : Type} : List PV -> (List PV -> α) -> α
 | [], k => k []
 | p :: ps, k => Jkz p fun p => JgS ps fun ps => k (p :: ps)
def Jb1 {α : Type} : List (Nat × Ent) -> (List (Nat × Ent) -> α) -> α
 | [], k => k []
 | (i, e) :: r, k =>
  match e with
  | .box z t v => Jkz v fun v => Jb1 r fun r => k ((i, .box z t v) :: r)
  | .vec z t n l => Jb1 r fun r => k ((i, .vec z t n l) :: r)
  | .dead => Jb1 r fun r => k ((i, .dead) :: r)
def JdN {α : Type} (s : Sta) (k : Sta -> α) : α := JgS s.fr fun fr => Jb1 s.hp fun hp => k { fr := fr, hp := hp }
def Ji3 (τ : Tab) (p : PV) (k : PV -> Option Res) : Option Res :=
 match p with
 | .sc (.int a n) => τ.hold Int n fun n => k (.sc (.int a n))
 | .sc (.bool b) => τ.hold Bool b fun b => k (.sc (.bool b))
 | .sc (.string s) => τ.hold ByteArray s fun s => k (.sc (.string s))
 | .sc (.float a n) => τ.hold Nat n fun n => k (.sc (.float a n))
 | .sc (.complex a n m) => τ.hold Nat n fun n => τ.hold Nat m fun m => k (.sc (.complex a n m))
 | .ro e nl fl els => τ.hold (List PV) els fun els => k (.ro e nl fl els)
 | .ow e id q off len cap => τ.hold Nat off fun off => τ.hold Nat len fun len => k (.ow e id q off len cap)
 | .ptr id q => τ.hold (List Nat) q fun q => k (.ptr id q)
 | .rp t v => τ.hold PV v fun v => k (.rp t v)
 | .ar t els => τ.hold (List PV) els fun els => k (.ar t els)
 | .st t fs => τ.hold (List PV) fs fun fs => k (.st t fs)
 | .tup vs => τ.hold (List PV) vs fun vs => k (.tup vs)
 | .fn f a b => τ.hold (List PV) a fun a => τ.hold (List PV) b fun b => k (.fn f a b)
 | p => k p
def JfZ (τ : Tab) : Upd -> (Upd -> Option Res) -> Option Res
 | [], k => k []
 | (i, .box z t v) :: r, k => Ji3 τ v fun v => JfZ τ r fun r => k ((i, .box z t v) :: r)
 | (i, .vec z t n l) :: r, k => τ.hold (List PV) l fun l => JfZ τ r fun r => k ((i, .vec z t n l) :: r)
 | (i, .dead) :: r, k => JfZ τ r fun r => k ((i, .dead) :: r)
def JgT (τ : Tab) (v : PV) (u : Upd) (k : PV -> Upd -> Option Res) : Option Res := Ji3 τ v fun v => JfZ τ u fun u => k v u
def Jn4 (τ : Tab) (F : Fns) (o : Oper) (fr : List PV) (lk : Nat -> Option Ent) (k : PV -> Upd -> Option Res) : Option Res :=
 match JdM τ (rdF fr) o with
 | some (g, xs) => match F g with
  | some sg => Jky τ sg (Qa o) lk xs k
  | none => none
 | none => match Wb τ o (rdF fr) lk with
  | some (c, v, u) => bif c && (!JqP o.op || (lk (Qa o)).isNone) then k v u else none
  | none => none

def Jdi (ops : Array Oper) (o : Oper) (fr : List PV) (k : Bool -> List PV -> Option Res) : Option Res :=
 match o.guard with
 | none => k true fr
 | some (g, want) =>
  match (ops.toList[g]?).bind (·.dst) with
  | some d => match fr.getD d .top with
   | .sc (.bool b) => bif b then k (want == true) (fr.set d (.sc (.bool true))) else k (want == false) (fr.set d (.sc (.bool false)))
   | .tup l => bif l.isEmpty then k false fr else none
   | _ => none
  | none => none

def Jf0 (τ : Tab) (F : Fns) (ops : Array Oper) : List Oper -> Sta -> (Sta -> Option Res) -> Option Res
 | [], s, k => k s
 | o :: r, s, k =>
  Jdi ops o s.fr fun wt fr =>
   bif wt then Jn4 τ F o fr (JB s.hp) fun v u => JgT τ v u fun v u => JdN { fr := (Sta.put { s with fr := fr } o.dst v).fr, hp := Jp8 s.hp u } fun s => Jf0 τ F ops r s k
   else Jf0 τ F ops r (Sta.put { s with fr := fr } o.dst (.tup [])) k

/-! ### regions whose order is drawn -/
structure Foot where
 sr : List Nat
 sw : List Nat
 er : List Nat
 ew : List Nat
def Ya : List Operand -> List Nat
 | [] => []
 | .tmp t :: r => t :: Ya r
 | _ :: r => Ya r
def QL (ops : Array Oper) (o : Oper) : List Nat :=
 match o.guard with
 | some (g, _) => match (ops.toList[g]?).bind (·.dst) with | some d => [d] | none => []
 | none => []
def Gh (a b : List Nat) : Bool := a.any fun x => b.elem x
def JcI (a b : Foot) : Bool := Gh a.sw b.sr || Gh a.sw b.sw || Gh a.sr b.sw || Gh a.ew b.er || Gh a.ew b.ew || Gh a.er b.ew
def JqQ : List Nat -> List Nat -> List Nat
 | [], acc => acc
 | x :: xs, acc => bif acc.elem x then JqQ xs acc else JqQ xs (x :: acc)
def Ga (acc : List (List Nat)) (o : Oper) : List Nat := JqQ ((o.after.toList.filter fun e => Region.binds .any e).flatMap fun e => e.on :: acc.getD e.on []) []
def JqR {α : Type} (n : Nat) (k : Nat -> α) : α := Nat.rec (k 0) (fun m _ => k (m + 1)) n
def ZN {α : Type} : List Nat -> (List Nat -> α) -> α
 | [], k => k []
 | x :: xs, k => JqR x fun x => ZN xs fun xs => k (x :: xs)
def Jdj (i : Nat) (o : Oper) : Bool := o.after.toList.all fun e => !Region.binds .any e || decide (e.on < i)
def Gi (anc : List Nat) (f : Foot) : List Foot -> Nat -> Bool
 | [], _ => true
 | g :: r, i => (!JcI g f || anc.elem i) && Gi anc f r (i + 1)
def JdO (lk : Nat -> Option Ent) (er : List Nat) : Nat -> Option Ent := fun i => bif er.elem i then lk i else none
def Jx1 (lk : Nat -> Option Ent) (er : List Nat) (u : Upd) : Bool := u.all fun q => er.elem q.1 || (lk q.1).isNone
def Jag (o : Oper) (ancs : List (List Nat)) (fs : List Foot) (f : Foot) (fr : List PV) (hp : List (Nat × Ent)) (k : List (List Nat) -> List Foot -> Sta -> Option Res) : Option Res :=
 ZN (Ga ancs o) fun a => ZN f.sr fun sr => ZN f.sw fun sw => ZN f.er fun er => ZN f.ew fun ew =>
  bif Gi a ⟨sr, sw, er, ew⟩ fs 0 then k (ancs ++ [a]) (fs ++ [⟨sr, sw, er, ew⟩]) { fr := fr, hp := hp } else none
def ZO (τ : Tab) (F : Fns) (ops : Array Oper) : List Oper -> Nat -> List (List Nat) -> List Foot -> Sta -> (Sta -> Option Res) -> Option Res
 | [], _, _, _, s, k => k s
 | o :: r, i, ancs, fs, s, k =>
  bif Jdj i o then
   Jdi ops o s.fr fun wt fr =>
    let er := bif wt then XL τ (JB s.hp) 40 (Qs (o.op.operands.toList.map (rdF fr))) [] else []
    (bif wt then
     (bif Q7 τ (JB s.hp) er && (Qs (o.op.operands.toList.map (rdF fr))).all (fun j => er.elem j) then
      Jn4 τ F o fr (JdO (JB s.hp) er) fun v u => JgT τ v u fun v u => bif Jx1 (JB s.hp) er u then Jag o ancs fs ⟨Ya o.op.operands.toList ++ QL ops o, o.dst.toList, er, u.map (·.1)⟩ (Sta.put { s with fr := fr } o.dst v).fr (Jp8 s.hp u) (fun ancs fs s => JdN s fun s => ZO τ F ops r (i + 1) ancs fs s k) else none
     else none)
    else Jag o ancs fs ⟨QL ops o, o.dst.toList, [], []⟩ (Sta.put { s with fr := fr } o.dst (.tup [])).fr s.hp (fun ancs fs s => JdN s fun s => ZO τ F ops r (i + 1) ancs fs s k))
  else none
/-! ### code -/
inductive Md where
 | any | own | ro
 | st (l : List Md)
 | bx (m : Md)
abbrev Nm := List (Nat × Md)
inductive Ex where
 | normal
 | exit (id : Nat)
 | goto (l : Nat)
 | ret
abbrev Kont := Ex -> Sta -> Option Res
inductive An where
 | leaf
 | seq (a b : An)
 | mid (nm : Nm) (a b : An)
 | cut (nm : Nm) (N : Nat) (a : An) (run : List PV -> List (Nat × Ent) -> Kont -> Option Res)
 | cond (a b : An)
 | block (nm : Option Nm) (a : An)
 | loop (nm : Nm) (a : An)
 | scope (nm : Nm) (a : An)
 | sum (nm : Nm) (N : Nat) (run : List PV -> List (Nat × Ent) -> Kont -> Option Res)
 | ssum (nm : Nm) (N : Nat) (a : An) (run : Nat -> List PV -> List (Nat × Ent) -> Kont -> Option Res)
def YH (nm : Nm) (fr : List PV) : List PV := nm.map fun q => fr.getD q.1 .top
def Jqa : Nm -> List PV -> Nat -> PV
 | (j, _) :: r, v :: vs, i => bif j == i then v else Jqa r vs i
 | _, _, _ => .top
def Jn5 (nm : Nm) (vs : List PV) : Nat -> Nat -> List PV
 | 0, _ => []
 | n + 1, i => Jqa nm vs i :: Jn5 nm vs n (i + 1)
def Ji (nm : Nm) (N : Nat) (vs : List PV) (hp : List (Nat × Ent)) : Sta := { fr := Jn5 nm vs N 0, hp := hp }

mutual
def YI (τ : Tab) (base : Nat) (hp : List (Nat × Ent)) : Md -> PV -> Option (PV × List (Nat × Ent))
 | .any, p => some (p, hp)
 | .own, p => match p with
  | .ow e id q off len cap => some (.ow e id q off len cap, hp)
  | .ro e true _ _ => bif (JB hp (base + hp.length)).isNone && (τ.und e).isSome then some (.ow e (base + hp.length) [] 0 0 none, Ji2 hp (base + hp.length) (.vec false e true [])) else none
  | _ => none
 | .ro, p => (Qq τ (JB hp) p).map fun r => (r.1, Jp8 hp r.2)
 | .st ms, p => match p with
  | .st t fs => (Gb τ base hp ms fs).map fun r => (.st t r.1, r.2)
  | _ => none
 | .bx m, p => match p with
  | .ptr i [] => match JB hp i with
   | some (.box false t v) => match YI τ base hp m v with
    | some a => match JB a.2 i with
     | some (.box false t2 _) => bif t2 == t then some (.ptr i [], Ji2 a.2 i (.box false t a.1)) else none
     | _ => none
    | none => none
   | _ => none
  | _ => none
def Gb (τ : Tab) (base : Nat) (hp : List (Nat × Ent)) : List Md -> List PV -> Option (List PV × List (Nat × Ent))
 | m :: ms, p :: ps => match YI τ base hp m p with
  | some a => (Gb τ base a.2 ms ps).map fun r => (a.1 :: r.1, r.2)
  | none => none
 | _, ps => some (ps, hp)
end
def JcJ (nm : Nm) (i : Nat) : Option Md :=
 match nm with
 | [] => none
 | (j, m) :: r => bif j == i then some m else JcJ r i
def ZD (τ : Tab) (base : Nat) (nm : Nm) : List (Nat × Ent) -> List PV -> Nat -> Option (List PV × List (Nat × Ent))
 | hp, [], _ => some ([], hp)
 | hp, p :: ps, i =>
  match JcJ nm i with
  | none => (ZD τ base nm hp ps (i + 1)).map fun r => (.top :: r.1, r.2)
  | some m => match YI τ base hp m p with
   | some a => (ZD τ base nm a.2 ps (i + 1)).map fun r => (a.1 :: r.1, r.2)
   | none => none
def JcK (τ : Tab) (lk : Nat -> Option Ent) (ρ : Nat -> Nat) : List Nat -> List (Nat × Ent)
 | [] => []
 | i :: r => (ρ i, ((lk i).getD .dead).ren τ ρ) :: JcK τ lk ρ r
def JgU (np base : Nat) (ids : List Nat) (i : Nat) : Nat := bif decide (i < np) then i else base + (pos i ids 0).getD 0
def Wy (τ : Tab) (np : Nat) (nm : Nm) (s : Sta) : Option Sta :=
 match ZD τ (16 * (s.fr.length + 1) + 1000) nm s.hp s.fr 0 with
 | none => none
 | some (fr, hp) =>
  let ids := XL τ (JB hp) 60 (List.range np ++ Qs fr) []
  let ρ := JgU np (16 * (s.fr.length + 1)) ids
  bif Q7 τ (JB hp) ids && Xo (ids.map ρ) && (List.range np ++ Qs fr).all (fun j => ids.elem j) then some { fr := Wa ρ fr, hp := JcK τ (JB hp) ρ ids } else none

def Jy (τ : Tab) (np : Nat) (nm : Nm) (body : Sta -> Kont -> Option Res) : Nat -> Sta -> Kont -> Option Res
 | 0, _, _ => none
 | n + 1, s, k => body s fun e s' => match e with
  | .normal => match Wy τ np nm s' with
   | some s2 => Jy τ np nm body n s2 k
   | none => none
  | e => k e s'
def JqS (body : Sta -> Kont -> Option Res) : Nat -> Sta -> Kont -> Option Res
 | 0, _, _ => none
 | _ + 1, s, k => body s k
def hasLabel : Code -> Nat -> Bool
 | .seq a b, l => hasLabel a l || hasLabel b l
 | .label l', l => l' == l
 | _, _ => false
def QZ (τ : Tab) (np : Nat) (nm : Nm) (has : Nat -> Bool) (frm : Nat -> Sta -> Kont -> Option Res) : Nat -> Nat -> Sta -> Kont -> Option Res
 | 0, _, _, _ => none
 | n + 1, l, s, k => frm l s fun e s' => match e with
  | .goto l' => bif has l' then (match Wy τ np nm s' with
   | some s2 => QZ τ np nm has frm n l' s2 k
   | none => none) else k (.goto l') s'
  | e => k e s'

mutual
def ev (τ : Tab) (F : Fns) (np n : Nat) : Code -> An -> Sta -> Kont -> Option Res
 | .skip, _, s, k => k .normal s
 | .label _, _, s, k => k .normal s
 | .seq a b, .seq x y, s, k => ev τ F np n a x s fun e s' => match e with
  | .normal => ev τ F np n b y s' k
  | e => k e s'
 | .seq a b, .mid nm x y, s, k => ev τ F np n a x s fun e s' => match e with
  | .normal => (match Wy τ np nm s' with
   | some s2 => ev τ F np n b y s2 k
   | none => none)
  | e => k e s'
 | .seq a b, .cut nm N x run, s, k => ev τ F np n a x s fun e s' => match e with
  | .normal => (match Wy τ np nm s' with
   | some s2 => bif s2.fr.length == N then run (YH nm s2.fr) s2.hp k else none
   | none => none)
  | e => k e s'
 | .cond c a b, .cond x y, s, k => match rdF s.fr c with
  | .sc (.bool t) => bif t then ev τ F np n a x s k else ev τ F np n b y s k
  | _ => none
 | .block id c, .block nm x, s, k => ev τ F np n c x s fun e s' => match e with
  | .exit i => bif i == id then (match nm with
   | none => k .normal s'
   | some nm => match Wy τ np nm s' with
    | some s2 => k .normal s2
    | none => none) else k (.exit i) s'
  | .normal => (match nm with
   | none => k .normal s'
   | some nm => match Wy τ np nm s' with
    | some s2 => k .normal s2
    | none => none)
  | e => k e s'
 | .loop c, .loop nm x, s, k => match Wy τ np nm s with
  | some s2 => Jy τ np nm (fun s k => ev τ F np n c x s k) n s2 k
  | none => none
 | .loop _, .sum nm N run, s, k => match Wy τ np nm s with
  | some s2 => bif s2.fr.length == N then run (YH nm s2.fr) s2.hp k else none
  | none => none
 | .scope c, .scope nm x, s, k => ev τ F np n c x s fun e s' => match e with
  | .goto l => bif hasLabel c l then (match Wy τ np nm s' with
   | some s2 => QZ τ np nm (hasLabel c) (fun l s k => Qg τ F np n c x l s k) n l s2 k
   | none => none) else k (.goto l) s'
  | e => k e s'
 | .scope c, .ssum nm N x run, s, k => ev τ F np n c x s fun e s' => match e with
  | .goto l => bif hasLabel c l then (match Wy τ np nm s' with
   | some s2 => bif s2.fr.length == N then run l (YH nm s2.fr) s2.hp k else none
   | none => none) else k (.goto l) s'
  | e => k e s'
 | .region _ ops draw, _, s, k => bif draw then ZO τ F ops ops.toList 0 [] [] s fun s' => k .normal s' else Jf0 τ F ops ops.toList s fun s' => k .normal s'
 | .exit id, _, s, k => k (.exit id) s
 | .goto l, _, s, k => k (.goto l) s
 | .ret, _, s, k => k .ret s
 | _, _, _, _ => none
def Qg (τ : Tab) (F : Fns) (np n : Nat) : Code -> An -> Nat -> Sta -> Kont -> Option Res
 | .seq a b, .seq x y, l, s, k =>
  bif hasLabel a l then Qg τ F np n a x l s fun e s' => match e with
   | .normal => ev τ F np n b y s' k
   | e => k e s'
  else Qg τ F np n b y l s k
 | .label l', _, l, s, k => bif l' == l then k .normal s else none
 | _, _, _, _, _ => none
end

/-! ### a function -/
def JfQ (τ : Tab) (s : Sta) : List ResultVar -> Option (List PV)
 | [] => some []
 | .tmp t :: r => (JfQ τ s r).map fun l => s.fr.getD t .top :: l
 | .cell a t :: r => match s.fr.getD a .top with
  | .ptr id p => match JB s.hp id with
   | some ent => match ent.get τ p with
    | some (u, via, v) => bif u == t && !via then (JfQ τ s r).map fun l => v :: l else none
    | none => none
   | none => none
  | _ => none
def Jqb : List Ent -> Nat -> List (Nat × Ent)
 | [], _ => []
 | e :: r, i => (i, e) :: Jqb r (i + 1)
def JdP (τ : Tab) (rs : List ResultVar) (md : List Md) (m : Nat) (s : Sta) (k : Res -> Option Res) : Option Res :=
 match JfQ τ s rs with
 | none => none
 | some l =>
  match Gb τ (16 * (s.fr.length + 1) + 1000) s.hp md l with
  | none => none
  | some (l, hp) =>
   let ids := XL τ (JB hp) 60 (List.range m ++ Qs l) []
   let ρ := JgU m (16 - m) ids
   bif Q7 τ (JB hp) ids && Xo ids && Xo (ids.map ρ) && (List.range m ++ Qs l).all (fun j => ids.elem j) && (ids.take m == List.range m) then
    k { val := match l with | [p] => p.ren ρ | l => .tup (Wa ρ l), pars := (List.range m).map fun i => ((JB hp i).getD .dead).ren τ ρ, news := (ids.drop m).map fun i => ((JB hp i).getD .dead).ren τ ρ }
   else none
def JJ (τ : Tab) (F : Fns) (f : Func) (c : Code) (an : An) (md : List Md) (n : Nat) (args : List PV) (ents : List Ent) (k : Res -> Option Res) : Option Res :=
 ev τ F ents.length n c an { fr := args ++ List.replicate (f.ntmps - args.length) .top, hp := Jqb ents 0 } fun e s => match e with
  | .normal => JdP τ f.results.toList md ents.length s k
  | .ret => JdP τ f.results.toList md ents.length s k
  | _ => none
end Go.Proofs.Ythpmachmnoljeaa.Rx
end

noncomputable section
namespace Go.Proofs.Ythpmachmnoljeaa.Rx
open Go
set_option linter.unusedVariables false

inductive Root where
 | box (t : TypeId)
 | vec (e : TypeId) (L : Nat) (nl : Bool)
structure Loc where
 blk : Option Nat
 base : Nat
 root : Root
 room : Nat
abbrev Im := Nat -> Option Obj
abbrev Own := Nat -> Option Loc

section
variable (τ : Tab)
def Qv : TypeId -> List Nat -> Option (Nat × TypeId)
 | t, [] => some (0, t)
 | t, i :: p => match τ.und t with
  | some (.struct fds) => (fds.toList[i]?).bind fun f => (Qv f.type p).map fun r => (f.offset + r.1, r.2)
  | some (.array n e) => if i < n then (Qv e p).map fun r => (i * τ.siz e + r.1, r.2) else none
  | _ => none
def Root.place : Root -> List Nat -> Option (Nat × TypeId)
 | .box t, p => Qv τ t p
 | .vec e L _, i :: p => if i < L then (Qv τ e p).map fun r => (i * τ.siz e + r.1, r.2) else none
 | .vec _ _ _, [] => none
def Root.rowAt : Root -> List Nat -> Option (Nat × TypeId × Nat)
 | .vec e L _, [] => some (0, e, L)
 | .vec _ _ _, _ :: _ => none
 | .box t, p => (Qv τ t p).bind fun r => match τ.und r.2 with
  | some (.array n e) => some (r.1, e, n)
  | _ => none

def RoV (im : Im) (nl fl : Bool) (n : Nat) (R : List Value -> Prop) (u : Value) : Prop :=
 (nl = true /\ u = .slice none 0 0 /\ n = 0) ∨
 (nl = false /\ ∃ a c, u = .slice (some a) n c /\ n <= c /\ (fl = true -> c = n) /\
  (n = 0 ∨ (a.spot = none /\ ∃ cells el fr pre mid post, im a.block = some (.cells cells el fr) /\ cells.toList = pre ++ mid ++ post /\ pre.length = a.off /\ R mid)))
def OwV (ow : Own) (e : TypeId) (id : Nat) (p : List Nat) (off len : Nat) (cap : Option Nat) (u : Value) : Prop :=
  ∃ loc, ow id = some loc /\
    ((loc.blk = none /\ p = [] /\ off = 0 /\ len = 0 /\ (cap = none ∨ cap = some 0) /\ ∃ nl, loc.root = .vec e 0 nl /\ ((nl = true /\ u = .slice none 0 0) ∨ (nl = false /\ ∃ a, u = .slice (some a) 0 0))) ∨
     (∃ b a c o n, loc.blk = some b /\ u = .slice (some a) len c /\ len <= c /\ loc.root.rowAt τ p = some (o, e, n) /\ off + len <= n /\
       (∀ c', cap = some c' -> c = c' /\ off + c' <= n) /\ (cap = none -> n <= off + c) /\ ((a = ⟨b, loc.base + o + off * τ.siz e, none⟩ /\ (cap = none -> o + (off + c) * τ.siz e <= loc.room)) ∨ c = 0)))
def JkA (ow : Own) (id : Nat) (p : List Nat) (u : Value) : Prop :=
 ∃ loc b o t, ow id = some loc /\ loc.blk = some b /\ loc.root.place τ p = some (o, t) /\ u = .pointer (some ⟨b, loc.base + o, none⟩)
def Qz : List PV -> List Value -> Prop
 | [], cs => cs = []
 | p :: ps, cs => ∃ v r, cs = v :: r /\ v.oneCell' = true /\ (p = .sc v ∨ p = .top) /\ Qz ps r

def JC : Own := fun _ => none
mutual
def Rep (im : Im) : Own -> PV -> TypeId -> List Value -> Prop
 | _, .top, t, cs => cs.length = τ.siz t /\ ∀ v ∈ cs, v.oneCell' = true
 | _, .sc v, t, cs => τ.agg t = false /\ cs = [v] /\ v.oneCell' = true
 | _, .ro e nl fl els, t, cs => τ.und t = some (.slice e) /\ ∃ u, cs = [u] /\ RoV im nl fl els.length (fun mid => Jm im JC els e mid) u
 | ow, .ow e id p off len cap, t, cs => τ.und t = some (.slice e) /\ ∃ u, cs = [u] /\ OwV τ ow e id p off len cap u
 | ow, .ptr id p, t, cs => τ.isPtr t = true /\ ∃ u, cs = [u] /\ JkA τ ow id p u
 | _, .rp _ _, _, _ => False
 | _, .ar t' els, t, cs => t' = t /\ ∃ n e, τ.und t = some (.array n e) /\ τ.scal e = true /\ els.length = n /\ Qz els cs
 | ow, .st t' fs, t, cs => t' = t /\ ((∃ fds, τ.und t = some (.struct fds) /\ JQ im ow fs (fds.toList.map (·.type)) cs) ∨ (∃ n e, τ.und t = some (.array n e) /\ fs.length = n /\ Jm im ow fs e cs))
 | _, .tup _, _, _ => False
 | ow, .fn f a b, t, cs => τ.isFun t = true /\ ∃ u v, cs = [.func f u v] /\ JF im ow a u.toList /\ JF im ow b v.toList
 | _, .va _ _, _, _ => False
 | _, .vr _ _, _, _ => False
def Jm (im : Im) : Own -> List PV -> TypeId -> List Value -> Prop
 | _, [], _, cs => cs = []
 | ow, p :: ps, e, cs => ∃ c1 c2, cs = c1 ++ c2 /\ Rep im ow p e c1 /\ Jm im ow ps e c2
def JQ (im : Im) : Own -> List PV -> List TypeId -> List Value -> Prop
 | _, [], ts, cs => ts = [] /\ cs = []
 | ow, p :: ps, ts, cs => ∃ t r c1 c2, ts = t :: r /\ cs = c1 ++ c2 /\ Rep im ow p t c1 /\ JQ im ow ps r c2
def Jg (im : Im) : Own -> PV -> Value -> Prop
 | _, .top, _ => True
 | _, .sc v, u => u = v /\ v.oneCell' = true
 | _, .ro e nl fl els, u => RoV im nl fl els.length (fun mid => Jm im JC els e mid) u
 | ow, .ow e id p off len cap, u => OwV τ ow e id p off len cap u
 | ow, .ptr id p, u => JkA τ ow id p u
 | _, .rp t v, u => ∃ a cells el fr pre mid post, u = .pointer (some a) /\ a.spot = none /\ im a.block = some (.cells cells el fr) /\ cells.toList = pre ++ mid ++ post /\ pre.length = a.off /\ Rep im JC v t mid
 | _, .ar t els, u => ∃ cs n e, u = .agg cs /\ τ.und t = some (.array n e) /\ τ.scal e = true /\ els.length = n /\ Qz els cs.toList
 | ow, .st t fs, u => ∃ cs, u = .agg cs /\ ((∃ fds, τ.und t = some (.struct fds) /\ JQ im ow fs (fds.toList.map (·.type)) cs.toList) ∨ (∃ n e, τ.und t = some (.array n e) /\ fs.length = n /\ Jm im ow fs e cs.toList))
 | ow, .tup l, u => ∃ us, u = .tuple us /\ JF im ow l us.toList
 | ow, .fn f a b, u => ∃ x y, u = .func f x y /\ JF im ow a x.toList /\ JF im ow b y.toList
 | ow, .va e els, u => RoV im false true els.length (fun mid => Jm im ow els e mid) u
 | ow, .vr t v, u => ∃ a cells el fr pre mid post, u = .pointer (some a) /\ a.spot = none /\ im a.block = some (.cells cells el fr) /\ cells.toList = pre ++ mid ++ post /\ pre.length = a.off /\ Rep im ow v t mid
def JF (im : Im) : Own -> List PV -> List Value -> Prop
 | _, [], us => us = []
 | ow, p :: ps, us => ∃ u r, us = u :: r /\ Jg im ow p u /\ JF im ow ps r
end
end

theorem RoV.mono {im im' : Im} (him : ∀ b o, im b = some o -> im' b = some o) {nl fl n R R' u} (hR : ∀ l, R l -> R' l) (h : RoV im nl fl n R u) : RoV im' nl fl n R' u := by
 rcases h with h | ⟨h1, a, c, h2, h3, h4, h5⟩
 · exact .inl h
 · refine .inr ⟨h1, a, c, h2, h3, h4, ?_⟩
   rcases h5 with h5 | ⟨s, cells, el, fr, pre, mid, post, g1, g2, g3, g4⟩
   · exact .inl h5
   · exact .inr ⟨s, cells, el, fr, pre, mid, post, him _ _ g1, g2, g3, hR _ g4⟩
theorem OwV.mono {τ : Tab} {ow ow' : Own} (h' : ∀ i l, ow i = some l -> ow' i = some l) {e id p off len cap u} (h : OwV τ ow e id p off len cap u) : OwV τ ow' e id p off len cap u := by
 obtain ⟨loc, h1, h2⟩ := h
 exact ⟨loc, h' _ _ h1, h2⟩
theorem JkA.mono {τ : Tab} {ow ow' : Own} (h' : ∀ i l, ow i = some l -> ow' i = some l) {id p u} (h : JkA τ ow id p u) : JkA τ ow' id p u := by
 obtain ⟨loc, b, o, t, h1, h2⟩ := h
 exact ⟨loc, b, o, t, h' _ _ h1, h2⟩

section
variable {τ : Tab} {im im' : Im} (him : ∀ b o, im b = some o -> im' b = some o)
include him
mutual
theorem Rep.mono' : ∀ (p : PV) (ow ow' : Own) (how : ∀ i l, ow i = some l -> ow' i = some l) (t : TypeId) (cs : List Value), Rep τ im ow p t cs -> Rep τ im' ow' p t cs
 | .top, ow, ow', how, t, cs, h => by simpa only [Rep] using h
 | .sc v, ow, ow', how, t, cs, h => by simpa only [Rep] using h
 | .ro e nl fl els, ow, ow', how, t, cs, h => by
  simp only [Rep] at h ⊢
  obtain ⟨h1, u, h2, h3⟩ := h
  exact ⟨h1, u, h2, h3.mono him (fun l hl => Jm.mono' els JC JC (fun _ _ h => h) e l hl)⟩
 | .ow e id p off len cap, ow, ow', how, t, cs, h => by
  simp only [Rep] at h ⊢
  obtain ⟨h1, u, h2, h3⟩ := h
  exact ⟨h1, u, h2, h3.mono how⟩
 | .ptr id p, ow, ow', how, t, cs, h => by
  simp only [Rep] at h ⊢
  obtain ⟨h1, u, h2, h3⟩ := h
  exact ⟨h1, u, h2, h3.mono how⟩
 | .rp _ _, ow, ow', how, t, cs, h => by simp only [Rep] at h
 | .ar t' els, ow, ow', how, t, cs, h => by simpa only [Rep] using h
 | .st t' fs, ow, ow', how, t, cs, h => by
  simp only [Rep] at h ⊢
  obtain ⟨h1, h2⟩ := h
  refine ⟨h1, ?_⟩
  rcases h2 with ⟨fds, h3, h4⟩ | ⟨n, e, h3, h4, h5⟩
  · exact .inl ⟨fds, h3, JQ.mono' _ _ _ how _ _ h4⟩
  · exact .inr ⟨n, e, h3, h4, Jm.mono' _ _ _ how _ _ h5⟩
 | .tup _, ow, ow', how, t, cs, h => by simp only [Rep] at h
 | .va _ _, ow, ow', how, t, cs, h => by simp only [Rep] at h
 | .vr _ _, ow, ow', how, t, cs, h => by simp only [Rep] at h
 | .fn f a b, ow, ow', how, t, cs, h => by
  simp only [Rep] at h ⊢
  obtain ⟨h1, u, v, h2, h3, h4⟩ := h
  exact ⟨h1, u, v, h2, JF.mono' _ _ _ how _ h3, JF.mono' _ _ _ how _ h4⟩
theorem Jm.mono' : ∀ (l : List PV) (ow ow' : Own) (how : ∀ i l, ow i = some l -> ow' i = some l) (e : TypeId) (cs : List Value), Jm τ im ow l e cs -> Jm τ im' ow' l e cs
 | [], ow, ow', how, e, cs, h => by
  have _h := him
  simpa only [Jm] using h
 | p :: ps, ow, ow', how, e, cs, h => by
  simp only [Jm] at h ⊢
  obtain ⟨c1, c2, h1, h2, h3⟩ := h
  exact ⟨c1, c2, h1, Rep.mono' _ _ _ how _ _ h2, Jm.mono' _ _ _ how _ _ h3⟩
theorem JQ.mono' : ∀ (l : List PV) (ow ow' : Own) (how : ∀ i l, ow i = some l -> ow' i = some l) (ts : List TypeId) (cs : List Value), JQ τ im ow l ts cs -> JQ τ im' ow' l ts cs
 | [], ow, ow', how, e, cs, h => by
  have _h := him
  simpa only [JQ] using h
 | p :: ps, ow, ow', how, e, cs, h => by
  simp only [JQ] at h ⊢
  obtain ⟨t, r, c1, c2, h0, h1, h2, h3⟩ := h
  exact ⟨t, r, c1, c2, h0, h1, Rep.mono' _ _ _ how _ _ h2, JQ.mono' _ _ _ how _ _ h3⟩
theorem Jg.mono' : ∀ (p : PV) (ow ow' : Own) (how : ∀ i l, ow i = some l -> ow' i = some l) (u : Value), Jg τ im ow p u -> Jg τ im' ow' p u
 | .top, ow, ow', how, u, h => by simp only [Jg]
 | .sc v, ow, ow', how, u, h => by simpa only [Jg] using h
 | .ro e nl fl els, ow, ow', how, u, h => by
  simp only [Jg] at h ⊢
  exact h.mono him (fun l hl => Jm.mono' els JC JC (fun _ _ h => h) e l hl)
 | .ow e id p off len cap, ow, ow', how, u, h => by
  simp only [Jg] at h ⊢
  exact h.mono how
 | .ptr id p, ow, ow', how, u, h => by
  simp only [Jg] at h ⊢
  exact h.mono how
 | .rp t v, ow, ow', how, u, h => by
  simp only [Jg] at h ⊢
  obtain ⟨a, cells, el, fr, pre, mid, post, h1, h2, h3, h4, h5, h6⟩ := h
  exact ⟨a, cells, el, fr, pre, mid, post, h1, h2, him _ _ h3, h4, h5, Rep.mono' _ _ _ (fun _ _ h => h) _ _ h6⟩
 | .ar t els, ow, ow', how, u, h => by simpa only [Jg] using h
 | .st t fs, ow, ow', how, u, h => by
  simp only [Jg] at h ⊢
  obtain ⟨cs, h1, h2⟩ := h
  refine ⟨cs, h1, ?_⟩
  rcases h2 with ⟨fds, h3, h4⟩ | ⟨n, e, h3, h4, h5⟩
  · exact .inl ⟨fds, h3, JQ.mono' _ _ _ how _ _ h4⟩
  · exact .inr ⟨n, e, h3, h4, Jm.mono' _ _ _ how _ _ h5⟩
 | .tup l, ow, ow', how, u, h => by
  simp only [Jg] at h ⊢
  obtain ⟨us, h1, h2⟩ := h
  exact ⟨us, h1, JF.mono' _ _ _ how _ h2⟩
 | .va e els, ow, ow', how, u, h => by
  simp only [Jg] at h ⊢
  exact h.mono him (fun l hl => Jm.mono' els ow ow' how e l hl)
 | .vr t v, ow, ow', how, u, h => by
  simp only [Jg] at h ⊢
  obtain ⟨a, cells, el, fr, pre, mid, post, h1, h2, h3, h4, h5, h6⟩ := h
  exact ⟨a, cells, el, fr, pre, mid, post, h1, h2, him _ _ h3, h4, h5, Rep.mono' _ _ _ how _ _ h6⟩
 | .fn f a b, ow, ow', how, u, h => by
  simp only [Jg] at h ⊢
  obtain ⟨x, y, h2, h3, h4⟩ := h
  exact ⟨x, y, h2, JF.mono' _ _ _ how _ h3, JF.mono' _ _ _ how _ h4⟩
theorem JF.mono' : ∀ (l : List PV) (ow ow' : Own) (how : ∀ i l, ow i = some l -> ow' i = some l) (us : List Value), JF τ im ow l us -> JF τ im' ow' l us
 | [], ow, ow', how, us, h => by
  have _h := him
  simpa only [JF] using h
 | p :: ps, ow, ow', how, us, h => by
  simp only [JF] at h ⊢
  obtain ⟨u, r, h1, h2, h3⟩ := h
  exact ⟨u, r, h1, Jg.mono' _ _ _ how _ h2, JF.mono' _ _ _ how _ h3⟩
end
end
section
variable {τ : Tab} {im im' : Im} {ow ow' : Own} (him : ∀ b o, im b = some o -> im' b = some o) (how : ∀ i l, ow i = some l -> ow' i = some l)
include him how
theorem Rep.mono (p : PV) (t : TypeId) (cs : List Value) (h : Rep τ im ow p t cs) : Rep τ im' ow' p t cs := Rep.mono' him p ow ow' how t cs h
theorem Jm.mono (l : List PV) (t : TypeId) (cs : List Value) (h : Jm τ im ow l t cs) : Jm τ im' ow' l t cs := Jm.mono' him l ow ow' how t cs h
theorem JQ.mono (l : List PV) (ts : List TypeId) (cs : List Value) (h : JQ τ im ow l ts cs) : JQ τ im' ow' l ts cs := JQ.mono' him l ow ow' how ts cs h
theorem Jg.mono (p : PV) (u : Value) (h : Jg τ im ow p u) : Jg τ im' ow' p u := Jg.mono' him p ow ow' how u h
theorem JF.mono (l : List PV) (us : List Value) (h : JF τ im ow l us) : JF τ im' ow' l us := JF.mono' him l ow ow' how us h
end
theorem Gj {ow : Own} : ∀ i l, JC i = some l -> ow i = some l := by intro i l h; cases h
theorem Rep.up {τ : Tab} {im : Im} {ow : Own} {p t cs} (h : Rep τ im JC p t cs) : Rep τ im ow p t cs := Rep.mono (fun _ _ h => h) Gj _ _ _ h
theorem Jm.up {τ : Tab} {im : Im} {ow : Own} {p t cs} (h : Jm τ im JC p t cs) : Jm τ im ow p t cs := Jm.mono (fun _ _ h => h) Gj _ _ _ h
theorem Jg.up {τ : Tab} {im : Im} {ow : Own} {p u} (h : Jg τ im JC p u) : Jg τ im ow p u := Jg.mono (fun _ _ h => h) Gj _ _ h
def vow (τ : Tab) (e : TypeId) (ow : Own) : Own := if τ.isPtr e then ow else JC
theorem JqT {τ : Tab} {e : TypeId} {ow : Own} : ∀ i l, vow τ e ow i = some l -> ow i = some l := by
 intro i l h; unfold vow at h; split at h
 · exact h
 · cases h
theorem JdQ {τ : Tab} {e : TypeId} {ow ow' : Own} (how : ∀ i l, ow i = some l -> ow' i = some l) : ∀ i l, vow τ e ow i = some l -> vow τ e ow' i = some l := by
 intro i l h; unfold vow at h ⊢; split at h
 · rename_i hp; rw [if_pos hp]; exact how _ _ h
 · cases h
end Go.Proofs.Ythpmachmnoljeaa.Rx
end

noncomputable section
namespace Go.Proofs.Ythpmachmnoljeaa.Rx
open Go
set_option linter.unusedVariables false

def FieldsOk (τ : Tab) : Nat -> List Field -> Nat -> Prop
 | o, [], n => o = n
 | o, f :: r, n => f.offset = o /\ (∃ d, τ.und f.type = some d) /\ FieldsOk τ (o + τ.siz f.type) r n
structure TabOk (τ : Tab) (P : Program) : Prop where
 hold : ∀ β x k, τ.hold β x k = k x
 und : ∀ t d, τ.und t = some d -> P.underlying t = some d
 info : ∀ t d, τ.und t = some d -> ∃ i, P.info? t = some i /\ i.size = τ.siz t /\ i.bytes = τ.byt t
 one : ∀ t d, τ.und t = some d -> τ.agg t = false -> τ.siz t = 1
 pos : ∀ t d, τ.und t = some d -> 0 < τ.siz t
 posB : ∀ t d, τ.und t = some d -> 0 < τ.byt t /\ τ.byt t <= 1048576
 str : ∀ t fds, τ.und t = some (.struct fds) -> FieldsOk τ 0 fds.toList (τ.siz t) /\ P.stoodInHeld t = false
 arr : ∀ t n e, τ.und t = some (.array n e) -> τ.siz t = n * τ.siz e /\ ∃ d, τ.und e = some d
 sl : ∀ t e, τ.und t = some (.slice e) -> ∃ d, τ.und e = some d
 guard : ∀ t d, τ.und t = some d -> τ.agg t = true -> P.eqGuardType P.depth t = false
 zer : ∀ t z, τ.zer t = some z -> (∃ d, τ.und t = some d) /\ ∃ i v, P.info? t = some i /\ i.zero = some v /\ (τ.agg t = false -> v.oneCell' = true) /\ (τ.agg t = true -> ∃ cs, v = .agg cs) /\ ∀ im ow, Rep τ im ow z t v.cells.toList

theorem Jah {τ : Tab} {t} (h : τ.scal t = true) : τ.agg t = false := by
 unfold Tab.scal at h; unfold Tab.agg; split at h <;> simp_all

theorem VA {τ : Tab} {t} (h : τ.isPtr t = true) : τ.agg t = false := by
 unfold Tab.isPtr at h; unfold Tab.agg; cases hu : τ.und t with
 | none => rfl
 | some d => cases d <;> simp_all
theorem VB {τ : Tab} {t} (h : τ.isFun t = true) : τ.agg t = false := by
 unfold Tab.isFun at h; unfold Tab.agg; cases hu : τ.und t with
 | none => rfl
 | some d => cases d <;> simp_all
theorem Ji4 {τ : Tab} {t} (h : τ.scal t = true) : τ.isPtr t = false /\ τ.isFun t = false := by
 unfold Tab.scal at h; unfold Tab.isPtr Tab.isFun; cases hu : τ.und t with
 | none => simp_all
 | some d => cases d <;> simp_all
section
variable {τ : Tab} {P : Program} (ok : TabOk τ P) {im : Im} {ow : Own}
include ok

theorem ZP {t} (h : τ.scal t = true) : τ.siz t = 1 := by
 cases hu : τ.und t with
 | none => simp [Tab.scal, hu] at h
 | some d => exact ok.one t d hu (Jah h)

theorem Qz.length : ∀ {l : List PV} {cs : List Value}, Qz l cs -> cs.length = l.length
 | [], cs, h => by have _ := ok; simp only [Qz] at h; simp [h]
 | p :: ps, cs, h => by
  simp only [Qz] at h
  obtain ⟨v, r, rfl, _, _, h2⟩ := h
  simp [Qz.length h2]


mutual
theorem Rep.len : ∀ (p : PV) (t : TypeId) (cs : List Value), (∃ d, τ.und t = some d) -> Rep τ im ow p t cs -> cs.length = τ.siz t
 | .top, t, cs, _, h => by simp only [Rep] at h; exact h.1
 | .sc v, t, cs, ⟨d, hd⟩, h => by
  simp only [Rep] at h; obtain ⟨h1, h2, _⟩ := h
  rw [ok.one t d hd h1, h2]; rfl
 | .ro e nl fl els, t, cs, ⟨d, hd⟩, h => by
  simp only [Rep] at h; obtain ⟨h1, u, h2, _⟩ := h
  rw [ok.one t d hd (by simp [Tab.agg, h1]), h2]; rfl
 | .ow e id p off len cap, t, cs, ⟨d, hd⟩, h => by
  simp only [Rep] at h; obtain ⟨h1, u, h2, _⟩ := h
  rw [ok.one t d hd (by simp [Tab.agg, h1]), h2]; rfl
 | .ptr id p, t, cs, ⟨d, hd⟩, h => by
  simp only [Rep] at h; obtain ⟨h1, u, h2, _⟩ := h
  rw [ok.one t d hd (VA h1), h2]; rfl
 | .rp _ _, t, cs, _, h => by simp only [Rep] at h
 | .va _ _, t, cs, _, h => by simp only [Rep] at h
 | .vr _ _, t, cs, _, h => by simp only [Rep] at h
 | .ar t' els, t, cs, _, h => by
  simp only [Rep] at h; obtain ⟨h1, n, e, h2, h3, h4, h5⟩ := h
  rw [Qz.length ok h5, (ok.arr t n e h2).1, ZP ok h3, h4]; omega
 | .st t' fs, t, cs, _, h => by
  simp only [Rep] at h; obtain ⟨h1, h2⟩ := h
  rcases h2 with ⟨fds, h3, h4⟩ | ⟨n, e, h3, h4, h5⟩
  · have := (JQ.len fs fds.toList 0 (τ.siz t) cs (ok.str t fds h3).1 h4).1; omega
  · rw [Jm.len fs e cs (ok.arr t n e h3).2 h5, (ok.arr t n e h3).1, h4]
 | .tup _, t, cs, _, h => by simp only [Rep] at h
 | .fn f a b, t, cs, ⟨d, hd⟩, h => by
  simp only [Rep] at h; obtain ⟨h1, u, v, h2, _⟩ := h
  rw [ok.one t d hd (VB h1), h2]; rfl
theorem Jm.len : ∀ (l : List PV) (e : TypeId) (cs : List Value), (∃ d, τ.und e = some d) -> Jm τ im ow l e cs -> cs.length = l.length * τ.siz e
 | [], e, cs, _, h => by have _ := ok; simp only [Jm] at h; simp [h]
 | p :: ps, e, cs, hd, h => by
  simp only [Jm] at h
  obtain ⟨c1, c2, rfl, h2, h3⟩ := h
  rw [List.length_append, Rep.len p e c1 hd h2, Jm.len ps e c2 hd h3, List.length_cons, Nat.add_mul]; omega
theorem JQ.len : ∀ (l : List PV) (fds : List Field) (o n : Nat) (cs : List Value), FieldsOk τ o fds n -> JQ τ im ow l (fds.map (·.type)) cs -> o + cs.length = n /\ l.length = fds.length
 | [], fds, o, n, cs, hf, h => by
  have _ := ok
  simp only [JQ] at h; obtain ⟨h1, h2⟩ := h
  cases fds with
  | nil => simp only [FieldsOk] at hf; simp [h2, hf]
  | cons f r => simp at h1
 | p :: ps, fds, o, n, cs, hf, h => by
  simp only [JQ] at h
  obtain ⟨t, r, c1, c2, h0, rfl, h2, h3⟩ := h
  cases fds with
  | nil => simp at h0
  | cons f fr =>
   simp only [List.map_cons, List.cons.injEq] at h0
   obtain ⟨rfl, rfl⟩ := h0
   simp only [FieldsOk] at hf
   obtain ⟨hf1, hf2, hf3⟩ := hf
   have e1 := Rep.len p f.type c1 hf2 h2
   have e2 := JQ.len ps fr _ n c2 hf3 h3
   simp only [List.length_append, List.length_cons]; omega
end

theorem Jm.split : ∀ (l : List PV) (e : TypeId) (cs : List Value) (i : Nat), (∃ d, τ.und e = some d) -> Jm τ im ow l e cs -> i < l.length ->
  ∃ pre mid post, cs = pre ++ mid ++ post /\ pre.length = i * τ.siz e /\ Rep τ im ow (l.getD i .top) e mid /\ ∀ y mid', Rep τ im ow y e mid' -> Jm τ im ow (l.set i y) e (pre ++ mid' ++ post)
 | [], e, cs, i, _, h, hi => by simp at hi
 | p :: ps, e, cs, 0, hd, h, hi => by
   simp only [Jm] at h
   obtain ⟨c1, c2, rfl, h2, h3⟩ := h
   refine ⟨[], c1, c2, by simp, by simp, by simpa using h2, fun y mid' hy => ?_⟩
   simp only [List.set_cons_zero, Jm, List.nil_append]
   exact ⟨mid', c2, rfl, hy, h3⟩
 | p :: ps, e, cs, i + 1, hd, h, hi => by
   simp only [Jm] at h
   obtain ⟨c1, c2, rfl, h2, h3⟩ := h
   obtain ⟨pre, mid, post, rfl, g2, g3, g4⟩ := Jm.split ps e c2 i hd h3 (by simpa using hi)
   refine ⟨c1 ++ pre, mid, post, by simp, ?_, by simpa using g3, fun y mid' hy => ?_⟩
   · rw [List.length_append, Rep.len ok p e c1 hd h2, g2, Nat.add_mul]; omega
   · simp only [List.set_cons_succ, Jm]
     exact ⟨c1, pre ++ mid' ++ post, by simp, h2, g4 y mid' hy⟩
theorem JQ.split : ∀ (l : List PV) (fds : List Field) (o n : Nat) (cs : List Value) (i : Nat) (f : Field), FieldsOk τ o fds n -> JQ τ im ow l (fds.map (·.type)) cs -> fds[i]? = some f ->
  ∃ pre mid post, cs = pre ++ mid ++ post /\ o + pre.length = f.offset /\ (∃ d, τ.und f.type = some d) /\ f.offset + τ.siz f.type <= n /\ Rep τ im ow (l.getD i .top) f.type mid /\ ∀ y mid', Rep τ im ow y f.type mid' -> JQ τ im ow (l.set i y) (fds.map (·.type)) (pre ++ mid' ++ post)
 | [], fds, o, n, cs, i, f, hf, h, hi => by
   simp only [JQ] at h
   cases fds with
   | nil => simp at hi
   | cons f r => simp at h
 | p :: ps, fds, o, n, cs, i, f, hf, h, hi => by
   have hl := JQ.len ok (p :: ps) fds o n cs hf h
   simp only [JQ] at h
   obtain ⟨t, r, c1, c2, h0, rfl, h2, h3⟩ := h
   cases fds with
   | nil => simp at h0
   | cons f0 fr =>
    simp only [List.map_cons, List.cons.injEq] at h0
    obtain ⟨rfl, rfl⟩ := h0
    simp only [FieldsOk] at hf
    obtain ⟨hf1, hf2, hf3⟩ := hf
    have e1 := Rep.len ok p f0.type c1 hf2 h2
    cases i with
    | zero =>
     simp only [List.getElem?_cons_zero, Option.some.injEq] at hi
     subst hi
     refine ⟨[], c1, c2, by simp, by simp [hf1], hf2, ?_, by simpa using h2, fun y mid' hy => ?_⟩
     · have := hl.1; simp only [List.length_append] at this; omega
     · simp only [List.set_cons_zero, JQ, List.nil_append, List.map_cons]
       exact ⟨_, _, mid', c2, rfl, rfl, hy, h3⟩
    | succ i =>
     simp only [List.getElem?_cons_succ] at hi
     obtain ⟨pre, mid, post, rfl, g2, g3, g5, g6, g4⟩ := JQ.split ps fr _ n c2 i f hf3 h3 hi
     refine ⟨c1 ++ pre, mid, post, by simp, ?_, g3, g5, by simpa using g6, fun y mid' hy => ?_⟩
     · simp only [List.length_append]; omega
     · simp only [List.set_cons_succ, JQ, List.map_cons]
       exact ⟨_, _, c1, pre ++ mid' ++ post, rfl, by simp, h2, g4 y mid' hy⟩
theorem Rep.scal {y : PV} {e : TypeId} {mid : List Value} (he : τ.scal e = true) (h : Rep τ im ow y e mid) : ∃ v, mid = [v] /\ v.oneCell' = true /\ (y = .sc v ∨ y = .top) := by
 have hs : ∀ e', τ.und e = some (.slice e') -> False := fun e' h => by simp [Tab.scal, h] at he
 cases y with
 | top =>
  simp only [Rep] at h
  rw [ZP ok he] at h
  match mid, h with
  | [v], h => exact ⟨v, rfl, h.2 v (by simp), .inr rfl⟩
 | sc v => simp only [Rep] at h; exact ⟨v, h.2.1, h.2.2, .inl rfl⟩
 | ro e' nl fl els => simp only [Rep] at h; exact (hs _ h.1).elim
 | ow e' id p off len cap => simp only [Rep] at h; exact (hs _ h.1).elim
 | ptr id p => simp only [Rep] at h; exact absurd h.1 (by simp [(Ji4 he).1])
 | rp _ _ => simp only [Rep] at h
 | va _ _ => simp only [Rep] at h
 | vr _ _ => simp only [Rep] at h
 | ar t' els => simp only [Rep] at h; obtain ⟨rfl, n, e', h2, _⟩ := h; simp [Tab.scal, h2] at he
 | st t' fs => simp only [Rep] at h; obtain ⟨rfl, ⟨fds, h2, _⟩ | ⟨n, e', h2, _⟩⟩ := h <;> simp [Tab.scal, h2] at he
 | tup _ => simp only [Rep] at h
 | fn f a b => simp only [Rep] at h; exact absurd h.1 (by simp [(Ji4 he).2])

theorem Ji5 : ∀ p, Jr .top p = .top
 | [] => rfl
 | _ :: p => by have _ := ok; simp only [Jr, PV.child]; exact Ji5 p
theorem Qz.split : ∀ (l : List PV) (cs : List Value) (i : Nat), Qz l cs -> i < l.length ->
  ∃ pre v post, cs = pre ++ [v] ++ post /\ pre.length = i /\ v.oneCell' = true /\ (l.getD i .top = .sc v ∨ l.getD i .top = .top) /\ ∀ y v', v'.oneCell' = true -> (y = .sc v' ∨ y = .top) -> Qz (l.set i y) (pre ++ [v'] ++ post)
 | [], cs, i, h, hi => by simp at hi
 | p :: ps, cs, 0, h, hi => by
   have _ := ok
   simp only [Qz] at h
   obtain ⟨v, r, rfl, h1, h2, h3⟩ := h
   refine ⟨[], v, r, rfl, rfl, h1, by simpa using h2, fun y v' h4 h5 => ?_⟩
   simp only [List.set_cons_zero, Qz]
   exact ⟨v', r, rfl, h4, h5, h3⟩
 | p :: ps, cs, i + 1, h, hi => by
   simp only [Qz] at h
   obtain ⟨v, r, rfl, h1, h2, h3⟩ := h
   obtain ⟨pre, u, post, rfl, g1, g2, g3, g4⟩ := Qz.split ps r i h3 (by simpa using hi)
   refine ⟨v :: pre, u, post, rfl, by simp [g1], g2, by simpa using g3, fun y v' h4 h5 => ?_⟩
   simp only [List.set_cons_succ, Qz]
   exact ⟨v, _, rfl, h1, h2, g4 y v' h4 h5⟩
theorem Jai : ∀ (fds : List Field) (o n i : Nat) (f : Field), FieldsOk τ o fds n -> fds[i]? = some f -> (∃ d, τ.und f.type = some d) /\ f.offset + τ.siz f.type <= n
 | [], o, n, i, f, h, hi => by simp at hi
 | g :: r, o, n, i, f, h, hi => by
  have _ := ok
  have key : ∀ (fds : List Field) (o n : Nat), FieldsOk τ o fds n -> o <= n := by
   intro fds
   induction fds with
   | nil => intro o n h; simp only [FieldsOk] at h; omega
   | cons f r ih => intro o n h; simp only [FieldsOk] at h; have := ih _ _ h.2.2; omega
  simp only [FieldsOk] at h
  cases i with
  | zero =>
   simp only [List.getElem?_cons_zero, Option.some.injEq] at hi
   subst hi
   have := key _ _ _ h.2.2
   exact ⟨h.2.1, by omega⟩
  | succ i => exact Jai r _ n i f h.2.2 (by simpa using hi)
theorem Y0 : ∀ (p : List Nat) (t : TypeId) (o : Nat) (ty : TypeId), (∃ d, τ.und t = some d) -> Qv τ t p = some (o, ty) -> (∃ d, τ.und ty = some d) /\ o + τ.siz ty <= τ.siz t /\ tyP τ t p = some ty
 | [], t, o, ty, hd, h => by
  have _ := ok
  simp only [Qv, Option.some.injEq, Prod.mk.injEq] at h
  obtain ⟨rfl, rfl⟩ := h
  exact ⟨hd, by omega, rfl⟩
 | i :: p, t, o, ty, hd, h => by
  simp only [Qv] at h
  cases hu : τ.und t with
  | none => simp [hu] at h
  | some d =>
   rw [hu] at h
   cases d with
   | struct fds =>
    simp only at h
    cases hf : fds.toList[i]? with
    | none => simp [hf] at h
    | some f =>
      simp only [hf, Option.bind_some] at h
      cases hg : Qv τ f.type p with
      | none => simp [hg] at h
      | some r =>
       simp only [hg, Option.map_some, Option.some.injEq, Prod.mk.injEq] at h
       obtain ⟨h1, h2⟩ := h
       obtain ⟨g1, g2⟩ := Jai ok _ _ _ _ _ (ok.str t fds hu).1 hf
       obtain ⟨k1, k2, k3⟩ := Y0 p f.type r.1 r.2 g1 hg
       subst h2
       refine ⟨k1, by omega, ?_⟩
       simp only [tyP, hu, hf, Option.bind_some]
       exact k3
   | array n e =>
    simp only at h
    split at h
    · rename_i hlt
      cases hg : Qv τ e p with
      | none => simp [hg] at h
      | some r =>
       simp only [hg, Option.map_some, Option.some.injEq, Prod.mk.injEq] at h
       obtain ⟨h1, h2⟩ := h
       obtain ⟨g1, g2⟩ := ok.arr t n e hu
       obtain ⟨k1, k2, k3⟩ := Y0 p e r.1 r.2 g2 hg
       subst h2
       refine ⟨k1, ?_, ?_⟩
       · have : (i + 1) * τ.siz e <= n * τ.siz e := Nat.mul_le_mul_right _ hlt
         rw [Nat.add_mul] at this; omega
       · simp only [tyP, hu]; exact k3
    · cases h
   | _ => simp at h
theorem Rep.ones : ∀ {p : PV} {t : TypeId} {cs : List Value}, Rep τ im ow p t cs -> ∀ v ∈ cs, v.oneCell' = true := by
 have _ := ok
 have hA : ∀ (l : List PV) (cs : List Value), Qz l cs -> ∀ v ∈ cs, v.oneCell' = true := by
  intro l
  induction l with
  | nil => intro cs h v hv; simp only [Qz] at h; simp [h] at hv
  | cons p ps ih =>
    intro cs h v hv
    simp only [Qz] at h
    obtain ⟨w, r, rfl, h1, _, h3⟩ := h
    rcases List.mem_cons.1 hv with rfl | hv
    · exact h1
    · exact ih _ h3 _ hv
 have slice1 : ∀ {u : Value} {a n c}, u = .slice a n c -> u.oneCell' = true := by rintro _ _ _ _ rfl; rfl
 have hro : ∀ {nl fl n R u}, RoV im nl fl n R u -> u.oneCell' = true := by
  intro nl fl n R u h
  rcases h with ⟨_, rfl, _⟩ | ⟨_, a, c, rfl, _⟩ <;> rfl
 have how : ∀ {e id p off len cap u}, OwV τ ow e id p off len cap u -> u.oneCell' = true := by
  intro e id p off len cap u h
  obtain ⟨loc, _, ⟨_, _, _, _, _, nl, _, ⟨_, rfl⟩ | ⟨_, a, rfl⟩⟩ | ⟨b, a, c, o, n, _, rfl, _⟩⟩ := h <;> rfl
 suffices H : (∀ p t cs, Rep τ im ow p t cs -> ∀ v ∈ cs, v.oneCell' = true) by
  intro p t cs h
  exact H p t cs h
 intro p
 induction p using PV.rec (motive_2 := fun l => (∀ e cs, Jm τ im ow l e cs -> ∀ v ∈ cs, v.oneCell' = true) /\ (∀ ts cs, JQ τ im ow l ts cs -> ∀ v ∈ cs, v.oneCell' = true)) with
 | top => intro t cs h; simp only [Rep] at h; exact h.2
 | sc v => intro t cs h; simp only [Rep] at h; rw [h.2.1]; simpa using h.2.2
 | ro e nl fl els ih => intro t cs h; simp only [Rep] at h; obtain ⟨_, u, rfl, h⟩ := h; simpa using hro h
 | ow e id p off len cap => intro t cs h; simp only [Rep] at h; obtain ⟨_, u, rfl, h⟩ := h; simpa using how h
 | ptr id p => intro t cs h; simp only [Rep] at h; obtain ⟨_, u, rfl, loc, b, o, t, _, _, _, rfl⟩ := h; simp [Value.oneCell']
 | rp _ _ _ => intro t cs h; simp only [Rep] at h
 | va _ _ _ => intro t cs h; simp only [Rep] at h
 | vr _ _ _ => intro t cs h; simp only [Rep] at h
 | ar t' els ih => intro t cs h; simp only [Rep] at h; obtain ⟨_, n, e, _, _, _, h⟩ := h; exact hA _ _ h
 | st t' fs ih =>
  intro t cs h; simp only [Rep] at h
  rcases h with ⟨_, ⟨fds, _, h⟩ | ⟨n, e, _, _, h⟩⟩
  · exact ih.2 _ _ h
  · exact ih.1 _ _ h
 | tup _ _ => intro t cs h; simp only [Rep] at h
 | fn f a b _ _ => intro t cs h; simp only [Rep] at h; obtain ⟨_, u, v, rfl, _⟩ := h; simp [Value.oneCell']
 | nil =>
  refine ⟨fun e cs h => ?_, fun ts cs h => ?_⟩
  · simp only [Jm] at h; simp [h]
  · simp only [JQ] at h; simp [h]
 | cons p ps ih1 ih2 =>
  refine ⟨fun e cs h v hv => ?_, fun ts cs h v hv => ?_⟩
  · simp only [Jm] at h
    obtain ⟨c1, c2, rfl, h1, h2⟩ := h
    rcases List.mem_append.1 hv with hv | hv
    · exact ih1 _ _ h1 _ hv
    · exact ih2.1 _ _ h2 _ hv
  · simp only [JQ] at h
    obtain ⟨t, r, c1, c2, _, rfl, h1, h2⟩ := h
    rcases List.mem_append.1 hv with hv | hv
    · exact ih1 _ _ h1 _ hv
    · exact ih2.2 _ _ h2 _ hv
theorem Rep.nav : ∀ (p : List Nat) (t : TypeId) (x : PV) (cs : List Value) (o : Nat) (ty : TypeId), (∃ d, τ.und t = some d) -> Rep τ im ow x t cs -> Qv τ t p = some (o, ty) ->
  ∃ pre mid post, cs = pre ++ mid ++ post /\ pre.length = o /\ Rep τ im ow (Jr x p) ty mid /\ ∀ y mid', Rep τ im ow y ty mid' -> Rep τ im ow (Jae x p y) t (pre ++ mid' ++ post)
 | [], t, x, cs, o, ty, hd, h, hp => by
   simp only [Qv, Option.some.injEq, Prod.mk.injEq] at hp
   obtain ⟨rfl, rfl⟩ := hp
   exact ⟨[], cs, [], by simp, rfl, h, fun y mid' hy => by simpa [Jae] using hy⟩
 | i :: p, t, x, cs, o, ty, hd, h, hp => by
   have hle := Y0 ok (i :: p) t o ty hd hp
   have htop : ∀ cs, Rep τ im ow .top t cs -> ∃ pre mid post, cs = pre ++ mid ++ post /\ pre.length = o /\ Rep τ im ow (Jr .top (i :: p)) ty mid /\ ∀ y mid', Rep τ im ow y ty mid' -> Rep τ im ow (Jae .top (i :: p) y) t (pre ++ mid' ++ post) := by
    intro cs h
    simp only [Rep] at h
    obtain ⟨h1, h2⟩ := h
    refine ⟨cs.take o, (cs.drop o).take (τ.siz ty), (cs.drop o).drop (τ.siz ty), by rw [List.append_assoc, List.take_append_drop, List.take_append_drop], by simp; omega, ?_, fun y mid' hy => ?_⟩
    · rw [Ji5 ok]
      simp only [Rep]
      exact ⟨by simp; omega, fun v hv => h2 v (List.mem_of_mem_drop (List.mem_of_mem_take hv))⟩
    · simp only [Jae, Rep]
      have e1 := Rep.len ok y ty mid' hle.1 hy
      have e2 := Rep.ones ok hy
      refine ⟨by simp; omega, fun v hv => ?_⟩
      simp only [List.mem_append] at hv
      rcases hv with (hv | hv) | hv
      · exact h2 v (List.mem_of_mem_take hv)
      · exact e2 v hv
      · exact h2 v (List.mem_of_mem_drop (List.mem_of_mem_drop hv))
   simp only [Qv] at hp
   cases hu : τ.und t with
   | none => simp [hu] at hp
   | some d =>
    rw [hu] at hp
    have hagg : ∀ d', d = d' -> (∀ fds, d' ≠ .struct fds) -> (∀ n e, d' ≠ .array n e) -> False := by
      intro d' h1 h2 h3; subst h1
      cases d <;> first | (simp at hp; done) | exact h2 _ rfl | exact h3 _ _ rfl
    cases x with
    | top => exact htop cs h
    | sc v => simp only [Rep] at h; exact (hagg d rfl (fun fds he => by simp [Tab.agg, hu, he] at h) (fun n e he => by simp [Tab.agg, hu, he] at h)).elim
    | ro e nl fl els => simp only [Rep] at h; rw [hu] at h; simp only [Option.some.injEq] at h; exact (hagg _ h.1 (by simp) (by simp)).elim
    | ow e id p off len cap => simp only [Rep] at h; rw [hu] at h; simp only [Option.some.injEq] at h; exact (hagg _ h.1 (by simp) (by simp)).elim
    | ptr id p => simp only [Rep] at h; have h1 := VA h.1; exact (hagg d rfl (fun fds he => by simp [Tab.agg, hu, he] at h1) (fun n e he => by simp [Tab.agg, hu, he] at h1)).elim
    | rp _ _ => simp only [Rep] at h
    | va _ _ => simp only [Rep] at h
    | vr _ _ => simp only [Rep] at h
    | tup _ => simp only [Rep] at h
    | fn f a b => simp only [Rep] at h; have h1 := VB h.1; exact (hagg d rfl (fun fds he => by simp [Tab.agg, hu, he] at h1) (fun n e he => by simp [Tab.agg, hu, he] at h1)).elim
    | ar t' els =>
      simp only [Rep] at h
      obtain ⟨rfl, n, e, h2, h3, h4, h5⟩ := h
      rw [hu] at h2
      simp only [Option.some.injEq] at h2
      subst h2
      simp only at hp
      split at hp
      · rename_i hlt
        obtain ⟨pre, v, post, rfl, g1, g2, g3, g4⟩ := Qz.split ok els cs i h5 (by omega)
        have hsz := ZP ok h3
        have hune : ∃ d, τ.und e = some d := (ok.arr _ _ _ hu).2
        cases p with
        | nil =>
          simp only [Qv, Option.map_some, Option.some.injEq, Prod.mk.injEq] at hp
          obtain ⟨hp1, rfl⟩ := hp
          refine ⟨pre, [v], post, rfl, by rw [g1, ← hp1, hsz]; omega, ?_, fun y mid' hy => ?_⟩
          · simp only [Jr, PV.child]
            rcases g3 with g3 | g3
            · rw [g3]; simp only [Rep]; exact ⟨Jah h3, trivial, g2⟩
            · rw [g3]; simp only [Rep]; exact ⟨by simp [hsz], by simpa using g2⟩
          · obtain ⟨v', rfl, k1, k2⟩ := Rep.scal ok h3 hy
            simp only [Jae, Rep]
            exact ⟨trivial, n, e, hu, h3, by simp [h4], g4 y v' k1 k2⟩
        | cons j q =>
          exfalso
          obtain ⟨de, hde⟩ := hune
          simp only [Qv, hde] at hp
          have := Jah h3
          cases de <;> simp [Tab.agg, hde] at this <;> simp at hp
      · cases hp
    | st t' fs =>
      simp only [Rep] at h
      obtain ⟨rfl, h⟩ := h
      rcases h with ⟨fds, h2, h3⟩ | ⟨n, e, h2, h3, h4⟩
      · rw [hu] at h2
        simp only [Option.some.injEq] at h2
        subst h2
        simp only at hp
        cases hf : fds.toList[i]? with
        | none => simp [hf] at hp
        | some f =>
          simp only [hf, Option.bind_some] at hp
          cases hg : Qv τ f.type p with
          | none => simp [hg] at hp
          | some r =>
            simp only [hg, Option.map_some, Option.some.injEq, Prod.mk.injEq] at hp
            obtain ⟨hp1, hp2⟩ := hp
            obtain ⟨pre, mid, post, rfl, g1, g2, g3, g4, g5⟩ := JQ.split ok fs fds.toList 0 _ cs i f (ok.str _ fds hu).1 h3 hf
            obtain ⟨pre2, mid2, post2, rfl, k1, k2, k3⟩ := Rep.nav p f.type _ mid r.1 r.2 g2 g4 hg
            subst hp2
            refine ⟨pre ++ pre2, mid2, post2 ++ post, by simp, by simp; omega, ?_, fun y mid' hy => ?_⟩
            · simpa only [Jr, PV.child] using k2
            · simp only [Jae, Rep]
              refine ⟨trivial, .inl ⟨fds, hu, ?_⟩⟩
              have := g5 _ _ (k3 y mid' hy)
              simpa using this
      · rw [hu] at h2
        simp only [Option.some.injEq] at h2
        subst h2
        simp only at hp
        split at hp
        · rename_i hlt
          cases hg : Qv τ e p with
          | none => simp [hg] at hp
          | some r =>
            simp only [hg, Option.map_some, Option.some.injEq, Prod.mk.injEq] at hp
            obtain ⟨hp1, hp2⟩ := hp
            have hune := (ok.arr _ _ _ hu).2
            obtain ⟨pre, mid, post, rfl, g1, g4, g5⟩ := Jm.split ok fs e cs i hune h4 (by omega)
            obtain ⟨pre2, mid2, post2, rfl, k1, k2, k3⟩ := Rep.nav p e _ mid r.1 r.2 hune g4 hg
            subst hp2
            refine ⟨pre ++ pre2, mid2, post2 ++ post, by simp, by simp; omega, ?_, fun y mid' hy => ?_⟩
            · simpa only [Jr, PV.child] using k2
            · simp only [Jae, Rep]
              refine ⟨trivial, .inr ⟨n, e, hu, by simp [h3], ?_⟩⟩
              have := g5 _ _ (k3 y mid' hy)
              simpa using this
        · cases hp
end
end Go.Proofs.Ythpmachmnoljeaa.Rx
end

noncomputable section
namespace Go.Proofs.Ythpmachmnoljeaa.Rx
open Go
set_option linter.unusedVariables false

def Rest (w w' : World) : Prop := w'.os = w.os /\ w'.tape = w.tape /\ w'.output = w.output
theorem Rest.refl (w : World) : Rest w w := ⟨rfl, rfl, rfl⟩
theorem Rest.trans {a b c : World} (h : Rest a b) (k : Rest b c) : Rest a c := ⟨k.1.trans h.1, k.2.1.trans h.2.1, k.2.2.trans h.2.2⟩
def JfR (p8 : Prop) (cells : Array Value) (fr : Nat × Nat) : Prop := (fr.1 = fr.2 ∨ (p8 /\ cells.size <= fr.1)) /\ ∀ v ∈ cells.toList, v.oneCell' = true
theorem JfR.put {p8 : Prop} {c c' : Array Value} {fr : Nat × Nat} {pre mid mid' post : List Value} (h : JfR p8 c fr) (hc : c.toList = pre ++ mid ++ post) (hc' : c'.toList = pre ++ mid' ++ post) (hs : c'.size = c.size) (hm : ∀ v ∈ mid', v.oneCell' = true) : JfR p8 c' fr := by
 refine ⟨?_, fun v hv => ?_⟩
 · rcases h.1 with h | ⟨h1, h2⟩
   · exact .inl h
   · exact .inr ⟨h1, by omega⟩
 · rw [hc'] at hv
   rcases List.mem_append.1 hv with hv | hv
   · rcases List.mem_append.1 hv with hv | hv
     · exact h.2 v (by rw [hc]; simp [hv])
     · exact hm v hv
   · exact h.2 v (by rw [hc]; simp [hv])
theorem JfR.weak {p8 : Prop} {c : Array Value} {fr : Nat × Nat} (h : JfR p8 c fr) : fr.1 = fr.2 ∨ c.size <= fr.1 := by
 rcases h.1 with h | ⟨h1, h2⟩
 · exact .inl h
 · exact .inr h2
def Ent.t8 (τ : Tab) : Ent -> Prop
 | .vec _ t _ _ => τ.und t = some (.int .u8)
 | _ => True
def Xu (ow : Own) (id : Nat) (l : Loc) : Own := fun i => if i = id then some l else ow i
def Live (h : Ents) (ow : Own) (i b : Nat) : Prop := ∃ e l, h i = some e /\ e.free = true /\ ow i = some l /\ l.blk = some b

section
variable (τ : Tab)
def JdR (p8 : Prop) (im : Im) (loc : Loc) (fz : Bool) (w : World) (R : List Value -> Prop) : Prop :=
 ∃ b cells el fr pre mid post, loc.blk = some b /\ w.heap[b]? = some (.cells cells el fr) /\ JfR p8 cells fr /\ cells.toList = pre ++ mid ++ post /\ pre.length = loc.base /\ R mid /\
  (fz = true -> im b = some (.cells cells el fr)) /\ (fz = false -> im b = none) /\ loc.base + loc.room <= cells.size
def EntRep (im : Im) (ow : Own) (i : Nat) (e : Ent) (w : World) : Prop :=
 ∃ loc, ow i = some loc /\
  match e with
  | .dead => True
  | .box fz t v => loc.root = .box t /\ (∃ d, τ.und t = some d) /\ JdR True im loc fz w (fun mid => Rep τ im ow v t mid)
  | .vec fz t nl els => loc.root = .vec t els.length nl /\ (∃ d, τ.und t = some d) /\ ((loc.blk = none /\ els = []) ∨ (nl = false /\ JdR (τ.und t = some (.int .u8)) im loc fz w (fun mid => Jm τ im (vow τ t ow) els t mid)))
structure Inv (im : Im) (ow : Own) (h : Ents) (w : World) : Prop where
 imOk : ∀ b o, im b = some o -> w.heap[b]? = some o
 ent : ∀ i e, h i = some e -> EntRep τ im ow i e w
 inj : ∀ i j b, Live h ow i b -> Live h ow j b -> i = j
 dom : ∀ i l, ow i = some l -> ∃ e, h i = some e
structure Good (im : Im) (ow : Own) (h : Ents) (w : World) (im' : Im) (ow' : Own) (h' : Ents) (w' : World) : Prop where
 imX : ∀ b o, im b = some o -> im' b = some o
 owX : ∀ i l, ow i = some l -> ow' i = some l
 inv : Inv τ im' ow' h' w'
 size : w.heap.size <= w'.heap.size
 keep : ∀ b, b < w.heap.size -> (∀ i, ¬ Live h ow i b) -> w'.heap[b]? = w.heap[b]?
 newim : ∀ b o, im' b = some o -> im b = some o ∨ w.heap.size <= b ∨ ∃ i, Live h ow i b
 newlive : ∀ i b, Live h' ow' i b -> w.heap.size <= b ∨ ∃ j, Live h ow j b
 rest : Rest w w'
end

section
variable {τ : Tab} {im im' im2 : Im} {ow ow' ow2 : Own} {h h' h2 : Ents} {w w' w2 : World}
theorem QP {w : World} {b : Nat} {o : Obj} (h : w.heap[b]? = some o) : b < w.heap.size := by
 rcases Nat.lt_or_ge b w.heap.size with g | g
 · exact g
 · simp [Array.getElem?_eq_none g] at h
theorem Live.lt (hi : Inv τ im ow h w) {i b} (hl : Live h ow i b) : b < w.heap.size := by
 obtain ⟨e, l, h1, h2, h3, h4⟩ := hl
 obtain ⟨loc, g1, g2⟩ := hi.ent i e h1
 rw [h3] at g1
 obtain rfl := Option.some.inj g1
 cases e with
 | dead => simp [Ent.free] at h2
 | box fz t v =>
  obtain ⟨_, _, b', cells, el, fr, pre, mid, post, k1, k2, _⟩ := g2
  rw [h4] at k1; obtain rfl := Option.some.inj k1
  exact QP k2
 | vec fz t nl els =>
  obtain ⟨_, _, ⟨k1, _⟩ | ⟨_, b', cells, el, fr, pre, mid, post, k1, k2, _⟩⟩ := g2
  · rw [h4] at k1; cases k1
  · rw [h4] at k1; obtain rfl := Option.some.inj k1
    exact QP k2
theorem Live.im_none (hi : Inv τ im ow h w) {i b} (hl : Live h ow i b) : im b = none := by
 obtain ⟨e, l, h1, h2, h3, h4⟩ := hl
 obtain ⟨loc, g1, g2⟩ := hi.ent i e h1
 rw [h3] at g1
 obtain rfl := Option.some.inj g1
 cases e with
 | dead => simp [Ent.free] at h2
 | box fz t v =>
  obtain ⟨_, _, b', cells, el, fr, pre, mid, post, k1, k2, _, _, _, _, _, k3, _⟩ := g2
  rw [h4] at k1; obtain rfl := Option.some.inj k1
  exact k3 (by simpa [Ent.free] using h2)
 | vec fz t nl els =>
  obtain ⟨_, _, ⟨k1, _⟩ | ⟨_, b', cells, el, fr, pre, mid, post, k1, k2, _, _, _, _, _, k3, _⟩⟩ := g2
  · rw [h4] at k1; cases k1
  · rw [h4] at k1; obtain rfl := Option.some.inj k1
    exact k3 (by simpa [Ent.free] using h2)
theorem Good.trans (g1 : Good τ im ow h w im' ow' h' w') (g2 : Good τ im' ow' h' w' im2 ow2 h2 w2) : Good τ im ow h w im2 ow2 h2 w2 where
 imX := fun b o hb => g2.imX _ _ (g1.imX _ _ hb)
 owX := fun i l hb => g2.owX _ _ (g1.owX _ _ hb)
 inv := g2.inv
 size := Nat.le_trans g1.size g2.size
 keep := fun b hb hn => by
  rw [g2.keep b (Nat.lt_of_lt_of_le hb g1.size) (fun i hl => ?_), g1.keep b hb hn]
  rcases g1.newlive i b hl with h | ⟨j, h⟩
  · omega
  · exact hn j h
 newim := fun b o hb => by
  rcases g2.newim b o hb with k | k | ⟨i, k⟩
  · exact g1.newim b o k
  · exact .inr (.inl (Nat.le_trans g1.size k))
  · rcases g1.newlive i b k with k | k
    · exact .inr (.inl k)
    · exact .inr (.inr k)
 newlive := fun i b hl => by
  rcases g2.newlive i b hl with k | ⟨j, k⟩
  · exact .inl (Nat.le_trans g1.size k)
  · exact g1.newlive j b k
 rest := g1.rest.trans g2.rest
theorem JdR.keep {p8 loc fz R R'} (hk : ∀ b, b < w.heap.size -> loc.blk = some b -> w'.heap[b]? = w.heap[b]?) (him : ∀ b o, im b = some o -> im' b = some o) (hnone : fz = false -> ∀ b, loc.blk = some b -> im' b = none) (hR : ∀ l, R l -> R' l) (hb : JdR p8 im loc fz w R) : JdR p8 im' loc fz w' R' := by
 obtain ⟨b, cells, el, fr, pre, mid, post, k1, k2, k3, k4, k5, k6, k7, k8⟩ := hb
 exact ⟨b, cells, el, fr, pre, mid, post, k1, by rw [hk b (QP k2) k1]; exact k2, k3, k4, k5, hR _ k6, fun hf => him _ _ (k7 hf), fun hf => hnone hf b k1, k8.2⟩
theorem EntRep.keep {i e} (him : ∀ b o, im b = some o -> im' b = some o) (how : ∀ i l, ow i = some l -> ow' i = some l)
  (hk : ∀ l b, b < w.heap.size -> ow i = some l -> l.blk = some b -> w'.heap[b]? = w.heap[b]?) (hnone : e.free = true -> ∀ l b, ow i = some l -> l.blk = some b -> im' b = none)
  (he : EntRep τ im ow i e w) : EntRep τ im' ow' i e w' := by
 obtain ⟨loc, h1, h2⟩ := he
 refine ⟨loc, how _ _ h1, ?_⟩
 cases e with
 | dead => trivial
 | box fz t v =>
  obtain ⟨k1, k2, k3⟩ := h2
  exact ⟨k1, k2, k3.keep (fun b hl hb => hk _ _ hl h1 hb) him (fun hf b hb => hnone (by simp [Ent.free, hf]) _ _ h1 hb) (fun l hl => Rep.mono him how _ _ _ hl)⟩
 | vec fz t nl els =>
  obtain ⟨k1, k2, k3⟩ := h2
  refine ⟨k1, k2, ?_⟩
  rcases k3 with k3 | ⟨k3, k4⟩
  · exact .inl k3
  · exact .inr ⟨k3, k4.keep (fun b hl hb => hk _ _ hl h1 hb) him (fun hf b hb => hnone (by simp [Ent.free, hf]) _ _ h1 hb) (fun l hl => Jm.mono him (JdQ how) _ _ _ hl)⟩
theorem Good.refl (hi : Inv τ im ow h w) (hw : w'.heap = w.heap) (hr : Rest w w' := by exact ⟨rfl, rfl, rfl⟩) : Good τ im ow h w im ow h w' where
 imX := fun _ _ h => h
 owX := fun _ _ h => h
 inv := { imOk := fun b o hb => by rw [hw]; exact hi.imOk b o hb, ent := fun i e he => (hi.ent i e he).keep (fun _ _ h => h) (fun _ _ h => h) (fun l b _ _ _ => by rw [hw]) (fun hf l b h1 h2 => Live.im_none hi ⟨e, l, he, hf, h1, h2⟩), inj := hi.inj, dom := hi.dom }
 size := by rw [hw]; exact Nat.le_refl _
 keep := fun b _ _ => by rw [hw]
 newim := fun b o hb => .inl hb
 newlive := fun i b hl => .inr ⟨i, hl⟩
 rest := hr
structure HeapSet (w : World) (b : Nat) (o : Obj) (w' : World) : Prop where
 at_ : w'.heap[b]? = some o
 other : ∀ b', b' ≠ b -> w'.heap[b']? = w.heap[b']?
 size : w'.heap.size = w.heap.size
 rest : Rest w w'
theorem Good.write {i b : Nat} {e e' : Ent} {l : Loc} {o : Obj} (hi : Inv τ im ow h w) (h1 : h i = some e) (hf : e.free = true) (hl : ow i = some l) (hb : l.blk = some b)
   (hs : HeapSet w b o w') (he : EntRep τ im ow i e' w') (hf' : e'.free = true) : Good τ im ow h w im ow (JT h i e') w' := by
 have hlive : Live h ow i b := ⟨e, l, h1, hf, hl, hb⟩
 have hnone := Live.im_none hi hlive
 have hne : ∀ j e2 l2 b2, h j = some e2 -> j ≠ i -> ow j = some l2 -> l2.blk = some b2 -> b2 = b -> e2.free = true -> False := by
   intro j e2 l2 b2 g1 g2 g3 g4 g5 g6
   subst g5
   exact g2 (hi.inj j i b2 ⟨e2, l2, g1, g6, g3, g4⟩ hlive)
 refine { imX := fun _ _ h => h, owX := fun _ _ h => h, inv := ?_, size := by rw [hs.size]; exact Nat.le_refl _, keep := fun b' _ hn => hs.other b' (fun he => hn i (he ▸ hlive)), newim := fun b o hb => .inl hb, newlive := ?_, rest := hs.rest }
 · refine { imOk := fun b' o' hb' => ?_, ent := fun j e2 hj => ?_, inj := ?_, dom := fun j l2 hj => ?_ }
   · rw [hs.other b' (fun he => by rw [he, hnone] at hb'; cases hb')]; exact hi.imOk b' o' hb'
   · simp only [JT] at hj
     split at hj
     · rename_i hji; subst hji; obtain rfl := Option.some.inj hj; exact he
     · rename_i hji
       -- an entry that is frozen lies in a block that is known; a free one in another block; a dead one says nothing
       cases hfr : e2.free with
       | true =>
         refine (hi.ent j e2 hj).keep (fun _ _ h => h) (fun _ _ h => h) (fun l2 b2 _ g1 g2 => hs.other b2 (fun he => hne j e2 l2 b2 hj hji g1 g2 he hfr)) (fun _ l2 b2 g1 g2 => Live.im_none hi ⟨e2, l2, hj, hfr, g1, g2⟩)
       | false =>
         obtain ⟨loc, k1, k2⟩ := hi.ent j e2 hj
         cases e2 with
         | dead => exact ⟨loc, k1, trivial⟩
         | box fz t v =>
          refine EntRep.keep (fun _ _ h => h) (fun _ _ h => h) (fun l2 b2 _ g1 g2 => hs.other b2 (fun he => ?_)) (fun hh => by simp [hh] at hfr) (hi.ent j _ hj)
          subst he
          rw [k1] at g1; obtain rfl := Option.some.inj g1
          obtain ⟨_, _, b', cells, el, fr, pre, mid, post, m1, m2, _, _, _, _, m3, _⟩ := k2
          rw [g2] at m1; obtain rfl := Option.some.inj m1
          have := m3 (by simpa [Ent.free] using hfr)
          rw [hnone] at this; cases this
         | vec fz t nl els =>
          refine EntRep.keep (fun _ _ h => h) (fun _ _ h => h) (fun l2 b2 _ g1 g2 => hs.other b2 (fun he => ?_)) (fun hh => by simp [hh] at hfr) (hi.ent j _ hj)
          subst he
          rw [k1] at g1; obtain rfl := Option.some.inj g1
          obtain ⟨_, _, ⟨m1, _⟩ | ⟨_, b', cells, el, fr, pre, mid, post, m1, m2, _, _, _, _, m3, _⟩⟩ := k2
          · rw [g2] at m1; cases m1
          · rw [g2] at m1; obtain rfl := Option.some.inj m1
            have := m3 (by simpa [Ent.free] using hfr)
            rw [hnone] at this; cases this
   · have hlv : ∀ j b, Live (JT h i e') ow j b -> Live h ow j b := by
       rintro j b ⟨e2, l2, g1, g2, g3, g4⟩
       simp only [JT] at g1
       split at g1
       · rename_i hji; subst hji; exact ⟨e, l2, h1, hf, g3, g4⟩
       · exact ⟨e2, l2, g1, g2, g3, g4⟩
     exact fun j k b g1 g2 => hi.inj j k b (hlv _ _ g1) (hlv _ _ g2)
   · obtain ⟨e2, g⟩ := hi.dom j l2 hj
     simp only [JT]; split
     · exact ⟨_, rfl⟩
     · exact ⟨e2, g⟩
 · rintro j b' ⟨e2, l2, g1, g2, g3, g4⟩
   simp only [JT] at g1
   split at g1
   · rename_i hji; subst hji; exact .inr ⟨j, e, l2, h1, hf, g3, g4⟩
   · exact .inr ⟨j, e2, l2, g1, g2, g3, g4⟩
theorem Good.fresh {i : Nat} {e : Ent} {l : Loc} (hi : Inv τ im ow h w) (h1 : h i = none)
   (hsz : w.heap.size <= w'.heap.size) (hold : ∀ b, b < w.heap.size -> w'.heap[b]? = w.heap[b]?) (hb : ∀ b, l.blk = some b -> w.heap.size <= b)
   (he : EntRep τ im (Xu ow i l) i e w') (hr : Rest w w' := by first | exact ⟨rfl, rfl, rfl⟩ | assumption) : Good τ im ow h w im (Xu ow i l) (JT h i e) w' := by
 have hno : ow i = none := by
   cases ho : ow i with
   | none => rfl
   | some l => obtain ⟨e, g⟩ := hi.dom i l ho; rw [h1] at g; cases g
 have how : ∀ j l2, ow j = some l2 -> Xu ow i l j = some l2 := by
   intro j l2 hj
   simp only [Xu]; split
   · rename_i hji; subst hji; rw [hno] at hj; cases hj
   · exact hj
 have hlv : ∀ j b, Live (JT h i e) (Xu ow i l) j b -> (j = i /\ l.blk = some b) ∨ Live h ow j b := by
   rintro j b ⟨e2, l2, g1, g2, g3, g4⟩
   simp only [JT] at g1
   simp only [Xu] at g3
   split at g1
   · rename_i hji; subst hji; simp only [if_true] at g3; obtain rfl := Option.some.inj g3; exact .inl ⟨rfl, g4⟩
   · rename_i hji; simp only [hji, if_false] at g3; exact .inr ⟨e2, l2, g1, g2, g3, g4⟩
 refine { imX := fun _ _ h => h, owX := how, inv := ?_, size := hsz, keep := fun b hb _ => hold b hb, newim := fun b o hb => .inl hb, newlive := ?_, rest := hr }
 · refine { imOk := fun b o hb => ?_, ent := fun j e2 hj => ?_, inj := ?_, dom := fun j l2 hj => ?_ }
   · rw [hold b (QP (hi.imOk b o hb))]; exact hi.imOk b o hb
   · simp only [JT] at hj
     split at hj
     · rename_i hji; subst hji; obtain rfl := Option.some.inj hj; exact he
     · exact EntRep.keep (fun _ _ h => h) how (fun l2 b2 hl g1 g2 => hold b2 hl) (fun hf l2 b2 g1 g2 => Live.im_none hi ⟨e2, l2, hj, hf, g1, g2⟩) (hi.ent j e2 hj)
   · intro j k b g1 g2
     rcases hlv j b g1 with ⟨rfl, g3⟩ | g3 <;> rcases hlv k b g2 with ⟨rfl, g4⟩ | g4
     · rfl
     · have := Live.lt hi g4; have := hb b g3; omega
     · have := Live.lt hi g3; have := hb b g4; omega
     · exact hi.inj _ _ _ g3 g4
   · simp only [Xu] at hj
     simp only [JT]; split
     · exact ⟨_, rfl⟩
     · rename_i hji; simp only [hji, if_false] at hj; exact hi.dom j l2 hj
 · intro j b hl
   rcases hlv j b hl with ⟨rfl, g⟩ | g
   · exact .inl (hb b g)
   · exact .inr ⟨j, g⟩

theorem Good.swap {i j b : Nat} {e e' : Ent} {l l' : Loc} {o : Obj} (hi : Inv τ im ow h w) (h1 : h i = some e) (hf : e.free = true) (hl : ow i = some l) (hb : l.blk = some b)
   (hj : h j = none) (hs : HeapSet w b o w') (hb' : l'.blk = some b) (he : EntRep τ im (Xu ow j l') j e' w') (hf' : e'.free = true) :
   Good τ im ow h w im (Xu ow j l') (JT (JT h i .dead) j e') w' := by
 have hlive : Live h ow i b := ⟨e, l, h1, hf, hl, hb⟩
 have hnone := Live.im_none hi hlive
 have hij : i ≠ j := by rintro rfl; rw [h1] at hj; cases hj
 have hno : ow j = none := by
   cases ho : ow j with
   | none => rfl
   | some l => obtain ⟨e, g⟩ := hi.dom j l ho; rw [hj] at g; cases g
 have how : ∀ k l2, ow k = some l2 -> Xu ow j l' k = some l2 := by
   intro k l2 hk
   simp only [Xu]; split
   · rename_i hji; subst hji; rw [hno] at hk; cases hk
   · exact hk
 have hlv : ∀ k b2, Live (JT (JT h i .dead) j e') (Xu ow j l') k b2 -> (k = j /\ b2 = b) ∨ (k ≠ i /\ k ≠ j /\ Live h ow k b2) := by
   rintro k b2 ⟨e2, l2, g1, g2, g3, g4⟩
   simp only [JT] at g1
   simp only [Xu] at g3
   split at g1
   · rename_i hk; subst hk; simp only [if_true] at g3; obtain rfl := Option.some.inj g3; rw [hb'] at g4; exact .inl ⟨rfl, (Option.some.inj g4).symm⟩
   · rename_i hk
     split at g1
     · obtain rfl := Option.some.inj g1; simp [Ent.free] at g2
     · rename_i hki; simp only [hk, if_false] at g3; exact .inr ⟨hki, hk, e2, l2, g1, g2, g3, g4⟩
 refine { imX := fun _ _ h => h, owX := how, inv := ?_, size := by rw [hs.size]; exact Nat.le_refl _, keep := fun b' _ hn => hs.other b' (fun he => hn i (he ▸ hlive)), newim := fun b o hb => .inl hb, newlive := ?_, rest := hs.rest }
 · refine { imOk := fun b' o' hb' => ?_, ent := fun k e2 hk => ?_, inj := ?_, dom := fun k l2 hk => ?_ }
   · rw [hs.other b' (fun he => by rw [he, hnone] at hb'; cases hb')]; exact hi.imOk b' o' hb'
   · simp only [JT] at hk
     split at hk
     · rename_i hkj; subst hkj; obtain rfl := Option.some.inj hk; exact he
     · rename_i hkj
       split at hk
       · rename_i hki; subst hki; obtain rfl := Option.some.inj hk; exact ⟨l, how _ _ hl, trivial⟩
       · rename_i hki
         cases hfr : e2.free with
         | true =>
          refine EntRep.keep (fun _ _ h => h) how (fun l2 b2 _ g1 g2 => hs.other b2 (fun he => ?_)) (fun _ l2 b2 g1 g2 => Live.im_none hi ⟨e2, l2, hk, hfr, g1, g2⟩) (hi.ent k e2 hk)
          subst he
          exact hki (hi.inj k i b2 ⟨e2, l2, hk, hfr, g1, g2⟩ hlive)
         | false =>
          obtain ⟨loc, k1, k2⟩ := hi.ent k e2 hk
          cases e2 with
          | dead => exact ⟨loc, how _ _ k1, trivial⟩
          | box fz t v =>
           refine EntRep.keep (fun _ _ h => h) how (fun l2 b2 _ g1 g2 => hs.other b2 (fun he => ?_)) (fun hh => by simp [hh] at hfr) (hi.ent k _ hk)
           subst he
           rw [k1] at g1; obtain rfl := Option.some.inj g1
           obtain ⟨_, _, b', cells, el, fr, pre, mid, post, m1, m2, _, _, _, _, m3, _⟩ := k2
           rw [g2] at m1; obtain rfl := Option.some.inj m1
           have := m3 (by simpa [Ent.free] using hfr)
           rw [hnone] at this; cases this
          | vec fz t nl els =>
           refine EntRep.keep (fun _ _ h => h) how (fun l2 b2 _ g1 g2 => hs.other b2 (fun he => ?_)) (fun hh => by simp [hh] at hfr) (hi.ent k _ hk)
           subst he
           rw [k1] at g1; obtain rfl := Option.some.inj g1
           obtain ⟨_, _, ⟨m1, _⟩ | ⟨_, b', cells, el, fr, pre, mid, post, m1, m2, _, _, _, _, m3, _⟩⟩ := k2
           · rw [g2] at m1; cases m1
           · rw [g2] at m1; obtain rfl := Option.some.inj m1
             have := m3 (by simpa [Ent.free] using hfr)
             rw [hnone] at this; cases this
   · intro k m b2 g1 g2
     rcases hlv k b2 g1 with ⟨rfl, rfl⟩ | ⟨a1, a2, g3⟩ <;> rcases hlv m _ g2 with ⟨rfl, g4⟩ | ⟨a3, a4, g4⟩
     · rfl
     · exact (a3 (hi.inj _ _ _ g4 hlive)).elim
     · subst g4; exact (a1 (hi.inj _ _ _ g3 hlive)).elim
     · exact hi.inj _ _ _ g3 g4
   · simp only [Xu] at hk
     simp only [JT]
     split
     · exact ⟨_, rfl⟩
     · rename_i hkj; simp only [hkj, if_false] at hk
       split
       · exact ⟨_, rfl⟩
       · exact hi.dom k l2 hk
 · intro k b2 hl2
   rcases hlv k b2 hl2 with ⟨rfl, rfl⟩ | ⟨_, _, g⟩
   · exact .inr ⟨i, hlive⟩
   · exact .inr ⟨k, g⟩
theorem Good.kill {i : Nat} {e : Ent} (hi : Inv τ im ow h w) (h1 : h i = some e) : Good τ im ow h w im ow (JT h i .dead) w := by
 have hlv : ∀ k b2, Live (JT h i .dead) ow k b2 -> Live h ow k b2 := by
   rintro k b2 ⟨e2, l2, g1, g2, g3, g4⟩
   simp only [JT] at g1
   split at g1
   · obtain rfl := Option.some.inj g1; simp [Ent.free] at g2
   · exact ⟨e2, l2, g1, g2, g3, g4⟩
 refine { imX := fun _ _ h => h, owX := fun _ _ h => h, inv := ?_, size := Nat.le_refl _, keep := fun b' _ hn => rfl, newim := fun b o hb => .inl hb, newlive := fun k b hl => .inr ⟨k, hlv k b hl⟩, rest := Rest.refl _ }
 refine { imOk := hi.imOk, ent := fun k e2 hk => ?_, inj := fun k m b g1 g2 => hi.inj _ _ _ (hlv _ _ g1) (hlv _ _ g2), dom := fun k l2 hk => ?_ }
 · simp only [JT] at hk
   split at hk
   · rename_i hki; subst hki; obtain rfl := Option.some.inj hk
     obtain ⟨loc, k1, _⟩ := hi.ent k e h1
     exact ⟨loc, k1, trivial⟩
   · exact hi.ent k e2 hk
 · obtain ⟨e2, g⟩ := hi.dom k l2 hk
   simp only [JT]; split
   · exact ⟨_, rfl⟩
   · exact ⟨e2, g⟩
theorem Ent.ice_ice (e : Ent) : e.ice.free = false := by cases e <;> rfl
theorem Good.iced {o : Obj} (hi : Inv τ im ow h w) (hold : ∀ b, b < w.heap.size -> w'.heap[b]? = w.heap[b]?) (hnew : w'.heap[w.heap.size]? = some o) (hr : Rest w w' := by first | exact ⟨rfl, rfl, rfl⟩ | assumption) :
   ∃ im', Good τ im ow h w im' ow h w' /\ im' w.heap.size = some o := by
 have hsz : w.heap.size < w'.heap.size := QP hnew
 have himlt : ∀ b o, im b = some o -> b < w.heap.size := fun b o hb => QP (hi.imOk b o hb)
 have him : ∀ b o', im b = some o' -> (if b = w.heap.size then some o else im b) = some o' := fun b o' hb => by
   have := himlt b o' hb
   rw [if_neg (by omega)]; exact hb
 refine ⟨fun b => if b = w.heap.size then some o else im b, { imX := him, owX := fun _ _ h => h, inv := { imOk := fun b o' hb => ?_, ent := fun i e he => ?_, inj := hi.inj, dom := hi.dom }, size := Nat.le_of_lt hsz, keep := fun b hb _ => hold b hb, newim := fun b o' hb => ?_, newlive := fun i b hl => .inr ⟨i, hl⟩, rest := hr }, by simp⟩
 · by_cases hbs : b = w.heap.size
   · simp only [hbs, if_true] at hb; rw [hbs, hnew, hb]
   · simp only [if_neg hbs] at hb; rw [hold b (himlt b o' hb)]; exact hi.imOk b o' hb
 · refine EntRep.keep him (fun _ _ h => h) (fun l b hb _ _ => hold b hb) (fun hf l b hl hb => ?_) (hi.ent i e he)
   have hlive : Live h ow i b := ⟨e, l, he, hf, hl, hb⟩
   have hlt : b < w.heap.size := Live.lt hi hlive
   rw [if_neg (by omega)]; exact Live.im_none hi hlive
 · by_cases hbs : b = w.heap.size
   · exact .inr (.inl (by omega))
   · simp only [if_neg hbs] at hb; exact .inl hb
theorem Good.freeze {i : Nat} {e : Ent} (hi : Inv τ im ow h w) (h1 : h i = some e) :
   ∃ im', Good τ im ow h w im' ow (JT h i e.ice) w /\ (∀ l b, ow i = some l -> l.blk = some b -> e ≠ .dead -> im' b = w.heap[b]? /\ ∃ o, w.heap[b]? = some o) := by
 have hlv : ∀ k b2, Live (JT h i e.ice) ow k b2 -> k ≠ i /\ Live h ow k b2 := by
   rintro k b2 ⟨e2, l2, g1, g2, g3, g4⟩
   simp only [JT] at g1
   split at g1
   · obtain rfl := Option.some.inj g1; rw [Ent.ice_ice] at g2; cases g2
   · rename_i hki; exact ⟨hki, e2, l2, g1, g2, g3, g4⟩
 obtain ⟨loc, k1, k2⟩ := hi.ent i e h1
 -- the block of the entry, if it has one
 have hblk : ∀ b, loc.blk = some b -> e ≠ .dead -> ∃ o, w.heap[b]? = some o := by
   intro b hb hd
   cases e with
   | dead => exact (hd rfl).elim
   | box fz t v =>
     obtain ⟨_, _, b', cells, el, fr, pre, mid, post, m1, m2, _⟩ := k2
     rw [hb] at m1; obtain rfl := Option.some.inj m1; exact ⟨_, m2⟩
   | vec fz t nl els =>
     obtain ⟨_, _, ⟨m1, _⟩ | ⟨_, b', cells, el, fr, pre, mid, post, m1, m2, _⟩⟩ := k2
     · rw [hb] at m1; cases m1
     · rw [hb] at m1; obtain rfl := Option.some.inj m1; exact ⟨_, m2⟩
 by_cases hd : e = .dead
 · subst hd
   refine ⟨im, ?_, fun l b _ _ hd => (hd rfl).elim⟩
   exact Good.kill hi h1
 let im' : Im := fun x => if loc.blk = some x then w.heap[x]? else im x
 have himX : ∀ b o, im b = some o -> im' b = some o := by
   intro b o hb
   simp only [im']; split
   · exact hi.imOk b o hb
   · exact hb
 have hother : ∀ k e2 l2 b2, h k = some e2 -> k ≠ i -> e2.free = true -> ow k = some l2 -> l2.blk = some b2 -> im' b2 = none := by
   intro k e2 l2 b2 g1 g2 g3 g4 g5
   have hk := Live.im_none hi ⟨e2, l2, g1, g3, g4, g5⟩
   simp only [im']; split
   · rename_i hb
     exfalso
     cases hfr : e.free with
     | true => exact g2 (hi.inj k i b2 ⟨e2, l2, g1, g3, g4, g5⟩ ⟨e, loc, h1, hfr, k1, hb⟩)
     | false =>
       cases e with
       | dead => exact hd rfl
       | box fz t v =>
        obtain ⟨_, _, b', cells, el, fr, pre, mid, post, m1, m2, _, _, _, _, m3, _⟩ := k2
        rw [hb] at m1; obtain rfl := Option.some.inj m1
        have := m3 (by simpa [Ent.free] using hfr)
        rw [hk] at this; cases this
       | vec fz t nl els =>
        obtain ⟨_, _, ⟨m1, _⟩ | ⟨_, b', cells, el, fr, pre, mid, post, m1, m2, _, _, _, _, m3, _⟩⟩ := k2
        · rw [hb] at m1; cases m1
        · rw [hb] at m1; obtain rfl := Option.some.inj m1
          have := m3 (by simpa [Ent.free] using hfr)
          rw [hk] at this; cases this
   · exact hk
 refine ⟨im', { imX := himX, owX := fun _ _ h => h, inv := ?_, size := Nat.le_refl _, keep := fun b' _ hn => rfl, newim := ?_, newlive := fun k b hl => .inr ⟨k, (hlv k b hl).2⟩, rest := Rest.refl _ }, ?_⟩
 · refine { imOk := fun b o hb => ?_, ent := fun k e2 hk => ?_, inj := fun k m b g1 g2 => hi.inj _ _ _ (hlv _ _ g1).2 (hlv _ _ g2).2, dom := fun k l2 hk => ?_ }
   · simp only [im'] at hb
     split at hb
     · exact hb
     · exact hi.imOk b o hb
   · simp only [JT] at hk
     split at hk
     · rename_i hki; subst hki; obtain rfl := Option.some.inj hk
       refine ⟨loc, k1, ?_⟩
       cases e with
       | dead => trivial
       | box fz t v =>
        obtain ⟨a1, a2, b', cells, el, fr, pre, mid, post, m1, m2, m3, m4, m5, m6, _, _, m9⟩ := k2
        exact ⟨a1, a2, b', cells, el, fr, pre, mid, post, m1, m2, m3, m4, m5, Rep.mono himX (fun _ _ h => h) _ _ _ m6, fun _ => by simp only [im', m1, if_true, m2], (fun h => by cases h), m9⟩
       | vec fz t nl els =>
        obtain ⟨a1, a2, m1 | ⟨a3, b', cells, el, fr, pre, mid, post, m1, m2, m3, m4, m5, m6, _, _, m9⟩⟩ := k2
        · exact ⟨a1, a2, .inl m1⟩
        · exact ⟨a1, a2, .inr ⟨a3, b', cells, el, fr, pre, mid, post, m1, m2, m3, m4, m5, Jm.mono himX (fun _ _ h => h) _ _ _ m6, fun _ => by simp only [im', m1, if_true, m2], (fun h => by cases h), m9⟩⟩
     · rename_i hki
       exact EntRep.keep himX (fun _ _ h => h) (fun _ _ _ _ _ => rfl) (fun hf l2 b2 g1 g2 => hother k e2 l2 b2 hk hki hf g1 g2) (hi.ent k e2 hk)
   · obtain ⟨e2, g⟩ := hi.dom k l2 hk
     simp only [JT]; split
     · exact ⟨_, rfl⟩
     · exact ⟨e2, g⟩
 · intro b o hb
   simp only [im'] at hb
   split at hb
   · rename_i hbl
     cases hfr : e.free with
     | true => exact .inr (.inr ⟨i, e, loc, h1, hfr, k1, hbl⟩)
     | false =>
       left
       cases e with
       | dead => exact (hd rfl).elim
       | box fz t v =>
        obtain ⟨_, _, b', cells, el, fr, pre, mid, post, m1, m2, _, _, _, _, m3, _⟩ := k2
        rw [hbl] at m1; obtain rfl := Option.some.inj m1
        rw [m3 (by simpa [Ent.free] using hfr), ← m2, hb]
       | vec fz t nl els =>
        obtain ⟨_, _, ⟨m1, _⟩ | ⟨_, b', cells, el, fr, pre, mid, post, m1, m2, _, _, _, _, m3, _⟩⟩ := k2
        · rw [hbl] at m1; cases m1
        · rw [hbl] at m1; obtain rfl := Option.some.inj m1
          rw [m3 (by simpa [Ent.free] using hfr), ← m2, hb]
   · exact .inl hb
 · intro l b hl hb hd
   rw [k1] at hl; obtain rfl := Option.some.inj hl
   exact ⟨by simp only [im', hb, if_true], hblk b hb hd⟩
end
end Go.Proofs.Ythpmachmnoljeaa.Rx
end

noncomputable section
namespace Go.Proofs.Ythpmachmnoljeaa.Rx
open Go
set_option linter.unusedVariables false

section
variable {τ : Tab} {P : Program} (ok : TabOk τ P) {im im' : Im} {ow ow' : Own} {h : Ents} {w w' : World}
include ok
theorem Qz.toL {e : TypeId} (he : τ.scal e = true) : ∀ {l : List PV} {cs : List Value}, Qz l cs -> Jm τ im ow l e cs
 | [], cs, h => by simp only [Qz] at h; simp only [Jm]; exact h
 | p :: ps, cs, h => by
  simp only [Qz] at h
  obtain ⟨v, r, rfl, h1, h2, h3⟩ := h
  simp only [Jm]
  refine ⟨[v], r, rfl, ?_, Qz.toL he h3⟩
  rcases h2 with rfl | rfl
  · simp only [Rep]; exact ⟨Jah he, trivial, h1⟩
  · simp only [Rep]; exact ⟨by simp [ZP ok he], by simpa using h1⟩
theorem Jm.toA {e : TypeId} (he : τ.scal e = true) : ∀ {l : List PV} {cs : List Value}, Jm τ im ow l e cs -> Qz l cs
 | [], cs, h => by simp only [Jm] at h; simp only [Qz]; exact h
 | p :: ps, cs, h => by
  simp only [Jm] at h
  obtain ⟨c1, c2, rfl, h1, h2⟩ := h
  obtain ⟨v, rfl, g1, g2⟩ := Rep.scal ok he h1
  simp only [Qz]
  exact ⟨v, c2, rfl, g1, g2, Jm.toA he h2⟩
theorem Jm.app : ∀ {l m : List PV} {e : TypeId} {c d : List Value}, Jm τ im ow l e c -> Jm τ im ow m e d -> Jm τ im ow (l ++ m) e (c ++ d)
 | [], m, e, c, d, h1, h2 => by have _ := ok; simp only [Jm] at h1; simpa [h1] using h2
 | p :: ps, m, e, c, d, h1, h2 => by
  simp only [Jm] at h1
  obtain ⟨c1, c2, rfl, h3, h4⟩ := h1
  simp only [List.cons_append, Jm]
  exact ⟨c1, c2 ++ d, by simp, h3, Jm.app h4 h2⟩
theorem Jm.unapp : ∀ {l m : List PV} {e : TypeId} {c : List Value}, Jm τ im ow (l ++ m) e c -> ∃ c1 c2, c = c1 ++ c2 /\ Jm τ im ow l e c1 /\ Jm τ im ow m e c2
 | [], m, e, c, h1 => by have _ := ok; exact ⟨[], c, rfl, by simp only [Jm], by simpa using h1⟩
 | p :: ps, m, e, c, h1 => by
  simp only [List.cons_append, Jm] at h1
  obtain ⟨c1, c2, rfl, h3, h4⟩ := h1
  obtain ⟨d1, d2, rfl, g1, g2⟩ := Jm.unapp h4
  refine ⟨c1 ++ d1, d2, by simp, ?_, g2⟩
  simp only [Jm]
  exact ⟨c1, d1, rfl, h3, g1⟩
theorem Jm.sub {l : List PV} {e : TypeId} {c : List Value} (hd : ∃ d, τ.und e = some d) (off len : Nat) (hl : off + len <= l.length) (h : Jm τ im ow l e c) :
   ∃ pre mid post, c = pre ++ mid ++ post /\ pre.length = off * τ.siz e /\ Jm τ im ow ((l.drop off).take len) e mid /\
    ∀ l' mid', l'.length = len -> Jm τ im ow l' e mid' -> Jm τ im ow (l.take off ++ l' ++ l.drop (off + len)) e (pre ++ mid' ++ post) := by
 have e1 : l = l.take off ++ ((l.drop off).take len ++ l.drop (off + len)) := by
   have : l.drop (off + len) = (l.drop off).drop len := by rw [List.drop_drop]
   rw [this, List.take_append_drop, List.take_append_drop]
 rw [e1] at h
 obtain ⟨c1, c2, rfl, g1, g2⟩ := Jm.unapp ok h
 obtain ⟨d1, d2, rfl, k1, k2⟩ := Jm.unapp ok g2
 refine ⟨c1, d1, d2, by simp, ?_, k1, fun l' mid' _ hl' => ?_⟩
 · rw [Jm.len ok _ e c1 hd g1, List.length_take]; congr 1; omega
 · exact Jm.app ok (Jm.app ok g1 hl') k2

theorem Jm.ones : ∀ {l : List PV} {e : TypeId} {cs : List Value}, Jm τ im ow l e cs -> ∀ v ∈ cs, v.oneCell' = true
 | [], e, cs, hl, v, hv => by simp only [Jm] at hl; subst hl; cases hv
 | p :: ps, e, cs, hl, v, hv => by
  simp only [Jm] at hl
  obtain ⟨c1, c2, rfl, h1, h2⟩ := hl
  rcases List.mem_append.1 hv with hv | hv
  · exact Rep.ones ok h1 v hv
  · exact Jm.ones h2 v hv
theorem ZQ {i : Nat} {x : Ent} {loc : Loc} {p : List Nat} {l : List PV} {o : Nat} {e : TypeId} {n b : Nat} (hx : EntRep τ im ow i x w) (hl : ow i = some loc) (hb : loc.blk = some b)
  (hr : x.row p = some l) (ha : loc.root.rowAt τ p = some (o, e, n)) :
  l.length = n /\ (∃ d, τ.und e = some d) /\ x.nil = false /\ ∃ cells el fr pre mid post, w.heap[b]? = some (.cells cells el fr) /\ JfR (x.t8 τ) cells fr /\ cells.toList = pre ++ mid ++ post /\ pre.length = loc.base + o /\ Jm τ im (vow τ e ow) l e mid /\
   (x.free = false -> im b = some (.cells cells el fr)) /\ (x.free = true -> im b = none) /\
   ∀ l' mid' cells' w2, l'.length = n -> Jm τ im (vow τ e ow) l' e mid' -> cells'.toList = pre ++ mid' ++ post -> w2.heap[b]? = some (.cells cells' el fr) -> x.free = true -> EntRep τ im ow i (x.setRow p l') w2 := by
 obtain ⟨loc', h1, h2⟩ := hx
 rw [hl] at h1; obtain rfl := Option.some.inj h1
 cases x with
 | dead => simp [Ent.row] at hr
 | vec fz t nl els =>
  cases p with
  | cons _ _ => simp [Ent.row] at hr
  | nil =>
   simp only [Ent.row, Option.some.injEq] at hr
   subst hr
   obtain ⟨g1, g2, ⟨k1, _⟩ | ⟨k1, b', cells, el, fr, pre, mid, post, m1, m2, m3, m4, m5, m6, m7, m8⟩⟩ := h2
   · rw [hb] at k1; cases k1
   · rw [hb] at m1; obtain rfl := Option.some.inj m1
     rw [g1] at ha
     simp only [Root.rowAt, Option.some.injEq, Prod.mk.injEq] at ha
     obtain ⟨rfl, rfl, rfl⟩ := ha
     refine ⟨rfl, g2, by simp [Ent.nil, k1], cells, el, fr, pre, mid, post, m2, m3, m4, by simpa using m5, m6, fun hf => m7 (by simpa [Ent.free] using hf), fun hf => m8.1 (by simpa [Ent.free] using hf), ?_⟩
     intro l' mid' cells' w2 a1 a2 a3 a4 a5
     have e1 := Jm.len ok _ _ _ g2 m6
     have e2 := Jm.len ok _ _ _ g2 a2
     have hsz : cells'.size = cells.size := by rw [← Array.length_toList, ← Array.length_toList, a3, m4]; simp [e1, e2, a1]
     refine ⟨loc, hl, ?_, g2, .inr ⟨k1, b, cells', el, fr, pre, mid', post, hb, a4, ?_, a3, m5, a2, fun hf => ?_, m8.1, hsz ▸ m8.2⟩⟩
     · rw [g1, a1]
     · exact m3.put m4 a3 hsz (Jm.ones ok a2)
     · simp [Ent.free, hf] at a5
 | box fz t v =>
  obtain ⟨g1, g2, b', cells, el, fr, pre, mid, post, m1, m2, m3, m4, m5, m6, m7, m8⟩ := h2
  rw [hb] at m1; obtain rfl := Option.some.inj m1
  rw [g1] at ha
  simp only [Root.rowAt] at ha
  cases ho : Qv τ t p with
  | none => simp [ho] at ha
  | some r =>
   obtain ⟨o2, ty⟩ := r
   simp only [ho, Option.bind_some] at ha
   cases hu : τ.und ty with
   | none => simp [hu] at ha
   | some d =>
     rw [hu] at ha
     cases d with
     | array n2 e2 =>
       simp only [Option.some.injEq, Prod.mk.injEq] at ha
       obtain ⟨rfl, rfl, rfl⟩ := ha
       obtain ⟨pre2, mid2, post2, rfl, k2, k3, k4⟩ := Rep.nav ok p t v mid o2 ty g2 m6 ho
       cases hg : Jr v p with
       | ar t' els =>
        have hr' : els = l := by
          cases p <;> simpa [Ent.row, hg] using hr
        subst hr'
        rw [hg] at k3
        simp only [Rep] at k3
        obtain ⟨rfl, n3, e3, q1, q2, q3, q4⟩ := k3
        rw [hu] at q1
        simp only [Option.some.injEq, TypeDesc.array.injEq] at q1
        obtain ⟨rfl, rfl⟩ := q1
        refine ⟨q3, (ok.arr _ _ _ hu).2, rfl, cells, el, fr, pre ++ pre2, mid2, post2 ++ post, m2, m3, by rw [m4]; simp, by simp [m5, k2], Qz.toL ok q2 q4, fun hf => m7 (by simpa [Ent.free] using hf), fun hf => m8.1 (by simpa [Ent.free] using hf), ?_⟩
        intro l' mid' cells' w2 a1 a2 a3 a4 a5
        have a2' := Jm.toA ok q2 a2
        have hset : (Ent.box fz t v).setRow p l' = .box fz t (Jae v p (.ar t' l')) := by
          cases p <;> simp [Ent.setRow, hg]
        rw [hset]
        have e1 := Qz.length ok q4
        have e2 := Qz.length ok a2'
        have hsz : cells'.size = cells.size := by rw [← Array.length_toList, ← Array.length_toList, a3, m4]; simp [e1, e2, a1, q3]
        refine ⟨loc, hl, g1, g2, b, cells', el, fr, pre, pre2 ++ mid' ++ post2, post, hb, a4, ?_, by rw [a3]; simp, m5, k4 _ mid' ?_, fun hf => ?_, m8.1, hsz ▸ m8.2⟩
        · exact m3.put (pre := pre ++ pre2) (mid := mid2) (post := post2 ++ post) (by rw [m4]; simp) a3 hsz (Jm.ones ok a2)
        · simp only [Rep]; exact ⟨trivial, _, _, hu, q2, a1, a2'⟩
        · simp [Ent.free, hf] at a5
       | _ => cases p <;> simp [Ent.row, hg] at hr
     | _ => simp at ha
theorem JdS {i : Nat} {x : Ent} {loc : Loc} {p : List Nat} {l : List PV} {b : Nat} (hx : EntRep τ im ow i x w) (hl : ow i = some loc) (hb : loc.blk = some b) (hr : x.row p = some l) :
  ∃ cells el fr, w.heap[b]? = some (.cells cells el fr) /\ loc.base + loc.room <= cells.size := by
 have _ := ok
 obtain ⟨loc', h1, h2⟩ := hx
 rw [hl] at h1; obtain rfl := Option.some.inj h1
 cases x with
 | dead => simp [Ent.row] at hr
 | vec fz t nl els =>
  obtain ⟨g1, g2, ⟨k1, _⟩ | ⟨k1, b', cells, el, fr, pre, mid, post, m1, m2, m3, m4, m5, m6, m7, m8, m9⟩⟩ := h2
  · rw [hb] at k1; cases k1
  · rw [hb] at m1; obtain rfl := Option.some.inj m1
    exact ⟨cells, el, fr, m2, m9⟩
 | box fz t v =>
  obtain ⟨g1, g2, b', cells, el, fr, pre, mid, post, m1, m2, m3, m4, m5, m6, m7, m8, m9⟩ := h2
  rw [hb] at m1; obtain rfl := Option.some.inj m1
  exact ⟨cells, el, fr, m2, m9⟩

def SlR (τ : Tab) (im : Im) (ow : Own) (w : World) (e : TypeId) (u : Value) (els : List PV) : Prop :=
 (els = [] /\ (u = .slice none 0 0 ∨ ∃ a c, u = .slice (some a) 0 c)) ∨
 (∃ b off c cells el fr pre mid post, u = .slice (some ⟨b, off, none⟩) els.length c /\ els.length <= c /\ w.heap[b]? = some (.cells cells el fr) /\ cells.toList = pre ++ mid ++ post /\ pre.length = off /\ Jm τ im (vow τ e ow) els e mid)
theorem SlR.of_ro {e : TypeId} {nl fl : Bool} {els : List PV} {u : Value} (hi : Inv τ im ow h w) (hr : RoV im nl fl els.length (fun mid => Jm τ im JC els e mid) u) :
   SlR τ im ow w e u els /\ (nl = true -> u = .slice none 0 0) /\ (nl = false -> ∃ a n c, u = .slice (some a) n c) := by
 have _ := ok
 rcases hr with ⟨h1, h2, h3⟩ | ⟨h1, a, c, h2, h3, h4, h5⟩
 · exact ⟨.inl ⟨List.length_eq_zero_iff.1 h3, .inl h2⟩, fun _ => h2, fun hh => by rw [h1] at hh; cases hh⟩
 · refine ⟨?_, fun hh => (by rw [h1] at hh; cases hh), fun _ => ⟨a, _, c, h2⟩⟩
   rcases h5 with h5 | ⟨s, cells, el, fr, pre, mid, post, g1, g2, g3, g4⟩
   · refine .inl ⟨List.length_eq_zero_iff.1 h5, .inr ⟨a, c, by rw [h2, h5]⟩⟩
   · obtain ⟨b, off, sp⟩ := a
     simp only at s g1 g3; subst s
     exact .inr ⟨b, off, c, cells, el, fr, pre, mid, post, h2, h3, hi.imOk _ _ g1, g2, g3, g4.up⟩
theorem SlR.of_ow {e : TypeId} {id : Nat} {p : List Nat} {off len : Nat} {cap : Option Nat} {u : Value} {x : Ent} {l : List PV} (hi : Inv τ im ow h w) (hx : h id = some x) (hl : x.row p = some l) (hr : OwV τ ow e id p off len cap u) :
   SlR τ im ow w e u ((l.drop off).take len) /\ off + len <= l.length /\ (x.nil = true -> u = .slice none 0 0) /\ (x.nil = false -> ∃ a n c, u = .slice (some a) n c) := by
 obtain ⟨loc, g1, g2⟩ := hr
 rcases g2 with ⟨a1, rfl, rfl, rfl, a5, nl, a6, a7⟩ | ⟨b, a, c, o, n, a1, a2, a3, a4, a5, a6, a7, a8⟩
 · obtain ⟨loc', k1, k2⟩ := hi.ent id x hx
   rw [g1] at k1; obtain rfl := Option.some.inj k1
   cases x with
   | dead => simp [Ent.row] at hl
   | box fz t v =>
     obtain ⟨q1, _⟩ := k2; rw [a6] at q1; cases q1
   | vec fz t nl' els =>
     obtain ⟨q1, q2, q3⟩ := k2
     rw [a6] at q1
     simp only [Root.vec.injEq] at q1
     obtain ⟨rfl, q4, rfl⟩ := q1
     simp only [Ent.row, Option.some.injEq] at hl
     subst hl
     obtain rfl := List.length_eq_zero_iff.1 q4.symm
     refine ⟨.inl ⟨by simp, ?_⟩, by simp, fun hh => ?_, fun hh => ?_⟩
     · rcases a7 with ⟨_, h⟩ | ⟨_, a, h⟩
       · exact .inl h
       · exact .inr ⟨a, 0, h⟩
     · rcases a7 with ⟨_, h⟩ | ⟨h0, _⟩
       · exact h
       · simp only [Ent.nil] at hh; rw [hh] at h0; cases h0
     · rcases a7 with ⟨h0, h⟩ | ⟨_, a, h⟩
       · simp only [Ent.nil] at hh; rw [hh] at h0; cases h0
       · exact ⟨a, 0, 0, h⟩
 · obtain ⟨k1, k2, k3, cells, el, fr, pre, mid, post, m1, m2, m3, m4, m5, _⟩ := ZQ ok (hi.ent id x hx) g1 a1 hl a4
   subst k1
   refine ⟨?_, a5, fun hh => (by rw [k3] at hh; cases hh), fun _ => ⟨a, _, c, a2⟩⟩
   have hlen : ((l.drop off).take len).length = len := by simp; omega
   by_cases h0 : len = 0
   · subst h0; exact .inl ⟨by simp, .inr ⟨a, c, a2⟩⟩
   · rcases a8 with ⟨rfl, _⟩ | a8
     · obtain ⟨pre2, mid2, post2, rfl, q1, q2, _⟩ := Jm.sub ok k2 off len a5 m5
       refine .inr ⟨b, _, c, cells, el, fr, pre ++ pre2, mid2, post2 ++ post, by rw [hlen]; exact a2, by rw [hlen]; exact a3, m1, by rw [m3]; simp, ?_, q2⟩
       simp [m4, q1]
     · omega
theorem Gk {e : TypeId} {p : PV} {u : Value} {nl : Bool} {els : List PV} (hi : Inv τ im ow h w) (hp : Jg τ im ow p u) (hr : Xt h e p = some (nl, els)) :
  SlR τ im ow w e u els /\ (nl = true -> u = .slice none 0 0) /\ (nl = false -> ∃ a n c, u = .slice (some a) n c) := by
 cases p with
 | ro e' nl' fl l =>
  simp only [Xt] at hr
  cases he : (e' == e) with
  | false => simp [he] at hr
  | true =>
   simp only [he, cond_true, Option.some.injEq, Prod.mk.injEq] at hr
   obtain ⟨rfl, rfl⟩ := hr
   obtain rfl : e' = e := by simpa using he
   simp only [Jg] at hp
   exact SlR.of_ro ok hi hp
 | ow e' id p off len cap =>
  simp only [Xt] at hr
  cases he : (e' == e) with
  | false => simp [he] at hr
  | true =>
   obtain rfl : e' = e := by simpa using he
   simp only [he, cond_true] at hr
   cases hx : h id with
   | none => simp [hx] at hr
   | some x =>
    simp only [hx] at hr
    cases hl : x.row p with
    | none => simp [hl] at hr
    | some l =>
     simp only [hl, Option.some.injEq, Prod.mk.injEq] at hr
     obtain ⟨rfl, rfl⟩ := hr
     simp only [Jg] at hp
     obtain ⟨q1, _, q2, q3⟩ := SlR.of_ow ok hi hx hl hp
     exact ⟨q1, q2, q3⟩
 | _ => simp [Xt] at hr

/-! ### values of their own -/
omit ok
theorem Wz (h : Ents) (a b : Upd) : JK h (a ++ b) = JK (JK h a) b := by
 induction a generalizing h with
 | nil => rfl
 | cons x r ih => simp only [List.cons_append, JK]; exact ih _
def Frz (h hc : Ents) : Prop := ∀ i, hc i = h i ∨ ∃ e, h i = some e /\ hc i = some e.ice
theorem Ent.ice_of {e : Ent} (h : e.free = false) : e.ice = e := by
 cases e with
 | box z t v => simp only [Ent.free, Bool.not_eq_false'] at h; subst h; rfl
 | vec z t n l => simp only [Ent.free, Bool.not_eq_false'] at h; subst h; rfl
 | dead => rfl
theorem Ent.ice2 (e : Ent) : e.ice.ice = e.ice := by cases e <;> rfl
theorem Ent.row_ice (e : Ent) (p : List Nat) : e.ice.row p = e.row p := by
 cases e with
 | box fz t v => cases p <;> rfl
 | vec fz t nl els => cases p <;> rfl
 | dead => rfl
theorem Ent.nil_ice (e : Ent) : e.ice.nil = e.nil := by cases e <;> rfl
theorem Frz.refl (h : Ents) : Frz h h := fun i => .inl rfl
theorem Frz.freeze {h hc : Ents} (hf : Frz h hc) {i : Nat} {e : Ent} (he : h i = some e) : Frz h (JT hc i e.ice) := by
 intro j
 simp only [JT]
 split
 · rename_i hj; subst hj; exact .inr ⟨e, he, rfl⟩
 · exact hf j
include ok
theorem Jm.closed {l : List PV} {e : TypeId} {cs : List Value} (he : τ.isPtr e = false) (h : Jm τ im (vow τ e ow) l e cs) : Jm τ im JC l e cs := by
 have _ := ok
 simpa [vow, he] using h
theorem JqU {hc : Ents} {e : TypeId} {id : Nat} {q : List Nat} {off len : Nat} {cap : Option Nat} {u : Value} {x y : Ent} {l : List PV} (hi : Inv τ im ow hc w) (hy : hc id = some y) (hyr : y.row q = some l) (hpt : τ.isPtr e = false)
  (himX : ∀ b o, im b = some o -> im' b = some o) (hblk : ∀ l b, ow id = some l -> l.blk = some b -> y ≠ .dead -> im' b = w.heap[b]? /\ ∃ o, w.heap[b]? = some o) (hyn : y.nil = x.nil)
  (hp : OwV τ ow e id q off len cap u) : RoV im' x.nil false ((l.drop off).take len).length (fun mid => Jm τ im' JC ((l.drop off).take len) e mid) u := by
 obtain ⟨q1, q2, q3, q4⟩ := SlR.of_ow ok hi hy hyr hp
 have hd : y ≠ .dead := by rintro rfl; simp [Ent.row] at hyr
 have hlen : ((l.drop off).take len).length = len := by simp; omega
 rw [hyn] at q3 q4
 cases hn : x.nil with
 | true =>
  have := q3 hn
  refine .inl ⟨rfl, this, ?_⟩
  obtain ⟨loc, _, ⟨_, _, _, h4, _⟩ | ⟨b, a, c, o, n, _, h4, _⟩⟩ := hp
  · omega
  · rw [this] at h4; cases h4
 | false =>
  right
  refine ⟨rfl, ?_⟩
  obtain ⟨loc, g1, ⟨_, _, _, h4, _, nl, _, ⟨_, h5⟩ | ⟨_, a, h5⟩⟩ | ⟨b, a, c, o, n, a1, a2, a3, a4, a5, a6, a7, a8⟩⟩ := hp
  · exfalso; obtain ⟨a, n, c, h6⟩ := q4 hn; rw [h5] at h6; cases h6
  · refine ⟨a, 0, ?_, by omega, (fun hh => by cases hh), .inl (by omega)⟩
    rw [hlen, h4]; exact h5
  · refine ⟨a, c, by rw [hlen]; exact a2, by rw [hlen]; exact a3, (fun hh => by cases hh), ?_⟩
    obtain ⟨k1, k2, k3, cells, el, fr, pre, mid, post, m1, m2, m3, m4, m5, _⟩ := ZQ ok (hi.ent id y hy) g1 a1 hyr a4
    subst k1
    by_cases h0 : len = 0
    · exact .inl (by omega)
    · rcases a8 with ⟨rfl, _⟩ | a8
      · obtain ⟨pre2, mid2, post2, rfl, r1, r2, _⟩ := Jm.sub ok k2 off len a5 m5
        refine .inr ⟨rfl, cells, el, fr, pre ++ pre2, mid2, post2 ++ post, by rw [(hblk loc b g1 a1 hd).1, m1], by rw [m3]; simp, ?_, ?_⟩
        · simp [m4, r1]
        · exact Jm.mono himX (fun _ _ h => h) _ _ _ (Jm.closed ok hpt r2)
      · omega
mutual
theorem YJ : ∀ (p p' : PV) (U : Upd) (hc : Ents) (im : Im), Frz h hc -> Inv τ im ow hc w -> Qq τ h p = some (p', U) ->
  ∃ im', Good τ im ow hc w im' ow (JK hc U) w /\ Frz h (JK hc U) /\ (∀ u, Jg τ im ow p u -> Jg τ im' JC p' u) /\ ∀ t cs, Rep τ im ow p t cs -> Rep τ im' JC p' t cs
 | .top, p', U, hc, im, hf, hi, hh => by
   simp only [Qq, XM, Option.some.injEq, Prod.mk.injEq] at hh
   obtain ⟨rfl, rfl⟩ := hh
   exact ⟨im, Good.refl hi rfl, hf, fun u h => by simp only [Jg] at h ⊢; try exact h, fun t cs h => by simpa only [Rep] using h⟩
 | .sc v, p', U, hc, im, hf, hi, hh => by
   simp only [Qq, XM, Option.some.injEq, Prod.mk.injEq] at hh
   obtain ⟨rfl, rfl⟩ := hh
   exact ⟨im, Good.refl hi rfl, hf, fun u h => by simp only [Jg] at h ⊢; try exact h, fun t cs h => by simpa only [Rep] using h⟩
 | .ro e nl fl els, p', U, hc, im, hf, hi, hh => by
   simp only [Qq, XM, Option.some.injEq, Prod.mk.injEq] at hh
   obtain ⟨rfl, rfl⟩ := hh
   exact ⟨im, Good.refl hi rfl, hf, fun u h => by simp only [Jg] at h ⊢; try exact h, fun t cs h => by simpa only [Rep] using h⟩
 | .ar t' els, p', U, hc, im, hf, hi, hh => by
   simp only [Qq, XM, Option.some.injEq, Prod.mk.injEq] at hh
   obtain ⟨rfl, rfl⟩ := hh
   exact ⟨im, Good.refl hi rfl, hf, fun u h => by simp only [Jg] at h ⊢; try exact h, fun t cs h => by simpa only [Rep] using h⟩
 | .ptr id p, p', U, hc, im, hf, hi, hh => by simp [Qq, XM] at hh
 | .rp t v, p', U, hc, im, hf, hi, hh => by simp [Qq, XM] at hh
 | .vr t v, p', U, hc, im, hf, hi, hh => by simp [Qq] at hh
 | .va e els, p', U, hc, im, hf, hi, hh => by
   simp only [Qq] at hh
   cases hpt : τ.isPtr e with
   | true => simp [hpt] at hh
   | false =>
    simp only [hpt, cond_false] at hh
    cases hl : YX τ h els with
    | none => simp [hl] at hh
    | some r =>
      simp only [hl, Option.map_some, Option.some.injEq, Prod.mk.injEq] at hh
      obtain ⟨rfl, rfl⟩ := hh
      obtain ⟨im', g1, g2, g3, g4, g5⟩ := Jb2 els r.1 r.2 hc im hf hi hl
      refine ⟨im', g1, g2, fun u hu => ?_, fun t cs hu => ?_⟩
      · simp only [Jg] at hu ⊢
        rw [g5]
        exact hu.mono g1.imX (fun l hl => g4 _ _ hl)
      · simp only [Rep] at hu
 | .tup l, p', U, hc, im, hf, hi, hh => by simp [Qq, XM] at hh
 | .fn f a b, p', U, hc, im, hf, hi, hh => by simp [Qq, XM] at hh
 | .st t' fs, p', U, hc, im, hf, hi, hh => by
   simp only [Qq] at hh
   cases hl : YX τ h fs with
   | none => simp [hl] at hh
   | some r =>
    simp only [hl, Option.map_some, Option.some.injEq, Prod.mk.injEq] at hh
    obtain ⟨rfl, rfl⟩ := hh
    obtain ⟨im', g1, g2, g3, g4, g5⟩ := Jb2 fs r.1 r.2 hc im hf hi hl
    refine ⟨im', g1, g2, fun u hu => ?_, fun t cs hu => ?_⟩
    · simp only [Jg] at hu ⊢
      obtain ⟨cs, rfl, hu⟩ := hu
      refine ⟨cs, rfl, ?_⟩
      rcases hu with ⟨fds, k1, k2⟩ | ⟨n, e, k1, k2, k3⟩
      · exact .inl ⟨fds, k1, g3 _ _ k2⟩
      · exact .inr ⟨n, e, k1, by rw [g5, k2], g4 _ _ k3⟩
    · simp only [Rep] at hu ⊢
      refine ⟨hu.1, ?_⟩
      rcases hu.2 with ⟨fds, k1, k2⟩ | ⟨n, e, k1, k2, k3⟩
      · exact .inl ⟨fds, k1, g3 _ _ k2⟩
      · exact .inr ⟨n, e, k1, by rw [g5, k2], g4 _ _ k3⟩
 | .ow e id q off len cap, p', U, hc, im, hf, hi, hh => by
   simp only [Qq, XM] at hh
   cases hpt : τ.isPtr e with
   | true => simp [hpt] at hh
   | false =>
    simp only [hpt, cond_false] at hh
    cases hx : h id with
    | none => simp [hx] at hh
    | some x =>
      simp only [hx] at hh
      cases hl : x.row q with
      | none => simp [hl] at hh
      | some l =>
        simp only [hl, Option.some.injEq, Prod.mk.injEq] at hh
        obtain ⟨rfl, rfl⟩ := hh
        have hU : JK hc (bif x.free then [(id, x.ice)] else []) = JK hc [(id, x.ice)] := by
          cases hfr : x.free with
          | true => rfl
          | false =>
            have hxi : x.ice = x := Ent.ice_of hfr
            have hci : hc id = some x := by
              rcases hf id with h1 | ⟨e', h1, h2⟩
              · rw [h1, hx]
              · rw [hx] at h1; obtain rfl := Option.some.inj h1
                rw [h2, hxi]
            funext i
            simp only [cond_false, JK, JT]
            split
            · subst_vars; rw [hci, hxi]
            · rfl
        rw [hU]
        obtain ⟨y, hy, hyi, hyr, hyn⟩ : ∃ y, hc id = some y /\ y.ice = x.ice /\ y.row q = some l /\ y.nil = x.nil := by
          rcases hf id with h1 | ⟨e', h1, h2⟩
          · exact ⟨x, by rw [h1, hx], rfl, hl, rfl⟩
          · rw [hx] at h1; obtain rfl := Option.some.inj h1
            exact ⟨x.ice, h2, Ent.ice2 x, by rw [Ent.row_ice]; exact hl, Ent.nil_ice x⟩
        obtain ⟨im', G, hblk⟩ := Good.freeze hi hy
        rw [hyi] at G
        have key : ∀ u, OwV τ ow e id q off len cap u -> RoV im' x.nil false ((l.drop off).take len).length (fun mid => Jm τ im' JC ((l.drop off).take len) e mid) u :=
          fun u hu => JqU ok hi hy hyr hpt G.imX hblk hyn hu
        refine ⟨im', G, hf.freeze hx, fun u hu => ?_, fun t cs hu => ?_⟩
        · simp only [Jg] at hu ⊢; exact key u hu
        · simp only [Rep] at hu ⊢
          obtain ⟨h1, u, h2, h3⟩ := hu
          exact ⟨h1, u, h2, key u h3⟩
theorem Jb2 : ∀ (l l' : List PV) (U : Upd) (hc : Ents) (im : Im), Frz h hc -> Inv τ im ow hc w -> YX τ h l = some (l', U) ->
  ∃ im', Good τ im ow hc w im' ow (JK hc U) w /\ Frz h (JK hc U) /\ (∀ ts cs, JQ τ im ow l ts cs -> JQ τ im' JC l' ts cs) /\ (∀ e cs, Jm τ im ow l e cs -> Jm τ im' JC l' e cs) /\ l'.length = l.length
 | [], l', U, hc, im, hf, hi, hh => by
   have _ := ok
   simp only [YX, Option.some.injEq, Prod.mk.injEq] at hh
   obtain ⟨rfl, rfl⟩ := hh
   exact ⟨im, Good.refl hi rfl, hf, fun u cs h => by simpa only [JQ] using h, fun t cs h => by simpa only [Jm] using h, rfl⟩
 | p :: ps, l', U, hc, im, hf, hi, hh => by
   simp only [YX] at hh
   cases h1 : Qq τ h p with
   | none => simp [h1] at hh
   | some a =>
    cases h2 : YX τ h ps with
    | none => simp [h1, h2] at hh
    | some b =>
     simp only [h1, h2, Option.some.injEq, Prod.mk.injEq] at hh
     obtain ⟨rfl, rfl⟩ := hh
     obtain ⟨im1, g1, g2, g3, g4⟩ := YJ p a.1 a.2 hc im hf hi h1
     obtain ⟨im2, k1, k2, k3, k4, k5⟩ := Jb2 ps b.1 b.2 (JK hc a.2) im1 g2 g1.inv h2
     rw [Wz]
     refine ⟨im2, g1.trans k1, k2, fun ts cs hu => ?_, fun e cs hu => ?_, by simp [k5]⟩
     · simp only [JQ] at hu ⊢
       obtain ⟨t, r, c1, c2, rfl, rfl, m1, m2⟩ := hu
       exact ⟨t, r, c1, c2, rfl, rfl, Rep.mono k1.imX (fun _ _ h => h) _ _ _ (g4 _ _ m1), k3 _ _ (JQ.mono g1.imX (fun _ _ h => h) _ _ _ m2)⟩
     · simp only [Jm] at hu ⊢
       obtain ⟨c1, c2, rfl, m1, m2⟩ := hu
       exact ⟨c1, c2, rfl, Rep.mono k1.imX (fun _ _ h => h) _ _ _ (g4 _ _ m1), k4 _ _ (Jm.mono g1.imX (fun _ _ h => h) _ _ _ m2)⟩
end
end
end Go.Proofs.Ythpmachmnoljeaa.Rx
end

noncomputable section
namespace Go.Proofs.Ythpmachmnoljeaa.Rx
open Go
set_option linter.unusedVariables false

theorem JcL {P : Program} {o : Oper} {a : Act} {w w' : World} {u : Value} {K : Act -> World -> Prop} {Q : Exit -> Act -> World -> Prop} (hr : (execOp a.eval o).run P w = .ok (.value u) w') (hk : K (a.put o.dst u) w') : o.wp P a w K Q := by
 unfold Oper.wp; rw [hr]; exact hk
theorem JkB {P : Program} {o : Oper} {a : Act} {w w' : World} {K : Act -> World -> Prop} {Q : Exit -> Act -> World -> Prop} (hr : (execOp a.eval o).run P w = .ok .skip w') (hk : K (a.put o.dst undef) w') : o.wp P a w K Q := by
 unfold Oper.wp; rw [hr]; exact hk
def J5 : Bool -> List Value -> Value
 | true, cs => .agg cs.toArray
 | false, cs => cs.headD undef
theorem Qn (b off n : Nat) : (⟨b, off, none⟩ : Addr).add n = ⟨b, off + n, none⟩ := by
 unfold Addr.add; split
 · rename_i h; subst h; rfl
 · rfl
theorem Xa {w : World} {b : Nat} {cells : Array Value} {el : TypeId} {fr : Nat × Nat} {pre mid post : List Value} (hw : w.heap[b]? = some (.cells cells el fr)) (hc : cells.toList = pre ++ mid ++ post) {j : Nat} {v : Value} (hj : mid[j]? = some v) {off : Nat} (ho : pre.length = off) : w.cell? ⟨b, off + j, none⟩ = some v := by
 subst ho
 have hlt : j < mid.length := by
  rcases Nat.lt_or_ge j mid.length with h | h
  · exact h
  · rw [List.getElem?_eq_none h] at hj; cases hj
 simp only [World.cell?, hw, Option.isSome_none, Bool.false_eq_true, if_false]
 rw [← Array.getElem?_toList, hc, List.append_assoc, List.getElem?_append_right (by omega), List.getElem?_append_left (by omega)]
 simpa using hj
theorem Q5 {v : Value} (h : v.oneCell' = true) : v.cells = #[v] := by cases v <;> first | rfl | simp [Value.oneCell'] at h

section
variable {τ : Tab} {P : Program} (ok : TabOk τ P) {im im' : Im} {ow ow' : Own} {h : Ents} {w w' : World}
include ok
theorem Jx {t d} (hd : τ.und t = some d) : (underlying t).run P w = .ok d w := by
 simp [underlying, ok.und t d hd]
theorem Qb {t d} (hd : τ.und t = some d) : (sizeOf t).run P w = .ok (τ.siz t) w := by
 obtain ⟨i, h1, h2, _⟩ := ok.info t d hd
 simp [sizeOf, typeInfo, h1, h2]
theorem Jn6 {t d} (hd : τ.und t = some d) : (isAgg t).run P w = .ok (τ.agg t) w := by
 simp only [isAgg, Sem.run_bind, Jx ok hd, Result.andThen_ok]
 simp only [Tab.agg, hd]
 cases d <;> rfl
theorem WA {t d} (hd : τ.und t = some d) {b : Nat} {cells : Array Value} {el : TypeId} {fr : Nat × Nat} {pre mid post : List Value} (hw : w.heap[b]? = some (.cells cells el fr)) (hc : cells.toList = pre ++ mid ++ post) (hm : mid.length = τ.siz t) {off : Nat} (ho : pre.length = off) :
  (loadVar t ⟨b, off, none⟩).run P w = .ok (J5 (τ.agg t) mid) w := by
 simp only [loadVar, Sem.run_bind, Jn6 ok hd, Result.andThen_ok]
 cases ha : τ.agg t with
 | true =>
  simp only [if_true, Sem.run_bind, Qb ok hd, Result.andThen_ok]
  rw [← hm, run_loadCells_list (P := P) w ⟨b, off, none⟩ mid (fun j v hj => by rw [Qn]; exact Xa hw hc hj ho)]
  rfl
 | false =>
  have h1 := ok.one t d hd ha
  rw [h1] at hm
  match mid, hm with
  | [v], _ =>
   have := Xa hw hc (j := 0) (v := v) rfl ho
   simp only [Bool.false_eq_true, if_false, run_load]
   simp only [Nat.add_zero] at this
   simp [this, J5]
theorem Rep.toV {p : PV} {t : TypeId} {mid : List Value} {d} (hd : τ.und t = some d) (hr : Rep τ im ow p t mid) : Jg τ im ow p (J5 (τ.agg t) mid) := by
 have _ := ok
 cases p with
 | top => simp only [Jg]
 | sc v => simp only [Rep] at hr; obtain ⟨h1, rfl, h3⟩ := hr; simp only [Jg, h1, J5]; exact ⟨rfl, h3⟩
 | ro e nl fl els => simp only [Rep] at hr; obtain ⟨h1, u, rfl, h3⟩ := hr; simp only [Jg]; simpa [Tab.agg, h1, J5] using h3
 | ow e id q off len cap => simp only [Rep] at hr; obtain ⟨h1, u, rfl, h3⟩ := hr; simp only [Jg]; simpa [Tab.agg, h1, J5] using h3
 | ptr id q => simp only [Rep] at hr; obtain ⟨h1, u, rfl, h3⟩ := hr; simp only [Jg, VA h1, J5]; exact h3
 | rp _ _ => simp only [Rep] at hr
 | va _ _ => simp only [Rep] at hr
 | vr _ _ => simp only [Rep] at hr
 | ar t' els => simp only [Rep] at hr; obtain ⟨rfl, n, e, h1, h2, h3, h4⟩ := hr; simp only [Jg]; exact ⟨mid.toArray, n, e, by simp [Tab.agg, h1, J5], h1, h2, h3, by simpa using h4⟩
 | st t' fs =>
  simp only [Rep] at hr; obtain ⟨rfl, hr⟩ := hr; simp only [Jg]
  rcases hr with ⟨fds, h1, h2⟩ | ⟨n, e, h1, h2, h3⟩
  · exact ⟨mid.toArray, by simp [Tab.agg, h1, J5], .inl ⟨fds, h1, by simpa using h2⟩⟩
  · exact ⟨mid.toArray, by simp [Tab.agg, h1, J5], .inr ⟨n, e, h1, h2, by simpa using h3⟩⟩
 | tup _ => simp only [Rep] at hr
 | fn f a b => simp only [Rep] at hr; obtain ⟨h1, u, v, rfl, h3, h4⟩ := hr; simp only [Jg, VB h1, J5]; exact ⟨u, v, rfl, h3, h4⟩
theorem XO {p : PV} {t : TypeId} {u : Value} {d} (hd : τ.und t = some d) (hf : Xh τ t p = true) (hr : Jg τ im ow p u) : Rep τ im ow p t u.cells.toList /\ u.cells.size = τ.siz t /\ J5 (τ.agg t) u.cells.toList = u := by
 have key : Rep τ im ow p t u.cells.toList /\ J5 (τ.agg t) u.cells.toList = u := by
  cases p with
  | top => simp [Xh] at hf
  | sc v =>
   simp only [Jg] at hr; obtain ⟨rfl, h2⟩ := hr
   have hf' : τ.agg t = false := by simpa [Xh] using hf
   simp only [Rep, Q5 h2, hf', J5]
   exact ⟨⟨trivial, trivial, h2⟩, rfl⟩
  | ro e nl fl els =>
   have hf' : τ.und t = some (.slice e) := by
    simp only [Xh, Tab.elem] at hf; split at hf <;> simp_all
   simp only [Jg] at hr
   have h1 : u.oneCell' = true := by rcases hr with ⟨_, rfl, _⟩ | ⟨_, a, c, rfl, _⟩ <;> rfl
   simp only [Rep, Q5 h1]
   exact ⟨⟨hf', u, rfl, hr⟩, by simp [Tab.agg, hf', J5]⟩
  | ow e id q off len cap =>
   have hf' : τ.und t = some (.slice e) := by
    simp only [Xh, Tab.elem] at hf; split at hf <;> simp_all
   simp only [Jg] at hr
   have h1 : u.oneCell' = true := by obtain ⟨loc, _, ⟨_, _, _, _, _, nl, _, ⟨_, rfl⟩ | ⟨_, a, rfl⟩⟩ | ⟨b, a, c, o, n, _, rfl, _⟩⟩ := hr <;> rfl
   simp only [Rep, Q5 h1]
   exact ⟨⟨hf', u, rfl, hr⟩, by simp [Tab.agg, hf', J5]⟩
  | ptr id q =>
   have hf' : τ.isPtr t = true := by simpa [Xh] using hf
   simp only [Jg] at hr
   have h1 : u.oneCell' = true := by obtain ⟨loc, b, o, t, _, _, _, rfl⟩ := hr; rfl
   simp only [Rep, Q5 h1]
   exact ⟨⟨hf', u, rfl, hr⟩, by simp [VA hf', J5]⟩
  | rp _ _ => simp [Xh] at hf
  | va _ _ => simp [Xh] at hf
  | vr _ _ => simp [Xh] at hf
  | tup _ => simp [Xh] at hf
  | ar t' els =>
   have hf' : t' = t := by simpa [Xh] using hf
   subst hf'
   simp only [Jg] at hr
   obtain ⟨cs, n, e, rfl, h1, h2, h3, h4⟩ := hr
   simp only [Rep, Value.cells]
   exact ⟨⟨trivial, n, e, h1, h2, h3, h4⟩, by simp [Tab.agg, h1, J5]⟩
  | st t' fs =>
   have hf' : t' = t := by simpa [Xh] using hf
   subst hf'
   simp only [Jg] at hr
   obtain ⟨cs, rfl, hr⟩ := hr
   simp only [Rep, Value.cells]
   refine ⟨⟨trivial, hr⟩, ?_⟩
   rcases hr with ⟨fds, h1, _⟩ | ⟨n, e, h1, _⟩ <;> simp [Tab.agg, h1, J5]
  | fn f a b =>
   have hf' : τ.isFun t = true := by simpa [Xh] using hf
   simp only [Jg] at hr
   obtain ⟨x, y, rfl, h3, h4⟩ := hr
   simp only [Rep, Value.cells]
   exact ⟨⟨hf', x, y, rfl, h3, h4⟩, by simp [VB hf', J5]⟩
 refine ⟨key.1, ?_, key.2⟩
 rw [← Array.length_toList]; exact Rep.len ok _ _ _ ⟨d, hd⟩ key.1
theorem Qt {p8 : Prop} : ∀ (vs : List Value) (i : Nat) (w : World) (b off : Nat) (cells : Array Value) (el : TypeId) (fr : Nat × Nat) (pre mid post : List Value), w.heap[b]? = some (.cells cells el fr) -> JfR p8 cells fr -> cells.toList = pre ++ mid ++ post -> mid.length = vs.length -> pre.length = off + i -> (∀ v ∈ vs, v.oneCell' = true) ->
  ∃ w' cells', (storeCells ⟨b, off, none⟩ vs i).run P w = .ok () w' /\ cells'.toList = pre ++ vs ++ post /\ HeapSet w b (.cells cells' el fr) w'
 | [], i, w, b, off, cells, el, fr, pre, mid, post, hw, hu, hc, hm, ho, h1 => by
   have _ := ok
   obtain rfl := List.length_eq_zero_iff.1 hm
   exact ⟨w, cells, rfl, by simpa using hc, { at_ := hw, other := fun _ _ => rfl, size := rfl, rest := Rest.refl _ }⟩
 | v :: vs, i, w, b, off, cells, el, fr, pre, mid, post, hw, hu, hc, hm, ho, h1 => by
   match mid, hm with
   | m0 :: mid, hm =>
    have hcell := Xa hw hc (j := 0) (v := m0) rfl ho
    simp only [Nat.add_zero] at hcell
    have hsz : cells.size = pre.length + (mid.length + 1) + post.length := by rw [← Array.length_toList, hc]; simp; omega
    have hfr : w.frozen? ⟨b, off + i, none⟩ = false := by
      simp only [World.frozen?, hw]
      have : ¬ (fr.1 <= off + i /\ off + i < fr.2) := by have := hu.weak; omega
      simpa using this
    have hset : (w.setCell ⟨b, off + i, none⟩ v).heap[b]? = some (.cells (cells.setIfInBounds (off + i) v) el fr) := by
      simp [World.setCell, hw, Array.getElem?_modify]
    have hc' : (cells.setIfInBounds (off + i) v).toList = (pre ++ [v]) ++ mid ++ post := by
      rw [Array.toList_setIfInBounds, hc, ← ho]
      simp
    obtain ⟨w', cells', k1, k2, k3⟩ := Qt vs (i + 1) (w.setCell ⟨b, off + i, none⟩ v) b off (cells.setIfInBounds (off + i) v) el fr (pre ++ [v]) mid post hset (hu.put (pre := pre) (mid := [m0]) (mid' := [v]) (post := mid ++ post) (by rw [hc]; simp) (by rw [hc']; simp) (by simp) (by simpa using h1 v List.mem_cons_self)) hc' (by simpa using hm) (by simp; omega) (fun x hx => h1 x (List.mem_cons_of_mem _ hx))
    refine ⟨w', cells', ?_, by simpa using k2, { at_ := k3.at_, other := fun b' hb' => ?_, size := ?_, rest := Rest.trans ⟨rfl, rfl, rfl⟩ k3.rest }⟩
    · simp only [storeCells, Sem.run_bind, Qn, run_store P w _ v _ (h1 v List.mem_cons_self), hcell, hfr, Bool.false_eq_true, if_false, Result.andThen_ok]
      exact k1
    · rw [k3.other b' hb', heap_setCell_other w _ _ _ hb']
    · rw [k3.size]; simp
theorem Jdc {p8 : Prop} {t d} (hd : τ.und t = some d) {u : Value} {b off : Nat} {cells : Array Value} {el : TypeId} {fr : Nat × Nat} {pre mid post : List Value} (hw : w.heap[b]? = some (.cells cells el fr)) (hu : JfR p8 cells fr) (hc : cells.toList = pre ++ mid ++ post) (hm : mid.length = τ.siz t) (ho : pre.length = off)
  (hs : u.cells.size = τ.siz t) (h1 : ∀ v ∈ u.cells.toList, v.oneCell' = true) :
  ∃ w' cells', (storeVar t ⟨b, off, none⟩ u).run P w = .ok () w' /\ cells'.toList = pre ++ u.cells.toList ++ post /\ HeapSet w b (.cells cells' el fr) w' := by
 obtain ⟨w', cells', k1, k2, k3⟩ := Qt ok u.cells.toList 0 w b off cells el fr pre mid post hw hu hc (by rw [hm, Array.length_toList, hs]) (by omega) h1
 refine ⟨w', cells', ?_, k2, k3⟩
 simp only [storeVar, Sem.run_bind, Qb ok hd, Result.andThen_ok, hs, ne_eq, not_true_eq_false, if_false, Sem.run_ite]
 exact k1
theorem Xi {t z} (hz : τ.zer t = some z) : ∃ d v, τ.und t = some d /\ (zeroValue t).run P w = .ok v w /\ (∀ im ow, Rep τ im ow z t v.cells.toList) /\ J5 (τ.agg t) v.cells.toList = v := by
 obtain ⟨⟨d, hd⟩, i, v, h1, h2, h3, h4, h5⟩ := ok.zer t z hz
 refine ⟨d, v, hd, by simp [zeroValue, typeInfo, h1, h2], h5, ?_⟩
 cases ha : τ.agg t with
 | true => obtain ⟨cs, rfl⟩ := h4 ha; simp [J5, Value.cells]
 | false => rw [Q5 (h3 ha)]; rfl
end
end Go.Proofs.Ythpmachmnoljeaa.Rx
end

noncomputable section
namespace Go.Proofs.Ythpmachmnoljeaa.Rx
open Go
set_option linter.unusedVariables false

section
variable (τ : Tab) (P : Program)
def JR (o : Oper) (rd : Operand -> PV) (h : Ents) (v : PV) (U : Upd) : Prop :=
 ∀ (im : Im) (ow : Own) (a : Act) (w : World), (∀ x ∈ o.op.operands, Jg τ im ow (rd x) (a.eval x)) -> Inv τ im ow h w ->
  ∃ u w' im' ow', ((execOp a.eval o).run P w = .ok (.value u) w' ∨ ((execOp a.eval o).run P w = .ok .skip w' /\ u = undef)) /\ Good τ im ow h w im' ow' (JK h U) w' /\ Jg τ im' ow' v u
end
theorem Qo {k : IntKind} {p : PV} (h : p.isInt k = true) : p = .sc (.int k p.int) := by
 cases p with
 | sc v => cases v <;> simp [PV.isInt] at h; subst h; rfl
 | _ => simp [PV.isInt] at h
theorem Wh {p : PV} (h : p.isBool = true) : p = .sc (.bool p.bool) := by
 cases p with
 | sc v => cases v <;> simp [PV.isBool] at h; rfl
 | _ => simp [PV.isBool] at h
theorem QJ {p : PV} (h : p.isStr = true) : p = .sc (.string p.str) := by
 cases p with
 | sc v => cases v <;> simp [PV.isStr] at h; rfl
 | _ => simp [PV.isStr] at h
theorem Jaj {k : FloatKind} {p : PV} (h : p.isFlo k = true) : p = .sc (.float k p.flo) := by
 cases p with
 | sc v => cases v <;> simp [PV.isFlo] at h; subst h; rfl
 | _ => simp [PV.isFlo] at h
theorem JdT {k : FloatKind} {p : PV} (h : p.isCom k = true) : p = .sc (.complex k p.cre p.cim) := by
 cases p with
 | sc v => cases v <;> simp [PV.isCom] at h; subst h; rfl
 | _ => simp [PV.isCom] at h
theorem Ju3 {e : TypeId} {p : PV} (h : p.isRo e = true) : p = .ro e p.nl p.fl p.els := by
 cases p <;> simp [PV.isRo] at h; subst h; rfl
theorem Jak {e : TypeId} {p : PV} (h : p.isAr e = true) : p = .ar e p.els := by
 cases p <;> simp [PV.isAr] at h; subst h; rfl
theorem VC {t : TypeId} {n : Nat} {p : PV} (h : p.isSt t n = true) : p = .st t p.fs /\ p.fs.length = n := by
 cases p <;> simp [PV.isSt] at h
 obtain ⟨rfl, h2⟩ := h; exact ⟨rfl, h2⟩
theorem Jal (τ : Tab) : ∀ (n : Nat) (t : TypeId) (p : PV), (Jdb τ n t p).1 = true -> (Jdb τ n t p).2 = p
 | 0, t, p, h => by simp [Jdb] at h
 | n + 1, t, p, h => by
  simp only [Jdb] at h ⊢
  cases hu : τ.und t with
  | none => simp [hu] at h
  | some d =>
   cases d with
   | int k => simp only [hu] at h ⊢; exact (Qo h).symm
   | bool => simp only [hu] at h ⊢; exact (Wh h).symm
   | string => simp only [hu] at h ⊢; exact (QJ h).symm
   | float k => simp only [hu] at h ⊢; exact (Jaj h).symm
   | complex k => simp only [hu] at h ⊢; exact (JdT h).symm
   | slice e => simp only [hu] at h ⊢; exact (Ju3 h).symm
   | array m e =>
    simp only [hu] at h ⊢
    cases hr : JqJ τ e with
    | false => simp only [hr, cond_false] at h ⊢; exact (Jak h).symm
    | true =>
      simp only [hr, cond_true] at h ⊢
      simp only [Bool.and_eq_true] at h
      obtain ⟨fs, rfl, h2⟩ : ∃ fs, p = .st t fs /\ fs.length = m := ⟨_, VC h.1⟩
      congr 1
      apply List.ext_getElem?
      intro i
      have hall := h.2
      simp only [List.all_map, List.all_eq_true] at hall
      by_cases hi : i < m
      · have hi2 : i < fs.length := by omega
        have h3 := Jal τ n e ((PV.st t fs).child i) (by simpa using hall i (List.mem_range.2 hi))
        have h4 : (PV.st t fs).child i = fs[i] := by simp [PV.child, List.getD, List.getElem?_eq_getElem hi2]
        rw [h4] at h3
        rw [List.getElem?_map, List.getElem?_map, List.getElem?_range hi, List.getElem?_eq_getElem hi2]
        simp only [Option.map_some, h4, h3]
      · rw [List.getElem?_eq_none (by simpa using Nat.le_of_not_lt hi), List.getElem?_eq_none (by omega)]
   | pointer e => rfl
   | struct fds =>
    simp only [hu, Bool.and_eq_true] at h ⊢
    obtain ⟨fs, rfl, h2⟩ : ∃ fs, p = .st t fs /\ fs.length = fds.size := ⟨_, VC h.1⟩
    congr 1
    apply List.ext_getElem?
    intro i
    have hall := h.2
    simp only [List.all_map, List.all_eq_true] at hall
    by_cases hi : i < fds.toList.length
    · have hi2 : i < fs.length := by rw [h2]; simpa using hi
      have hm : (fds.toList[i], i) ∈ fds.toList.zipIdx := by
        rw [List.mem_iff_getElem?]
        exact ⟨i, by simp [List.getElem?_zipIdx, List.getElem?_eq_getElem hi]⟩
      have h3 := Jal τ n fds.toList[i].type ((PV.st t fs).child i) (by simpa using hall _ hm)
      have h4 : (PV.st t fs).child i = fs[i] := by simp [PV.child, List.getD, List.getElem?_eq_getElem hi2]
      rw [h4] at h3
      rw [List.getElem?_map, List.getElem?_map, List.getElem?_zipIdx, List.getElem?_eq_getElem hi, List.getElem?_eq_getElem hi2]
      simp only [Option.map_some, Nat.zero_add, h4, h3]
    · rw [List.getElem?_eq_none (by simpa using hi), List.getElem?_eq_none (by rw [h2]; simpa using hi)]
   | _ => simp [hu] at h

section
variable {τ : Tab} {P : Program} (ok : TabOk τ P) {im im' : Im} {ow ow' : Own} {h : Ents} {w w' : World} {o : Oper} {rd : Operand -> PV}
include ok
theorem XH {t : TypeId} {p : PV} {u : Value} (hr : Jg τ im ow p u) : Jg τ im ow (J0 τ t p) u := by
 have _ := ok
 unfold J0
 split
 · simp only [Jg] at hr
   split
   · simp only [Jg]; exact .inl ⟨rfl, hr.1, rfl⟩
   · simp only [Jg]; exact hr
 · exact hr
theorem JkC {i : Nat} {x : Ent} {loc : Loc} {p : List Nat} {u : TypeId} {via : Bool} {v : PV} {o : Nat} {ty : TypeId} {b : Nat} (hx : EntRep τ im ow i x w) (hl : ow i = some loc) (hb : loc.blk = some b)
  (hg : x.get τ p = some (u, via, v)) (ha : loc.root.place τ p = some (o, ty)) :
  u = ty /\ (∃ d, τ.und ty = some d) /\ ∃ cells el fr pre mid post, w.heap[b]? = some (.cells cells el fr) /\ JfR (x.t8 τ) cells fr /\ cells.toList = pre ++ mid ++ post /\ pre.length = loc.base + o /\ mid.length = τ.siz ty /\ Rep τ im ow v ty mid /\
    (∀ fz e nl els, x = .vec fz e nl els -> Rep τ im (vow τ e ow) v ty mid) /\
    ∀ y mid' cells' w2, Rep τ im ow y ty mid' -> (∀ fz e nl els, x = .vec fz e nl els -> Rep τ im (vow τ e ow) y ty mid') -> cells'.toList = pre ++ mid' ++ post -> w2.heap[b]? = some (.cells cells' el fr) -> x.free = true -> EntRep τ im ow i (x.set p y) w2 := by
 obtain ⟨loc', h1, h2⟩ := hx
 rw [hl] at h1; obtain rfl := Option.some.inj h1
 cases x with
 | dead => simp [Ent.get] at hg
 | box fz t v0 =>
  obtain ⟨g1, g2, b', cells, el, fr, pre, mid, post, m1, m2, m3, m4, m5, m6, m7, m8⟩ := h2
  rw [hb] at m1; obtain rfl := Option.some.inj m1
  rw [g1] at ha
  simp only [Root.place] at ha
  obtain ⟨q1, q2, q3⟩ := Y0 ok p t o ty g2 ha
  have hg' : (tyP τ t p).map (fun u => (u, JqK τ t p, Jr v0 p)) = some (u, via, v) := by cases p <;> simpa [Ent.get] using hg
  rw [q3] at hg'
  simp only [Option.map_some, Option.some.injEq, Prod.mk.injEq] at hg'
  obtain ⟨rfl, rfl, rfl⟩ := hg'
  obtain ⟨pre2, mid2, post2, rfl, k2, k3, k4⟩ := Rep.nav ok p t v0 mid o ty g2 m6 ha
  have hlen := Rep.len ok _ _ _ q1 k3
  refine ⟨rfl, q1, cells, el, fr, pre ++ pre2, mid2, post2 ++ post, m2, m3, by rw [m4]; simp, by simp [m5, k2], hlen, k3, (fun _ _ _ _ hh => by cases hh), ?_⟩
  intro y mid' cells' w2 a1 _ a3 a4 a5
  have hset : (Ent.box fz t v0).set p y = .box fz t (Jae v0 p y) := by cases p <;> rfl
  rw [hset]
  have e2 := Rep.len ok _ _ _ q1 a1
  have hsz : cells'.size = cells.size := by rw [← Array.length_toList, ← Array.length_toList, a3, m4]; simp [hlen, e2]
  refine ⟨loc, hl, g1, g2, b, cells', el, fr, pre, pre2 ++ mid' ++ post2, post, hb, a4, ?_, by rw [a3]; simp, m5, k4 _ _ a1, fun hf => ?_, m8.1, hsz ▸ m8.2⟩
  · exact m3.put (pre := pre ++ pre2) (mid := mid2) (post := post2 ++ post) (by rw [m4]; simp) a3 hsz (Rep.ones ok a1)
  · simp [Ent.free, hf] at a5
 | vec fz t nl els =>
  cases p with
  | nil => simp [Ent.get] at hg
  | cons i p =>
    obtain ⟨g1, g2, ⟨k1, _⟩ | ⟨k1, b', cells, el, fr, pre, mid, post, m1, m2, m3, m4, m5, m6, m7, m8⟩⟩ := h2
    · rw [hb] at k1; cases k1
    · rw [hb] at m1; obtain rfl := Option.some.inj m1
      rw [g1] at ha
      simp only [Root.place] at ha
      split at ha
      · rename_i hlt
        cases ho : Qv τ t p with
        | none => simp [ho] at ha
        | some r =>
         obtain ⟨o2, ty2⟩ := r
         simp only [ho, Option.map_some, Option.some.injEq, Prod.mk.injEq] at ha
         obtain ⟨rfl, rfl⟩ := ha
         obtain ⟨q1, q2, q3⟩ := Y0 ok p t o2 ty2 g2 ho
         simp only [Ent.get, q3, Option.map_some, Option.some.injEq, Prod.mk.injEq] at hg
         obtain ⟨rfl, rfl, rfl⟩ := hg
         obtain ⟨pre1, mid1, post1, rfl, r1, r2, r3⟩ := Jm.split ok els t mid i g2 m6 hlt
         obtain ⟨pre2, mid2, post2, rfl, k2, k3, k4⟩ := Rep.nav ok p t _ mid1 o2 ty2 g2 r2 ho
         have hlen := Rep.len ok _ _ _ q1 k3
         refine ⟨rfl, q1, cells, el, fr, pre ++ (pre1 ++ pre2), mid2, post2 ++ post1 ++ post, m2, m3, by rw [m4]; simp, by simp [m5, k2, r1], hlen, Rep.mono (fun _ _ h => h) JqT _ _ _ k3, ?_, ?_⟩
         · rintro _ _ _ _ hh; cases hh; exact k3
         · intro y mid' cells' w2 _ a1 a3 a4 a5
           have a1 := a1 _ _ _ _ rfl
           have e2 := Rep.len ok _ _ _ q1 a1
           have hsz : cells'.size = cells.size := by rw [← Array.length_toList, ← Array.length_toList, a3, m4]; simp [hlen, e2]
           refine ⟨loc, hl, ?_, g2, .inr ⟨k1, b, cells', el, fr, pre, pre1 ++ (pre2 ++ mid' ++ post2) ++ post1, post, hb, a4, ?_, by rw [a3]; simp, m5, r3 _ _ (k4 _ _ a1), fun hf => ?_, m8.1, hsz ▸ m8.2⟩⟩
           · rw [g1]; simp
           · exact m3.put (pre := pre ++ (pre1 ++ pre2)) (mid := mid2) (post := post2 ++ post1 ++ post) (by rw [m4]; simp) a3 hsz (Rep.ones ok a1)
           · simp [Ent.free, hf] at a5
      · cases ha
theorem JdU {i : Nat} {e : Ent} {root : Root} {room : Nat} (hi : Inv τ im ow h w) (h1 : h i = none) (hsz : w.heap.size <= w'.heap.size) (hold : ∀ b, b < w.heap.size -> w'.heap[b]? = w.heap[b]?)
  (he : EntRep τ im (Xu ow i ⟨some w.heap.size, 0, root, room⟩) i e w') (hr : Rest w w' := by first | exact ⟨rfl, rfl, rfl⟩ | assumption) : Good τ im ow h w im (Xu ow i ⟨some w.heap.size, 0, root, room⟩) (JT h i e) w' := by
 have _ := ok
 exact Good.fresh hi h1 hsz hold (fun b hb => by simp only [Option.some.injEq] at hb; omega) he
theorem JkD (hi : Inv τ im ow h w) : im w.heap.size = none := by
 have _ := ok
 cases hb : im w.heap.size with
 | none => rfl
 | some o => have := QP (hi.imOk _ _ hb); omega
theorem J8 {i : Nat} {l : Loc} : Xu ow i l i = some l := by have _ := ok; simp [Xu]
theorem JdV (hi : Inv τ im ow h w) {i : Nat} {l : Loc} (h1 : h i = none) : ∀ j l2, ow j = some l2 -> Xu ow i l j = some l2 := by
 have _ := ok
 intro j l2 hj
 simp only [Xu]; split
 · rename_i hji; subst hji; obtain ⟨e, g⟩ := hi.dom _ _ hj; rw [h1] at g; cases g
 · exact hj

theorem Jn7 {x} (ho : o.op = .move x ∨ o.op = .assign x) : JR τ P o rd h (J0 τ o.type (rd x)) [] := by
 intro im ow a w hop hi
 have hx : x ∈ o.op.operands := by rcases ho with ho | ho <;> simp [ho, Op.operands]
 refine ⟨a.eval x, w, im, ow, .inl ?_, Good.refl hi rfl, XH ok (hop x hx)⟩
 rcases ho with ho | ho <;> simp [execOp, ho]
theorem Jn8 {c x y b} (ho : o.op = .pick c x y) (hc : rd c = .sc (.bool b)) : JR τ P o rd h (rd (bif b then x else y)) [] := by
 have _ := ok
 intro im ow a w hop hi
 have h1 := hop c (by simp [ho, Op.operands])
 rw [hc] at h1
 simp only [Jg] at h1
 refine ⟨a.eval (bif b then x else y), w, im, ow, .inl ?_, Good.refl hi rfl, hop _ ?_⟩
 · simp only [execOp, ho, h1.1, asBool]; cases b <;> simp
 · cases b <;> simp [ho, Op.operands]
theorem JqV {t z} (ho : o.op = .alloc t) (hz : τ.zer t = some z) (hn : h (Qa o) = none) : JR τ P o rd h (.ptr (Qa o) []) [(Qa o, .box false t z)] := by
 intro im ow a w hop hi
 obtain ⟨d, v, hd, h2, h3, h4⟩ := Xi ok (w := w) hz
 refine ⟨.pointer (some ⟨w.heap.size, 0, none⟩), w.alloc (.cells v.cells t), im, _, .inl ?_, JdU ok hi hn (root := .box t) (room := 0) (by simp) (fun b hb => heap_alloc_old w _ b hb) ?_, ?_⟩
 · simp [execOp, ho, Instr.alloc, h2, newVar, newRow]
 · refine ⟨_, J8 ok, rfl, ⟨d, hd⟩, w.heap.size, v.cells, t, (0, 0), [], v.cells.toList, [], rfl, heap_alloc_new w _, ⟨.inl rfl, Rep.ones ok (h3 im JC)⟩, by simp, rfl, h3 _ _, (fun hh => by cases hh), (fun _ => JkD ok hi), by simp⟩
 · simp only [Jg]
   exact ⟨_, _, 0, t, J8 ok, rfl, by simp [Root.place, Qv], by simp⟩
theorem JAc {t x} (ho : o.op = .box t x) (hf : Xh τ t (J0 τ t (rd x)) = true) (hd : ∃ d, τ.und t = some d) (hn : h (Qa o) = none) : JR τ P o rd h (.ptr (Qa o) []) [(Qa o, .box false t (J0 τ t (rd x)))] := by
 intro im ow a w hop hi
 obtain ⟨d, hd⟩ := hd
 have h1 := XH ok (t := t) (hop x (by simp [ho, Op.operands]))
 obtain ⟨h2, h3, h4⟩ := XO ok hd hf h1
 refine ⟨.pointer (some ⟨w.heap.size, 0, none⟩), w.alloc (.cells (a.eval x).cells t), im, _, .inl ?_, JdU ok hi hn (root := .box t) (room := 0) (by simp) (fun b hb => heap_alloc_old w _ b hb) ?_, ?_⟩
 · simp [execOp, ho, Instr.box, newVar, newRow]
 · refine ⟨_, J8 ok, rfl, ⟨d, hd⟩, w.heap.size, (a.eval x).cells, t, (0, 0), [], (a.eval x).cells.toList, [], rfl, heap_alloc_new w _, ⟨.inl rfl, Rep.ones ok h2⟩, by simp, rfl, Rep.mono (fun _ _ h => h) (JdV ok hi hn) _ _ _ h2, (fun hh => by cases hh), (fun _ => JkD ok hi), by simp⟩
 · simp only [Jg]
   exact ⟨_, _, 0, t, J8 ok, rfl, by simp [Root.place, Qv], by simp⟩
theorem JcM {t x id p ent via v} (ho : o.op = .load t x) (hx : rd x = .ptr id p) (he : h id = some ent) (hg : ent.get τ p = some (t, via, v)) : JR τ P o rd h v [] := by
 intro im ow a w hop hi
 have h1 := hop x (by simp [ho, Op.operands])
 rw [hx] at h1
 simp only [Jg] at h1
 obtain ⟨loc, b, off, ty, g1, g2, g3, g4⟩ := h1
 obtain ⟨rfl, ⟨d, hd⟩, cells, el, fr, pre, mid, post, m1, m2, m3, m4, m5, m6, _⟩ := JkC ok (hi.ent id ent he) g1 g2 hg g3
 refine ⟨J5 (τ.agg t) mid, w, im, ow, .inl ?_, Good.refl hi rfl, Rep.toV ok hd m6⟩
 simp [execOp, ho, g4, Instr.loadAt, Instr.sureAddr, WA ok hd m1 m3 m5 m4]
theorem JkE {t x v} (ho : o.op = .load t x) (hx : rd x = .rp t v) (hd : ∃ d, τ.und t = some d) : JR τ P o rd h v [] := by
 intro im ow a w hop hi
 obtain ⟨d, hd⟩ := hd
 have h1 := hop x (by simp [ho, Op.operands])
 rw [hx] at h1
 simp only [Jg] at h1
 obtain ⟨⟨b, off, sp⟩, cells, el, fr, pre, mid, post, g1, g2, g3, g4, g5, g6⟩ := h1
 simp only at g2 g3 g5; subst g2
 have hlen := Rep.len ok _ _ _ ⟨d, hd⟩ g6
 refine ⟨J5 (τ.agg t) mid, w, im, ow, .inl ?_, Good.refl hi rfl, (Rep.toV ok hd g6).up⟩
 simp [execOp, ho, g1, Instr.loadAt, Instr.sureAddr, WA ok hd (hi.imOk _ _ g3) g4 hlen g5]
theorem JkF {t x v} (ho : o.op = .load t x) (hx : rd x = .vr t v) (hd : ∃ d, τ.und t = some d) : JR τ P o rd h v [] := by
 intro im ow a w hop hi
 obtain ⟨d, hd⟩ := hd
 have h1 := hop x (by simp [ho, Op.operands])
 rw [hx] at h1
 simp only [Jg] at h1
 obtain ⟨⟨b, off, sp⟩, cells, el, fr, pre, mid, post, g1, g2, g3, g4, g5, g6⟩ := h1
 simp only at g2 g3 g5; subst g2
 have hlen := Rep.len ok _ _ _ ⟨d, hd⟩ g6
 refine ⟨J5 (τ.agg t) mid, w, im, ow, .inl ?_, Good.refl hi rfl, Rep.toV ok hd g6⟩
 simp [execOp, ho, g1, Instr.loadAt, Instr.sureAddr, WA ok hd (hi.imOk _ _ g3) g4 hlen g5]
end
end Go.Proofs.Ythpmachmnoljeaa.Rx
end

noncomputable section
namespace Go.Proofs.Ythpmachmnoljeaa.Rx
open Go
set_option linter.unusedVariables false

theorem Jam {h : Ents} : ∀ {U : Upd} {i : Nat}, (∀ q ∈ U, q.1 ≠ i) -> JK h U i = h i
 | [], i, _ => rfl
 | (j, e) :: r, i, hh => by
  simp only [JK]
  rw [Jam (fun q hq => hh q (List.mem_cons_of_mem _ hq))]
  have := hh (j, e) List.mem_cons_self
  simp only [JT]; rw [if_neg (fun h => this h.symm)]

section
variable {τ : Tab} {P : Program} (ok : TabOk τ P) {im im' : Im} {ow ow' : Own} {h : Ents} {w w' : World} {o : Oper} {rd : Operand -> PV}
include ok
theorem Ji6 {id : Nat} {p : List Nat} {ent : Ent} {t : TypeId} {via : Bool} {v0 y : PV} {addr u : Value} (hi : Inv τ im ow h w) (he : h id = some ent) (hf : ent.free = true) (hg : ent.get τ p = some (t, via, v0)) (hp : JkA τ ow id p addr)
  (hfit : ∀ d, τ.und t = some d -> Rep τ im ow y t u.cells.toList /\ u.cells.size = τ.siz t) (hv : ∀ fz e nl els, ent = .vec fz e nl els -> ∀ d, τ.und t = some d -> Rep τ im (vow τ e ow) y t u.cells.toList) :
  ∃ w', (Instr.storeAt t addr u).run P w = .ok () w' /\ Good τ im ow h w im ow (JT h id (ent.set p y)) w' := by
 obtain ⟨loc, b, off, ty, g1, g2, g3, rfl⟩ := hp
 obtain ⟨rfl, ⟨d, hd⟩, cells, el, fr, pre, mid, post, m1, m2, m3, m4, m5, m6, m7, m8⟩ := JkC ok (hi.ent id ent he) g1 g2 hg g3
 obtain ⟨q1, q2⟩ := hfit d hd
 obtain ⟨w', cells', k1, k2, k3⟩ := Jdc ok hd m1 m2 m3 m5 m4 q2 (Rep.ones ok q1)
 refine ⟨w', by simpa [Instr.storeAt, Instr.sureAddr] using k1, Good.write hi he hf g1 g2 k3 (m8 y _ cells' w' q1 (fun fz e nl els hx => hv _ _ _ _ hx d hd) k2 k3.at_ hf) ?_⟩
 cases ent with
 | dead => simp [Ent.free] at hf
 | box fz t v => cases p <;> simpa [Ent.set, Ent.free] using hf
 | vec fz e nl els => cases p <;> simpa [Ent.set, Ent.free] using hf
theorem JgV {t x y id p ent via v0} (ho : o.op = .store t x y) (hx : rd x = .ptr id p) (he : h id = some ent) (hbox : ∀ fz e nl els, ent ≠ .vec fz e nl els) (hg : ent.get τ p = some (t, via, v0)) (hf : ent.free = true) (hfit : Xh τ t (J0 τ t (rd y)) = true) :
  JR τ P o rd h .top [(id, ent.set p (J0 τ t (rd y)))] := by
 intro im ow a w hop hi
 have h1 := hop x (by simp [ho, Op.operands])
 rw [hx] at h1
 simp only [Jg] at h1
 have h2 := XH ok (t := t) (hop y (by simp [ho, Op.operands]))
 obtain ⟨w', k1, k2⟩ := Ji6 ok (y := J0 τ t (rd y)) (u := a.eval y) hi he hf hg h1 (fun d hd => ⟨(XO ok hd hfit h2).1, (XO ok hd hfit h2).2.1⟩) (fun fz e nl els hh => (hbox _ _ _ _ hh).elim)
 exact ⟨undef, w', im, ow, .inr ⟨by simp [execOp, ho, k1], rfl⟩, k2, by simp only [Jg]⟩
theorem Ji7 {hc : Ents} {e : TypeId} {p p' : PV} {U : Upd} (hf : Frz h hc) (hi : Inv τ im ow hc w) (hh : JcF τ e h p = some (p', U)) :
  ∃ im', Good τ im ow hc w im' ow (JK hc U) w /\ Frz h (JK hc U) /\ ∀ u d, τ.und e = some d -> Jg τ im ow p u -> Rep τ im' (vow τ e ow) p' e u.cells.toList /\ u.cells.size = τ.siz e := by
 simp only [JcF] at hh
 cases hfit : Xh τ e p with
 | false => simp [hfit] at hh
 | true =>
  simp only [hfit, cond_true] at hh
  cases hpt : τ.isPtr e with
  | true =>
   simp only [hpt, cond_true, Option.some.injEq, Prod.mk.injEq] at hh
   obtain ⟨rfl, rfl⟩ := hh
   refine ⟨im, Good.refl hi rfl, hf, fun u d hd hu => ?_⟩
   have := XO ok hd hfit hu
   simp only [vow, hpt, if_true]
   exact ⟨this.1, this.2.1⟩
  | false =>
   simp only [hpt, cond_false] at hh
   obtain ⟨im', g1, g2, g3, g4⟩ := YJ ok p p' U hc im hf hi hh
   refine ⟨im', g1, g2, fun u d hd hu => ?_⟩
   have := XO ok hd hfit hu
   simp only [vow, hpt, Bool.false_eq_true, if_false]
   exact ⟨g4 _ _ this.1, this.2.1⟩
theorem JgW {t x y id p ent via v0 y' U} (ho : o.op = .store t x y) (hx : rd x = .ptr id p) (he : h id = some ent) (hvec : ∃ fz nl els, ent = .vec fz (match ent with | .vec _ e _ _ => e | _ => 0) nl els) (hg : ent.get τ p = some (t, via, v0)) (hf : ent.free = true) (hel : JcF τ t h (J0 τ t (rd y)) = some (y', U)) (hU : ∀ q ∈ U, q.1 ≠ id)
  (hty : ∀ fz e nl els, ent = .vec fz e nl els -> ∀ ow : Own, ∀ i l, vow τ t ow i = some l -> vow τ e ow i = some l) :
  JR τ P o rd h .top (U ++ [(id, ent.set p y')]) := by
 intro im ow a w hop hi
 have h1 := hop x (by simp [ho, Op.operands])
 rw [hx] at h1
 simp only [Jg] at h1
 have h2 := XH ok (t := t) (hop y (by simp [ho, Op.operands]))
 obtain ⟨im', g1, g2, g3⟩ := Ji7 ok (Frz.refl h) hi hel
 have he' : JK h U id = some ent := by rw [Jam hU]; exact he
 have hvow : ∀ d, τ.und t = some d -> Rep τ im' ow y' t (a.eval y).cells.toList /\ (a.eval y).cells.size = τ.siz t := fun d hd => ⟨Rep.mono (fun _ _ h => h) JqT _ _ _ (g3 _ d hd h2).1, (g3 _ d hd h2).2⟩
 obtain ⟨w', k1, k2⟩ := Ji6 ok (y := y') (u := a.eval y) g1.inv he' hf hg h1 hvow (fun fz e nl els hh d hd => Rep.mono (fun _ _ h => h) (hty _ _ _ _ hh ow) _ _ _ (g3 _ d hd h2).1)
 refine ⟨undef, w', im', ow, .inr ⟨by simp [execOp, ho, k1], rfl⟩, ?_, by simp only [Jg]⟩
 rw [Wz]
 exact g1.trans k2
theorem ZR {x} (ho : o.op = .nilCheck x) (hx : (∃ id p, rd x = .ptr id p) ∨ (∃ t v, rd x = .rp t v) ∨ (∃ f b c, rd x = .fn (.func f) b c)) : JR τ P o rd h (rd x) [] := by
 have _ := ok
 intro im ow a w hop hi
 have h1 := hop x (by simp [ho, Op.operands])
 refine ⟨a.eval x, w, im, ow, .inl ?_, Good.refl hi rfl, h1⟩
 rcases hx with ⟨id, p, hx⟩ | ⟨t, v, hx⟩ | ⟨f, b, c, hx⟩ <;> rw [hx] at h1 <;> simp only [Jg] at h1
 · obtain ⟨loc, b, off, ty, _, _, _, g4⟩ := h1
   simp [execOp, ho, g4]
 · obtain ⟨ad, cells, el, fr, pre, mid, post, g1, _⟩ := h1
   simp [execOp, ho, g1]
 · obtain ⟨y, z, g1, _⟩ := h1
   simp [execOp, ho, g1]
theorem Ji8 {fn first cap} (ho : o.op = .makeFunc fn first cap) : JR τ P o rd h (.fn fn (first.toList.map rd) (cap.toList.map rd)) [] := by
 have _ := ok
 intro im ow a w hop hi
 have key : ∀ l : List Operand, (∀ x ∈ l, x ∈ o.op.operands) -> JF τ im ow (l.map rd) (l.map a.eval) := by
   intro l
   induction l with
   | nil => intro _; simp only [List.map_nil, JF]
   | cons x r ih =>
     intro hl
     simp only [List.map_cons, JF]
     exact ⟨_, _, rfl, hop x (hl x List.mem_cons_self), ih (fun y hy => hl y (List.mem_cons_of_mem _ hy))⟩
 refine ⟨.func fn (first.map a.eval) (cap.map a.eval), w, im, ow, .inl ?_, Good.refl hi rfl, ?_⟩
 · simp [execOp, ho, Instr.makeFunc]
 · simp only [Jg]
   refine ⟨_, _, rfl, ?_, ?_⟩
   · rw [Array.toList_map]; exact key _ (fun x hx => by simp [ho, Op.operands]; exact .inl (by simpa using hx))
   · rw [Array.toList_map]; exact key _ (fun x hx => by simp [ho, Op.operands]; exact .inr (by simpa using hx))
theorem Ji9 : ∀ {l : List PV} {us : List Value} {i : Nat}, JF τ im ow l us -> i < l.length -> ∃ u, us[i]? = some u /\ Jg τ im ow (l.getD i .top) u
 | [], us, i, _, hi => by simp at hi
 | p :: ps, us, 0, hr, hi => by
  have _ := ok
  simp only [JF] at hr
  obtain ⟨u, r, rfl, h1, _⟩ := hr
  exact ⟨u, rfl, by simpa using h1⟩
 | p :: ps, us, i + 1, hr, hi => by
  simp only [JF] at hr
  obtain ⟨u, r, rfl, _, h2⟩ := hr
  obtain ⟨u', g1, g2⟩ := Ji9 h2 (i := i) (by simpa using hi)
  exact ⟨u', by simpa using g1, by simpa using g2⟩
theorem JkG {x i l} (ho : o.op = .extract x i) (hx : rd x = .tup l) (hl : i < l.length) : JR τ P o rd h (l.getD i .top) [] := by
 intro im ow a w hop hi
 have h1 := hop x (by simp [ho, Op.operands])
 rw [hx] at h1
 simp only [Jg] at h1
 obtain ⟨us, g1, g2⟩ := h1
 obtain ⟨u, k1, k2⟩ := Ji9 ok g2 hl
 refine ⟨u, w, im, ow, .inl ?_, Good.refl hi rfl, k2⟩
 have : us[i]? = some u := by rw [← Array.getElem?_toList]; exact k1
 simp [execOp, ho, g1, Instr.extract, this]
theorem ZS : ∀ (p q : List Nat) (t : TypeId) (o : Nat) (ty : TypeId), Qv τ t p = some (o, ty) -> Qv τ t (p ++ q) = (Qv τ ty q).map fun r => (o + r.1, r.2)
 | [], q, t, o, ty, hp => by
  have _ := ok
  simp only [Qv, Option.some.injEq, Prod.mk.injEq] at hp
  obtain ⟨rfl, rfl⟩ := hp
  simp
 | i :: p, q, t, o, ty, hp => by
  simp only [Qv, List.cons_append] at hp ⊢
  cases hu : τ.und t with
  | none => simp [hu] at hp
  | some d =>
   rw [hu] at hp
   cases d with
   | struct fds =>
    simp only at hp ⊢
    cases hf : fds.toList[i]? with
    | none => simp [hf] at hp
    | some f =>
      simp only [hf, Option.bind_some] at hp ⊢
      cases hg : Qv τ f.type p with
      | none => simp [hg] at hp
      | some r =>
       simp only [hg, Option.map_some, Option.some.injEq, Prod.mk.injEq] at hp
       obtain ⟨h1, h2⟩ := hp
       rw [ZS p q f.type r.1 r.2 hg, ← h2]
       cases Qv τ r.2 q with
       | none => rfl
       | some r2 => simp; omega
   | array n e =>
    simp only at hp ⊢
    split at hp
    · rename_i hlt
      cases hg : Qv τ e p with
      | none => simp [hg] at hp
      | some r =>
       simp only [hg, Option.map_some, Option.some.injEq, Prod.mk.injEq] at hp
       obtain ⟨h1, h2⟩ := hp
       rw [ZS p q e r.1 r.2 hg, ← h2, if_pos hlt]
       cases Qv τ r.2 q with
       | none => rfl
       | some r2 => simp; omega
    · cases hp
   | _ => simp at hp
theorem Jf1 {root : Root} {p : List Nat} {o : Nat} {ty : TypeId} (q : List Nat) (hp : root.place τ p = some (o, ty)) : root.place τ (p ++ q) = (Qv τ ty q).map fun r => (o + r.1, r.2) := by
 cases root with
 | box t => simp only [Root.place] at hp ⊢; exact ZS ok p q t o ty hp
 | vec e L nl =>
  cases p with
  | nil => simp [Root.place] at hp
  | cons i p =>
   simp only [Root.place, List.cons_append] at hp ⊢
   split at hp
   · rename_i hlt
     cases hg : Qv τ e p with
     | none => simp [hg] at hp
     | some r =>
      simp only [hg, Option.map_some, Option.some.injEq, Prod.mk.injEq] at hp
      obtain ⟨h1, h2⟩ := hp
      rw [ZS ok p q e r.1 r.2 hg, ← h2, if_pos hlt]
      cases Qv τ r.2 q with
      | none => rfl
      | some r2 => simp; omega
   · cases hp
theorem JEL {i : Nat} {x : Ent} {loc : Loc} {p : List Nat} {u : TypeId} {off : Nat} {ty : TypeId} (hx : EntRep τ im ow i x w) (hl : ow i = some loc) (hu : x.ty τ p = some u) (ha : loc.root.place τ p = some (off, ty)) : u = ty /\ ∃ d, τ.und ty = some d := by
 obtain ⟨loc', h1, h2⟩ := hx
 rw [hl] at h1; obtain rfl := Option.some.inj h1
 cases x with
 | dead => simp [Ent.ty] at hu
 | box fz t v =>
  obtain ⟨g1, g2, _⟩ := h2
  rw [g1] at ha
  simp only [Root.place] at ha
  obtain ⟨q1, _, q3⟩ := Y0 ok p t off ty g2 ha
  have : tyP τ t p = some u := by cases p <;> simpa [Ent.ty] using hu
  rw [q3] at this
  exact ⟨(Option.some.inj this).symm, q1⟩
 | vec fz t nl els =>
  cases p with
  | nil => simp [Ent.ty] at hu
  | cons j p =>
   obtain ⟨g1, g2, _⟩ := h2
   rw [g1] at ha
   simp only [Root.place] at ha
   split at ha
   · cases ho : Qv τ t p with
     | none => simp [ho] at ha
     | some r =>
      simp only [ho, Option.map_some, Option.some.injEq, Prod.mk.injEq] at ha
      obtain ⟨q1, _, q3⟩ := Y0 ok p t r.1 r.2 g2 ho
      simp only [Ent.ty, q3, Option.some.injEq] at hu
      exact ⟨by rw [← hu, ha.2], by rw [← ha.2]; exact q1⟩
   · cases ha
theorem JkH {id : Nat} {p : List Nat} {t : TypeId} {u : Value} (hi : Inv τ im ow h w) (hp : ZK τ h id p t = true) (hr : JkA τ ow id p u) :
  ∃ loc b off, ow id = some loc /\ loc.blk = some b /\ loc.root.place τ p = some (off, t) /\ u = .pointer (some ⟨b, loc.base + off, none⟩) /\ ∃ d, τ.und t = some d := by
 obtain ⟨loc, b, off, ty, g1, g2, g3, g4⟩ := hr
 simp only [ZK] at hp
 cases he : h id with
 | none => simp [he] at hp
 | some e =>
  simp only [he] at hp
  cases ht : e.ty τ p with
  | none => simp [ht] at hp
  | some u =>
   simp only [ht, beq_iff_eq] at hp
   subst hp
   obtain ⟨rfl, k⟩ := JEL ok (hi.ent id e he) g1 ht g3
   exact ⟨loc, b, off, g1, g2, g3, g4, k⟩
theorem ZT {f : Field} {b off : Nat} (hd : ∃ d, τ.und f.type = some d) : (fieldPlace ⟨b, off, none⟩ f).run P w = .ok ⟨b, off + f.offset, none⟩ w := by
 obtain ⟨d, hd⟩ := hd
 have := ok.pos _ _ hd
 have h0 : τ.siz f.type ≠ 0 := by omega
 simp [fieldPlace, Qb ok hd, h0, Qn]
theorem Jb3 {t x i id p fds} (ho : o.op = .fieldAddr t x i) (hx : rd x = .ptr id p) (hu : τ.und t = some (.struct fds)) (hp : ZK τ h id p t = true) (hlt : i < fds.size) : JR τ P o rd h (.ptr id (p ++ [i])) [] := by
 intro im ow a w hop hi
 have h1 := hop x (by simp [ho, Op.operands])
 rw [hx] at h1
 simp only [Jg] at h1
 obtain ⟨loc, b, off, g1, g2, g3, g4, _⟩ := JkH ok hi hp h1
 have hf : fds[i]? = some fds[i] := Array.getElem?_eq_getElem hlt
 have hf2 : fds.toList[i]? = some fds[i] := by rw [Array.getElem?_toList]; exact hf
 have hfd := (Jai ok _ _ _ _ _ (ok.str t fds hu).1 hf2).1
 refine ⟨.pointer (some ⟨b, loc.base + off + fds[i].offset, none⟩), w, im, ow, .inl ?_, Good.refl hi rfl, ?_⟩
 · simp [execOp, ho, Instr.fieldAt, Jx ok hu, hf, g4, Instr.sureAddr, ZT ok hfd]
 · simp only [Jg]
   refine ⟨loc, b, off + fds[i].offset, fds[i].type, g1, g2, ?_, by rw [Nat.add_assoc]⟩
   rw [Jf1 ok [i] g3]
   simp [Qv, hu, hf]
theorem Jdd {t x i v fds f} (ho : o.op = .fieldAddr t x i) (hx : rd x = .rp t v) (hu : τ.und t = some (.struct fds)) (hf : fds.toList[i]? = some f) : JR τ P o rd h (.rp f.type (v.child i)) [] := by
 intro im ow a w hop hi
 have h1 := hop x (by simp [ho, Op.operands])
 rw [hx] at h1
 simp only [Jg] at h1
 obtain ⟨⟨b, off, sp⟩, cells, el, fr, pre, mid, post, g1, g2, g3, g4, g5, g6⟩ := h1
 simp only at g2 g3 g5; subst g2
 have hf2 : fds[i]? = some f := by rw [← Array.getElem?_toList]; exact hf
 have hfd := (Jai ok _ _ _ _ _ (ok.str t fds hu).1 hf).1
 have hoff : Qv τ t [i] = some (f.offset, f.type) := by simp [Qv, hu, hf2]
 obtain ⟨pre2, mid2, post2, rfl, k1, k2, _⟩ := Rep.nav ok [i] t v mid _ _ ⟨_, hu⟩ g6 hoff
 refine ⟨.pointer (some ⟨b, off + f.offset, none⟩), w, im, ow, .inl ?_, Good.refl hi rfl, ?_⟩
 · simp [execOp, ho, Instr.fieldAt, Jx ok hu, hf2, g1, Instr.sureAddr, ZT ok hfd]
 · simp only [Jg]
   exact ⟨_, cells, el, fr, pre ++ pre2, mid2, post2 ++ post, rfl, rfl, g3, by rw [g4]; simp, by simp [g5, k1], by simpa only [Jr] using k2⟩
theorem YK {t d} (hd : τ.und t = some d) {cs : Array Value} {off : Nat} {pre mid post : List Value} (hc : cs.toList = pre ++ mid ++ post) (hm : mid.length = τ.siz t) (ho : pre.length = off) : (part t cs off).run P w = .ok (J5 (τ.agg t) mid) w := by
 subst ho
 simp only [part, Sem.run_bind, Jn6 ok hd, Result.andThen_ok]
 cases ha : τ.agg t with
 | true =>
  simp only [if_true, Sem.run_bind, Qb ok hd, Result.andThen_ok, Sem.run_pure, J5]
  congr 2
  apply Array.ext'
  rw [Array.toList_extract, hc, ← hm]
  simp
 | false =>
  have h1 := ok.one t d hd ha
  rw [h1] at hm
  match mid, hm with
  | [v], _ =>
   have : cs[pre.length]? = some v := by rw [← Array.getElem?_toList, hc]; simp
   simp [this, J5]
theorem JqW {t x i l fds} (ho : o.op = .field t x i) (hx : rd x = .st t l) (hu : τ.und t = some (.struct fds)) (hi' : i < l.length) : JR τ P o rd h (l.getD i .top) [] := by
 intro im ow a w hop hi
 have h1 := hop x (by simp [ho, Op.operands])
 rw [hx] at h1
 simp only [Jg] at h1
 obtain ⟨cs, g1, ⟨fds2, g2, g3⟩ | ⟨n, e, g2, _⟩⟩ := h1
 · rw [hu] at g2
   simp only [Option.some.injEq, TypeDesc.struct.injEq] at g2
   subst g2
   have hfo := (ok.str t fds hu).1
   have hlen := (JQ.len ok _ _ _ _ _ hfo g3).2
   have hlt : i < fds.size := by rw [← Array.length_toList, ← hlen]; exact hi'
   have hf : fds[i]? = some fds[i] := Array.getElem?_eq_getElem hlt
   have hf2 : fds.toList[i]? = some fds[i] := by rw [Array.getElem?_toList]; exact hf
   obtain ⟨pre, mid, post, k1, k2, ⟨d, k3⟩, k4, k5, _⟩ := JQ.split ok l fds.toList 0 _ cs.toList i _ hfo g3 hf2
   have hm := Rep.len ok _ _ _ ⟨d, k3⟩ k5
   refine ⟨J5 (τ.agg fds[i].type) mid, w, im, ow, .inl ?_, Good.refl hi rfl, Rep.toV ok k3 k5⟩
   simp [execOp, ho, Instr.field, Jx ok hu, hf, g1, asAgg, YK ok k3 k1 hm (by simpa using k2)]
 · rw [hu] at g2; cases g2
end
end Go.Proofs.Ythpmachmnoljeaa.Rx
end

noncomputable section
namespace Go.Proofs.Ythpmachmnoljeaa.Rx
open Go
set_option linter.unusedVariables false

section
variable {τ : Tab} {P : Program} (ok : TabOk τ P) {im im' : Im} {ow ow' : Own} {h : Ents} {w w' : World} {o : Oper} {rd : Operand -> PV}
include ok
theorem Jja {root : Root} {p : List Nat} {off : Nat} {e : TypeId} {n k : Nat} (hr : root.rowAt τ p = some (off, e, n)) (hk : k < n) : root.place τ (p ++ [k]) = some (off + k * τ.siz e, e) := by
 cases root with
 | vec e' L nl =>
  cases p with
  | cons _ _ => simp [Root.rowAt] at hr
  | nil =>
   simp only [Root.rowAt, Option.some.injEq, Prod.mk.injEq] at hr
   obtain ⟨rfl, rfl, rfl⟩ := hr
   simp [Root.place, hk, Qv]
 | box t =>
  simp only [Root.rowAt] at hr
  cases ho : Qv τ t p with
  | none => simp [ho] at hr
  | some r =>
   simp only [ho, Option.bind_some] at hr
   cases hu : τ.und r.2 with
   | none => simp [hu] at hr
   | some d =>
    rw [hu] at hr
    cases d with
    | array n2 e2 =>
     simp only [Option.some.injEq, Prod.mk.injEq] at hr
     obtain ⟨rfl, rfl, rfl⟩ := hr
     simp only [Root.place]
     rw [ZS ok p [k] t r.1 r.2 ho]
     simp [Qv, hu, hk]
    | _ => simp at hr
theorem Jde {t x y e id p off len cap k n} (ho : o.op = .indexAddr t x y) (hu : τ.und t = some (.slice e)) (hx : rd x = .ow e id p off len cap) (hy : rd y = .sc (.int k n)) (h0 : 0 <= n) (h1 : n < (len : Int)) :
   JR τ P o rd h (.ptr id (p ++ [off + n.toNat])) [] := by
 intro im ow a w hop hi
 have hx1 := hop x (by simp [ho, Op.operands])
 have hy1 := hop y (by simp [ho, Op.operands])
 rw [hx] at hx1; rw [hy] at hy1
 simp only [Jg] at hx1 hy1
 obtain ⟨d, hd⟩ := ok.sl t e hu
 obtain ⟨loc, g1, ⟨_, _, _, h4, _⟩ | ⟨b, ad, c, off2, m, a1, a2, a3, a4, a5, a6, a7, a8⟩⟩ := hx1
 · omega
 · rcases a8 with ⟨rfl, _⟩ | a8
   · refine ⟨.pointer (some ⟨b, loc.base + off2 + off * τ.siz e + n.toNat * τ.siz e, none⟩), w, im, ow, .inl ?_, Good.refl hi rfl, ?_⟩
     · simp [execOp, ho, Instr.indexAt, Jx ok hu, hy1.1, a2, asIntOf, h0, h1, Qb ok hd, Qn]
     · simp only [Jg]
       refine ⟨loc, b, off2 + (off + n.toNat) * τ.siz e, e, g1, a1, Jja ok a4 (by omega), ?_⟩
       rw [Nat.add_mul]; simp only [Nat.add_assoc]
   · omega
theorem Jdf {t x y e nl fl els k n} (ho : o.op = .indexAddr t x y) (hu : τ.und t = some (.slice e)) (hx : rd x = .ro e nl fl els) (hy : rd y = .sc (.int k n)) (h0 : 0 <= n) (h1 : n < (els.length : Int)) :
   JR τ P o rd h (.rp e (els.getD n.toNat .top)) [] := by
 intro im ow a w hop hi
 have hx1 := hop x (by simp [ho, Op.operands])
 have hy1 := hop y (by simp [ho, Op.operands])
 rw [hx] at hx1; rw [hy] at hy1
 simp only [Jg] at hx1 hy1
 obtain ⟨d, hd⟩ := ok.sl t e hu
 rcases hx1 with ⟨_, _, h4⟩ | ⟨_, ⟨b, off, sp⟩, c, g2, g3, _, g5 | ⟨s, cells, el, fr, pre, mid, post, m1, m2, m3, m4⟩⟩
 · omega
 · omega
 · simp only at s m1 m3; subst s
   obtain ⟨pre2, mid2, post2, rfl, k1, k2, _⟩ := Jm.split ok els e mid n.toNat ⟨d, hd⟩ m4 (by omega)
   refine ⟨.pointer (some ⟨b, off + n.toNat * τ.siz e, none⟩), w, im, ow, .inl ?_, Good.refl hi rfl, ?_⟩
   · simp [execOp, ho, Instr.indexAt, Jx ok hu, hy1.1, g2, asIntOf, h0, h1, Qb ok hd, Qn]
   · simp only [Jg]
     exact ⟨_, cells, el, fr, pre ++ pre2, mid2, post2 ++ post, rfl, rfl, m1, by rw [m2]; simp, by simp [m3, k1], k2⟩
theorem Jdg {t x y e els k n} (ho : o.op = .indexAddr t x y) (hu : τ.und t = some (.slice e)) (hx : rd x = .va e els) (hy : rd y = .sc (.int k n)) (h0 : 0 <= n) (h1 : n < (els.length : Int)) :
   JR τ P o rd h (.vr e (els.getD n.toNat .top)) [] := by
 intro im ow a w hop hi
 have hx1 := hop x (by simp [ho, Op.operands])
 have hy1 := hop y (by simp [ho, Op.operands])
 rw [hx] at hx1; rw [hy] at hy1
 simp only [Jg] at hx1 hy1
 obtain ⟨d, hd⟩ := ok.sl t e hu
 rcases hx1 with ⟨h4, _⟩ | ⟨_, ⟨b, off, sp⟩, c, g2, g3, _, g5 | ⟨s, cells, el, fr, pre, mid, post, m1, m2, m3, m4⟩⟩
 · cases h4
 · omega
 · simp only at s m1 m3; subst s
   obtain ⟨pre2, mid2, post2, rfl, k1, k2, _⟩ := Jm.split ok els e mid n.toNat ⟨d, hd⟩ m4 (by omega)
   refine ⟨.pointer (some ⟨b, off + n.toNat * τ.siz e, none⟩), w, im, ow, .inl ?_, Good.refl hi rfl, ?_⟩
   · simp [execOp, ho, Instr.indexAt, Jx ok hu, hy1.1, g2, asIntOf, h0, h1, Qb ok hd, Qn]
   · simp only [Jg]
     exact ⟨_, cells, el, fr, pre ++ pre2, mid2, post2 ++ post, rfl, rfl, m1, by rw [m2]; simp, by simp [m3, k1], k2⟩
theorem Jb4 {t x y m e id p k n} (ho : o.op = .indexAddr t x y) (hu : τ.und t = some (.array m e)) (hx : rd x = .ptr id p) (hp : ZK τ h id p t = true) (hm : 1 < m) (hy : rd y = .sc (.int k n)) (h0 : 0 <= n) (h1 : n < (m : Int)) :
   JR τ P o rd h (.ptr id (p ++ [n.toNat])) [] := by
 intro im ow a w hop hi
 have hx1 := hop x (by simp [ho, Op.operands])
 have hy1 := hop y (by simp [ho, Op.operands])
 rw [hx] at hx1; rw [hy] at hy1
 simp only [Jg] at hx1 hy1
 obtain ⟨d, hd⟩ := (ok.arr t m e hu).2
 obtain ⟨loc, b, off, g1, g2, g3, g4, _⟩ := JkH ok hi hp hx1
 refine ⟨.pointer (some ⟨b, loc.base + off + n.toNat * τ.siz e, none⟩), w, im, ow, .inl ?_, Good.refl hi rfl, ?_⟩
 · simp [execOp, ho, Instr.indexAt, Jx ok hu, hy1.1, g4, asIntOf, Instr.sureAddr, h0, h1, Qb ok hd, Qn]
 · simp only [Jg]
   refine ⟨loc, b, off + n.toNat * τ.siz e, e, g1, g2, ?_, by rw [Nat.add_assoc]⟩
   rw [Jf1 ok [n.toNat] g3]
   have : n.toNat < m := by omega
   simp [Qv, hu, this]
theorem JgX {t x y m e k n} (ho : o.op = .index t x y) (hu : τ.und t = some (.array m e)) (hx : Xh τ t (rd x) = true) (hy : rd y = .sc (.int k n)) (h0 : 0 <= n) (h1 : n < (m : Int)) :
   JR τ P o rd h ((rd x).child n.toNat) [] := by
 intro im ow a w hop hi
 have hx1 := hop x (by simp [ho, Op.operands])
 have hy1 := hop y (by simp [ho, Op.operands])
 rw [hy] at hy1
 simp only [Jg] at hy1
 obtain ⟨d, hd⟩ := (ok.arr t m e hu).2
 obtain ⟨q1, q2, q3⟩ := XO ok hu hx hx1
 have hagg : τ.agg t = true := by simp [Tab.agg, hu]
 have hoff : Qv τ t [n.toNat] = some (n.toNat * τ.siz e, e) := by
   have : n.toNat < m := by omega
   simp [Qv, hu, this]
 obtain ⟨pre, mid, post, k1, k2, k3, _⟩ := Rep.nav ok [n.toNat] t (rd x) _ _ _ ⟨_, hu⟩ q1 hoff
 have hm := Rep.len ok _ _ _ ⟨d, hd⟩ k3
 have hv : a.eval x = .agg (a.eval x).cells := by
   rw [hagg] at q3; rw [← q3]; simp [J5, Value.cells]
 refine ⟨J5 (τ.agg e) mid, w, im, ow, .inl ?_, Good.refl hi rfl, ?_⟩
 · obtain ⟨cs, hcs⟩ : ∃ cs, a.eval x = .agg cs := ⟨_, hv⟩
   rw [hcs] at k1
   have hrun := YK ok (w := w) hd (cs := cs) k1 hm k2
   simp [execOp, ho, Instr.index, hy1.1, asIntOf, hcs, Jx ok hu, h0, h1, Qb ok hd, hrun]
 · simpa only [Jr] using Rep.toV ok hd k3
theorem JgY {t x y k n} (ho : o.op = .index t x y) (hu : τ.und t = some .string) (hx : (rd x).isStr = true) (hy : rd y = .sc (.int k n)) (h0 : 0 <= n) (h1 : n < ((rd x).str.size : Int)) :
   JR τ P o rd h (.sc (.int .u8 (((rd x).str.data.toList.getD n.toNat 0).toNat : Int))) [] := by
 intro im ow a w hop hi
 have hx1 := hop x (by simp [ho, Op.operands])
 have hy1 := hop y (by simp [ho, Op.operands])
 rw [hy] at hy1
 rw [QJ hx] at hx1
 simp only [Jg] at hx1 hy1
 have hlt : n.toNat < (rd x).str.size := by omega
 have hget : (rd x).str[n.toNat]? = some ((rd x).str[n.toNat]) := getElem?_pos (rd x).str n.toNat hlt
 have hval : (rd x).str.data.toList.getD n.toNat 0 = (rd x).str[n.toNat] := by
   have hl : n.toNat < (rd x).str.data.toList.length := hlt
   rw [List.getD_eq_getElem?_getD, List.getElem?_eq_getElem hl]
   rfl
 refine ⟨.int .u8 (((rd x).str[n.toNat]).toNat : Int), w, im, ow, .inl ?_, Good.refl hi rfl, ?_⟩
 · simp [execOp, ho, Instr.index, hy1.1, asIntOf, Jx ok hu, hx1.1, h0, hget]
 · simp only [Jg, hval]; exact ⟨trivial, rfl⟩
end
end Go.Proofs.Ythpmachmnoljeaa.Rx
end

