/- The abstract evaluator "EA": values, objects, code and their evaluation, without the model's worlds. Conditions: none (definitions). -/
import GoSem.Core.View
import GoSem.Core.Ast
import GoSem.Core.Utf8
import GoSem.Op.String
namespace Go.EA

/-- What one cell holds. Addresses are abstract: an object's number, an element in it, a cell in the element. -/
inductive Lf where
  | int (k : IntKind) (n : Int)
  | bool (b : Bool)
  | str (s : List UInt8)
  | ptr (b i j : Nat)
  | nilp
  | sl (b i n : Nat)
  | slz
  | nils
  | fn (f : Nat) (cap : List (Nat × Nat × Nat))
  | yld (l : Nat)
  | nilf
  | mp (m : Nat)
  | nilm
  | nili
  /-- A slice whose elements (of s cells each) stay as they are; it may be nil where it has none. -/
  | vrow (s : Nat) (els : List (List Lf))
  /-- A pointer to cells that stay as they are. -/
  | vptr (cs : List Lf)
  deriving Inhabited

/-- A value: one cell, a struct's or an array's cells, several results. -/
inductive AV where
  | one (x : Lf)
  | agg (cs : List Lf)
  | tup (vs : List AV)
  deriving Inhabited

def und : AV := .tup []
/-- Whatever it is. -/
def junk : AV := .tup [.tup []]
def AV.isJ : AV → Bool
  | .tup [.tup _] => true
  | _ => false
/-- Are two numbers, bools, texts the same? -/
def Lf.same : Lf → Lf → Bool
  | .int k a, .int k' b => decide (k = k') && decide (a = b)
  | .bool a, .bool b => decide (a = b)
  | .str a, .str b => decide (a = b)
  | _, _ => false
def sameL : List Lf → List Lf → Bool
  | [], [] => true
  | x :: r, y :: l => Lf.same x y && sameL r l
  | _, _ => false

def AV.cells? : AV → Option (List Lf)
  | .one x => some [x]
  | .agg cs => some cs
  | .tup _ => none

/-- A temporary, a constant. -/
inductive Opd where
  | t (n : Nat)
  | c (v : AV)
  deriving Inhabited

/-- A cell's sort, of those that may be held against each other. -/
inductive PK where
  | bool | int (k : IntKind) | str
  deriving DecidableEq, Inhabited

/-- Which '==' this is: two bools; a pointer, slice, function, map, one side nil; two structs of numbers, bools, texts. -/
inductive EqK where
  | bool | ptr | slc | fnc | map | cells (ks : List PK)
  deriving DecidableEq, Inhabited

/-- Whose length, or what is cut. -/
inductive LenK where
  | str | slc | map
  deriving DecidableEq, Inhabited

inductive AOp where
  | mov (x : Opd)
  | bin (op : BinOp) (x y : Opd)
  | eqv (k : EqK) (neg : Bool) (x y : Opd)
  | un (op : UnOp) (x : Opd)
  | wrapI (k : IntKind) (x : Opd)
  | s2b (x : Opd)
  | b2s (x : Opd)
  | i2s (x : Opd)
  | s2s (x : Opd)
  | pick (c a b : Opd)
  | new (z : List Lf)
  | box (x : Opd)
  | build (z : List Lf) (parts : List (Nat × Nat × Opd))
  | rowLit (s : Nat) (z : List Lf) (n : Nat) (parts : List (Nat × Opd))
  | load (ag : Bool) (n : Nat) (a : Opd)
  | store (n : Nat) (a x : Opd)
  | nilck (x : Opd)
  | faddr (off : Nat) (x : Opd)
  | fld (ag : Bool) (off n : Nat) (x : Opd)
  | iaddr (s : Nat) (x i : Opd)
  | aaddr (len s : Nat) (x i : Opd)
  | sidx (x i : Opd)
  | aidx (ag : Bool) (len s : Nat) (x i : Opd)
  | slice (k : LenK) (s : Nat) (x : Opd) (lo hi mx : Option Opd)
  | mksl (s : Nat) (z : List Lf) (bytes : Nat) (len cap : Opd)
  | mkfn (f : Nat) (caps : List Opd)
  | mkmap
  | lookup (z : Lf) (x k : Opd) (ok : Bool)
  | mapset (m k v : Opd)
  | rng (x : Opd)
  | nxt (x : Opd)
  | ext (x : Opd) (i : Nat)
  | len (k : LenK) (x : Opd)
  | app (s bytes : Nat) (x y : Opd)
  | best (mx : Bool) (xs : List Opd)
  | call (f : Opd) (xs : List Opd)
  deriving Inhabited

structure AI where
  dst : Option Nat
  op : AOp
  gd : Option (Nat × Bool)
  deriving Inhabited

inductive AC where
  | skip
  | reg (ops : List AI)
  | dreg (ops : List AI)
  | seq (a b : AC)
  | cond (c : Opd) (t e : AC)
  | block (id : Nat) (b : AC)
  | loop (b : AC)
  | rangeF (f : Opd) (ps : List Nat) (as bd : AC)
  | exit (id : Nat)
  | ret
  deriving Inhabited

/-- How code is left. -/
inductive Ex where
  | normal
  | exit (id : Nat)
  | ret
  deriving DecidableEq, Inhabited

inductive LSt where
  | ready | busy | done | exhausted
  deriving DecidableEq, Inhabited

abbrev Tm := Nat → AV

/-- An object. 'blk': how many cells an element has, the elements, and whether it is the call's own. -/
inductive AO where
  | blk (s : Nat) (els : List (List Lf)) (own : Bool)
  | dead
  | map (es : List (Lf × Lf))
  | siter (s : List UInt8) (pos : Nat)
  | bld (s : List UInt8)
  | loop (st : LSt) (pend : Option Ex) (T : Tm) (ps : List Nat) (as bd : AC)
  deriving Inhabited

structure Heap where
  n : Nat
  o : Nat → AO

def put {α : Type} (f : Nat → α) (i : Nat) (v : α) : Nat → α := fun j => if j = i then v else f j

def Heap.push (H : Heap) (x : AO) : Heap := ⟨H.n + 1, put H.o H.n x⟩
def Heap.set (H : Heap) (i : Nat) (x : AO) : Heap := ⟨H.n, put H.o i x⟩

def putT (T : Tm) (d : Option Nat) (v : AV) : Tm :=
  match d with
  | some d => put T d v
  | none => T

def Opd.ev (T : Tm) : Opd → AV
  | .t n => T n
  | .c v => v

/-! ### Pure operations -/

def bitsOp (op : BinOp) (k : IntKind) (x y : Int) : Option Int :=
  let a := BitVec.ofInt k.bits x
  let b := BitVec.ofInt k.bits y
  match op with
  | .and => some (k.wrap (a &&& b).toNat)
  | .or => some (k.wrap (a ||| b).toNat)
  | .xor => some (k.wrap (a ^^^ b).toNat)
  | .andNot => some (k.wrap (a &&& ~~~b).toNat)
  | _ => none

def evInt (op : BinOp) (k : IntKind) (x y : Int) : Option AV :=
  match op with
  | .add => some (.one (.int k (k.wrap (x + y))))
  | .sub => some (.one (.int k (k.wrap (x - y))))
  | .mul => some (.one (.int k (k.wrap (x * y))))
  | .quo => if y = 0 then none else some (.one (.int k (k.wrap (x.tdiv y))))
  | .rem => if y = 0 then none else some (.one (.int k (x.tmod y)))
  | .eql => some (.one (.bool (decide (x = y))))
  | .neq => some (.one (.bool (decide (x ≠ y))))
  | .lss => some (.one (.bool (decide (x < y))))
  | .leq => some (.one (.bool (decide (x ≤ y))))
  | .gtr => some (.one (.bool (decide (y < x))))
  | .geq => some (.one (.bool (decide (y ≤ x))))
  | .shl | .shr => none
  | op => (bitsOp op k x y).map fun r => .one (.int k r)

def evShift (op : BinOp) (k : IntKind) (x : Int) (y : Int) : Option AV :=
  if y < 0 then none else
  match op with
  | .shl => some (.one (.int k (k.wrap (x * 2 ^ (min y.toNat k.bits)))))
  | .shr => some (.one (.int k (x.fdiv (2 ^ (min y.toNat k.bits)))))
  | _ => none

/-- 'a' comes ahead of 'b', by bytes. -/
abbrev sless (a b : List UInt8) : Bool := Op.bytesLess a b

def evStr (op : BinOp) (a b : List UInt8) : Option AV :=
  match op with
  | .add => if a.length + b.length ≤ 9223372036854775807 then some (.one (.str (a ++ b))) else none
  | .eql => some (.one (.bool (decide (a = b))))
  | .neq => some (.one (.bool (decide (a ≠ b))))
  | .lss => some (.one (.bool (sless a b)))
  | .leq => some (.one (.bool (sless a b || decide (a = b))))
  | .gtr => some (.one (.bool (!(sless a b || decide (a = b)))))
  | .geq => some (.one (.bool (!sless a b)))
  | _ => none

/-- Are these cells of these sorts? -/
def okCells : List PK → List Lf → Bool
  | [], [] => true
  | .int k :: ks, .int k' _ :: cs => k == k' && okCells ks cs
  | .bool :: ks, .bool _ :: cs => okCells ks cs
  | .str :: ks, .str _ :: cs => okCells ks cs
  | _, _ => false
def eqNil : EqK → Lf → Lf → Option Bool
  | .ptr, .nilp, .nilp => some true
  | .ptr, .ptr _ _ _, .nilp | .ptr, .nilp, .ptr _ _ _ => some false
  | .slc, .nils, .nils => some true
  | .slc, .sl _ _ _, .nils | .slc, .nils, .sl _ _ _ => some false
  | .slc, .vrow _ (_ :: _), .nils | .slc, .nils, .vrow _ (_ :: _) => some false
  | .ptr, .vptr _, .nilp | .ptr, .nilp, .vptr _ => some false
  | .fnc, .nilf, .nilf => some true
  | .fnc, .fn _ _, .nilf | .fnc, .nilf, .fn _ _ => some false
  | .map, .nilm, .nilm => some true
  | .map, .mp _, .nilm | .map, .nilm, .mp _ => some false
  | .bool, .bool a, .bool b => some (decide (a = b))
  | _, _, _ => none
def evEq (k : EqK) (neg : Bool) (x y : AV) : Option AV :=
  match k, x, y with
  | .cells ks, .agg a, .agg b =>
    if okCells ks a && okCells ks b then some (.one (.bool (if neg then !sameL a b else sameL a b))) else none
  | k, .one a, .one b => (eqNil k a b).map fun r => .one (.bool (if neg then !r else r))
  | _, _, _ => none

def evBin (op : BinOp) (x y : AV) : Option AV :=
  match x, y with
  | .one (.int k a), .one (.int k' b) =>
    match op with
    | .shl => evShift .shl k a b
    | .shr => evShift .shr k a b
    | op => if k = k' then evInt op k a b else none
  | .one (.str a), .one (.str b) => evStr op a b
  | _, _ => none

def evUn (op : UnOp) (x : AV) : Option AV :=
  match op, x with
  | .neg, .one (.int k n) => some (.one (.int k (k.wrap (0 - n))))
  | .xor, .one (.int k n) => (bitsOp .xor k (if k.signed then -1 else k.max) n).map fun r => .one (.int k r)
  | .not, .one (.bool b) => some (.one (.bool (!b)))
  | _, _ => none

/-- The cells of a struct's parts laid into its zero cells. -/
def fillC (T : Tm) : List Lf → List (Nat × Nat × Opd) → Option (List Lf)
  | cs, [] => some cs
  | cs, (off, n, x) :: r =>
    match (x.ev T).cells? with
    | some p => if p.length = n ∧ off + n ≤ cs.length then fillC T (cs.take off ++ p ++ cs.drop (off + p.length)) r else none
    | none => none

def fillE (T : Tm) (s : Nat) : List (List Lf) → List (Nat × Opd) → Option (List (List Lf))
  | es, [] => some es
  | es, (i, x) :: r =>
    match (x.ev T).cells? with
    | some p => if i < es.length ∧ p.length = s then fillE T s (es.set i p) r else none
    | none => none

def asOne (ag : Bool) (cs : List Lf) : Option AV :=
  if ag then some (.agg cs) else
  match cs with
  | [x] => some (.one x)
  | _ => none

/-- What lies at an address: n cells. -/
def Heap.cells (H : Heap) (b i j n : Nat) : Option (List Lf) :=
  match H.o b with
  | .blk _ els _ =>
    match els[i]? with
    | some e => if j + n ≤ e.length then some ((e.drop j).take n) else none
    | none => none
  | _ => none

def Heap.storeC (H : Heap) (b i j : Nat) (p : List Lf) : Option Heap :=
  match H.o b with
  | .blk s els true =>
    match els[i]? with
    | some e => if j + p.length ≤ e.length then some (H.set b (.blk s (els.set i (e.take j ++ p ++ e.drop (j + p.length))) true)) else none
    | none => none
  | _ => none

/-- The elements (of s cells each) that a slice shows. -/
def Heap.row (H : Heap) (s : Nat) : Lf → Option (List (List Lf))
  | .nils | .slz => some []
  | .vrow s' els => if s' = s then some els else none
  | .sl b i n =>
    match H.o b with
    | .blk s' els _ => if s' = s ∧ i + n ≤ els.length then some ((els.drop i).take n) else none
    | _ => none
  | _ => none

def idx? : AV → Option Nat
  | .one (.int _ n) => if 0 ≤ n then some n.toNat else none
  | _ => none

def bound (T : Tm) (d : Nat) : Option Opd → Option Nat
  | none => some d
  | some x => idx? (x.ev T)

/-- Is it a block of elements of s cells? -/
def Heap.isBlk (H : Heap) (s b : Nat) : Bool :=
  match H.o b with
  | .blk s' _ _ => s' == s
  | _ => false

def evSlice (T : Tm) (H : Heap) (k : LenK) (s : Nat) (x : AV) (lo hi mx : Option Opd) : Option AV :=
  match k, x with
  | .str, .one (.str s) =>
    match mx, bound T 0 lo, bound T s.length hi with
    | none, some l, some h => if l ≤ h ∧ h ≤ s.length then some (.one (.str ((s.drop l).take (h - l)))) else none
    | _, _, _ => none
  | .slc, .one (.sl b i n) =>
    if H.isBlk s b then
      match bound T 0 lo, bound T n hi, mx with
      | some l, some h, none => if l ≤ h ∧ h ≤ n then some (.one (.sl b (i + l) (h - l))) else none
      | some l, some h, some m =>
        match idx? (m.ev T) with
        | some m => if l ≤ h ∧ h ≤ m ∧ m ≤ n then (if m = l then some (.one .slz) else some (.one (.sl b (i + l) (h - l)))) else none
        | none => none
      | _, _, _ => none
    else none
  | .slc, .one (.vrow s' els) =>
    if s' = s then
      match bound T 0 lo, bound T els.length hi, mx with
      | some l, some h, none => if l ≤ h ∧ h ≤ els.length then some (.one (.vrow s ((els.drop l).take (h - l)))) else none
      | some l, some h, some m =>
        match idx? (m.ev T) with
        | some m => if l ≤ h ∧ h ≤ m ∧ m ≤ els.length then (if m = l then some (.one .slz) else some (.one (.vrow s ((els.drop l).take (h - l))))) else none
        | none => none
      | _, _, _ => none
    else none
  | .slc, .one .nils =>
    match bound T 0 lo, bound T 0 hi, mx with
    | some 0, some 0, none => some (.one .nils)
    | some 0, some 0, some m => if idx? (m.ev T) = some 0 then some (.one .nils) else none
    | _, _, _ => none
  | .slc, .one .slz =>
    match bound T 0 lo, bound T 0 hi, mx with
    | some 0, some 0, none => some (.one .slz)
    | some 0, some 0, some m => if idx? (m.ev T) = some 0 then some (.one .slz) else none
    | _, _, _ => none
  | _, _ => none

def roomB : Nat := 140737488355328

/-- What 'append' is given behind, as elements. -/
def srcRow (H : Heap) (s : Nat) : AV → Option (List (List Lf))
  | .one (.str b) => if s = 1 then some (b.map fun c => [Lf.int .u8 c.toNat]) else none
  | .one y => H.row s y
  | _ => none

/-- append: the new value and heap. -/
def evApp (H : Heap) (s bytes : Nat) (x y : AV) : Option (AV × Heap) :=
  match srcRow H s y with
  | none => none
  | some [] => match x with
    | .one .nils | .one .slz | .one (.sl _ _ _) | .one (.vrow _ _) => some (x, H)
    | _ => none
  | some (e :: es) => match x with
    | .one .nils | .one .slz =>
      if (es.length + 1) * bytes ≤ roomB then some (.one (.sl H.n 0 (es.length + 1)), H.push (.blk s (e :: es) true)) else none
    | .one (.sl b i n) =>
      match H.o b with
      | .blk s' els true =>
        if s' = s ∧ i + n ≤ els.length ∧ (n + (es.length + 1)) * bytes ≤ roomB then
          some (.one (.sl H.n 0 (n + (es.length + 1))), (H.set b .dead).push (.blk s ((els.drop i).take n ++ e :: es) true))
        else none
      | _ => none
    | _ => none

def mapGet (es : List (Lf × Lf)) (k : Lf) : Option Lf := (es.find? fun e => Lf.same e.1 k).map (·.2)
def mapPut (es : List (Lf × Lf)) (k v : Lf) : List (Lf × Lf) :=
  if es.any (fun e => Lf.same e.1 k) then es.map fun e => if Lf.same e.1 k then (k, v) else e else es ++ [(k, v)]
/-- What may be a key here. -/
def keyOk : Lf → Bool
  | .int _ _ | .bool _ | .str _ => true
  | _ => false

def best2 (mx : Bool) (x y : AV) : Option AV :=
  match x, y with
  | .one (.int k a), .one (.int _ b) => some (.one (.int k (if mx then (if a < b then b else a) else (if b < a then b else a))))
  | _, _ => none
def bestL (mx : Bool) : AV → List AV → Option AV
  | x, [] => some x
  | x, y :: r => (best2 mx x y).bind fun z => bestL mx z r

def toBytes : List (List Lf) → Option (List UInt8)
  | [] => some []
  | [.int .u8 n] :: r => (toBytes r).map fun s => UInt8.ofNat n.toNat :: s
  | _ => none

/-- A captured variable's place. -/
def capOf : AV → Option (Nat × Nat × Nat)
  | .one (.ptr b i j) => some (b, i, j)
  | _ => none

/-- One operation that is no call. -/
def evOp (T : Tm) (H : Heap) : AOp → Option (AV × Heap)
  | .mov x => some (x.ev T, H)
  | .bin op x y => (evBin op (x.ev T) (y.ev T)).map (·, H)
  | .eqv k neg x y => (evEq k neg (x.ev T) (y.ev T)).map (·, H)
  | .un op x => (evUn op (x.ev T)).map (·, H)
  | .wrapI k x => match x.ev T with
    | .one (.int _ n) => some (.one (.int k (k.wrap n)), H)
    | _ => none
  | .s2b x => match x.ev T with
    | .one (.str s) => some (.one (.sl H.n 0 s.length), H.push (.blk 1 (s.map fun b => [.int .u8 b.toNat]) true))
    | _ => none
  | .b2s x => match x.ev T with
    | .one v => ((H.row 1 v).bind toBytes).map fun s => (.one (.str s), H)
    | _ => none
  | .i2s x => match x.ev T with
    | .one (.int _ n) => some (.one (.str (Utf8.encode n).toList), H)
    | _ => none
  | .s2s x => match x.ev T with
    | .one (.str s) => some (.one (.str s), H)
    | _ => none
  | .pick c a b => match c.ev T with
    | .one (.bool t) => some (if t then a.ev T else b.ev T, H)
    | _ => none
  | .new z => some (.one (.ptr H.n 0 0), H.push (.blk z.length [z] true))
  | .box x => match (x.ev T).cells? with
    | some p => some (.one (.ptr H.n 0 0), H.push (.blk p.length [p] true))
    | none => none
  | .build z parts => (fillC T z parts).map fun cs => (.agg cs, H)
  | .rowLit s z n parts => (fillE T s (List.replicate n z) parts).map fun es => (.one (.sl H.n 0 n), H.push (.blk s es true))
  | .load ag n a => match a.ev T with
    | .one (.ptr b i j) => ((H.cells b i j n).bind (asOne ag)).map (·, H)
    | .one (.vptr cs) => if n ≤ cs.length then (asOne ag (cs.take n)).map (·, H) else none
    | _ => none
  | .store n a x => match a.ev T, (x.ev T).cells? with
    | .one (.ptr b i j), some p => if p.length = n then (H.storeC b i j p).map (und, ·) else none
    | _, _ => none
  | .nilck x => match x.ev T with
    | .one (.ptr b i j) => some (.one (.ptr b i j), H)
    | .one (.vptr cs) => some (.one (.vptr cs), H)
    | .one (.fn f c) => some (.one (.fn f c), H)
    | .one (.yld l) => some (.one (.yld l), H)
    | _ => none
  | .faddr off x => match x.ev T with
    | .one (.ptr b i j) => some (.one (.ptr b i (j + off)), H)
    | .one (.vptr cs) => some (.one (.vptr (cs.drop off)), H)
    | _ => none
  | .fld ag off n x => match x.ev T with
    | .agg cs => if off + n ≤ cs.length then (asOne ag ((cs.drop off).take n)).map (·, H) else none
    | _ => none
  | .iaddr s x i => match x.ev T, idx? (i.ev T) with
    | .one (.sl b f n), some k => if H.isBlk s b ∧ k < n then some (.one (.ptr b (f + k) 0), H) else none
    | .one (.vrow s' els), some k => if s' = s then (els[k]?).map fun e => (.one (.vptr e), H) else none
    | _, _ => none
  | .aaddr len s x i => match x.ev T, idx? (i.ev T) with
    | .one (.ptr b e j), some k => if k < len then some (.one (.ptr b e (j + k * s)), H) else none
    | .one (.vptr cs), some k => if k < len then some (.one (.vptr (cs.drop (k * s))), H) else none
    | _, _ => none
  | .sidx x i => match x.ev T, idx? (i.ev T) with
    | .one (.str s), some k => match s[k]? with
      | some c => some (.one (.int .u8 c.toNat), H)
      | none => none
    | _, _ => none
  | .aidx ag len s x i => match x.ev T, idx? (i.ev T) with
    | .agg cs, some k => if k < len ∧ k * s + s ≤ cs.length then (asOne ag ((cs.drop (k * s)).take s)).map (·, H) else none
    | _, _ => none
  | .slice k s x lo hi mx => (evSlice T H k s (x.ev T) lo hi mx).map (·, H)
  | .mksl s z bytes len cap => match idx? (len.ev T), idx? (cap.ev T) with
    | some l, some c => if l ≤ c ∧ c * bytes ≤ roomB ∧ c ≤ roomB then some (.one (.sl H.n 0 l), H.push (.blk s (List.replicate l z) true)) else none
    | _, _ => none
  | .mkfn f caps =>
    (caps.mapM fun x => capOf (x.ev T)).map fun l => (.one (.fn f l), H)
  | .mkmap => some (.one (.mp H.n), H.push (.map []))
  | .lookup z x k ok => match x.ev T, k.ev T with
    | .one (.mp m), .one k => match H.o m with
      | .map es => if keyOk k && es.all (fun e => keyOk e.1) then
          (match mapGet es k with
            | some v => some (if ok then .tup [.one v, .one (.bool true)] else .one v, H)
            | none => some (if ok then .tup [.one z, .one (.bool false)] else .one z, H))
          else none
      | _ => none
    | _, _ => none
  | .mapset m k v => match m.ev T, k.ev T, v.ev T with
    | .one (.mp m), .one k, .one v => match H.o m with
      | .map es => if keyOk k && es.all (fun e => keyOk e.1) then some (und, H.set m (.map (mapPut es k v))) else none
      | _ => none
    | _, _, _ => none
  | .rng x => match x.ev T with
    | .one (.str s) => some (.one (.ptr H.n 0 0), H.push (.siter s 0))
    | _ => none
  | .nxt x => match x.ev T with
    | .one (.ptr b 0 0) => match H.o b with
      | .siter s pos =>
        if pos < s.length then
          let d := Utf8.decode ⟨s.toArray⟩ pos
          some (.tup [.one (.bool true), .one (.int .i64 pos), .one (.int .i32 d.1)], H.set b (.siter s (pos + d.2)))
        else some (.tup [.one (.bool false)], H)
      | _ => none
    | _ => none
  | .ext x i => match x.ev T with
    | .tup vs => match vs[i]? with
      | some (.one x) => some (.one x, H)
      | some (.agg cs) => some (.agg cs, H)
      | _ => none
    | _ => none
  | .len k x => match k, x.ev T with
    | .str, .one (.str s) => some (.one (.int .i64 s.length), H)
    | .slc, .one (.sl _ _ n) => some (.one (.int .i64 n), H)
    | .slc, .one (.vrow _ els) => some (.one (.int .i64 els.length), H)
    | .slc, .one .nils | .slc, .one .slz => some (.one (.int .i64 0), H)
    | .map, .one .nilm => some (.one (.int .i64 0), H)
    | .map, .one (.mp m) => match H.o m with
      | .map es => some (.one (.int .i64 es.length), H)
      | _ => none
    | _, _ => none
  | .app s bytes x y => evApp H s bytes (x.ev T) (y.ev T)
  | .best mx xs => match xs with
    | [] => none
    | x :: r => (bestL mx (x.ev T) (r.map (·.ev T))).map (·, H)
  | .call _ _ => none

/-! ### Code -/

/-- What a function hands back: a temporary, or what lies at the address in one. -/
inductive ARes where
  | t (n : Nat)
  | cell (a : Nat) (ag : Bool) (n : Nat)

structure AF where
  np : Nat
  nt : Nat
  res : List ARes
  body : AC

def evRes1 (T : Tm) (H : Heap) : ARes → Option AV
  | .t n => some (T n)
  | .cell a ag n => match T a with
    | .one (.ptr b i j) => (H.cells b i j n).bind (asOne ag)
    | _ => none

def AV.isVal : AV → Bool
  | .tup _ => false
  | _ => true

def evResL (T : Tm) (H : Heap) : List ARes → Option (List AV)
  | [] => some []
  | r :: rs => match evRes1 T H r, evResL T H rs with
    | some v, some vs => some (v :: vs)
    | _, _ => none

def evRes (T : Tm) (H : Heap) (rs : List ARes) : Option AV :=
  match evResL T H rs with
  | some [v] => some v
  | some vs => if vs.all AV.isVal then some (.tup vs) else none
  | none => none

/-- The frame's temporaries at the beginning. -/
def args0 : List AV → Tm
  | [] => fun _ => und
  | v :: r => fun k => match k with
    | 0 => v
    | k + 1 => args0 r k

def setPs (T : Tm) : List Nat → List AV → Tm
  | p :: ps, v :: vs => setPs (put T p v) ps vs
  | _, _ => T

def wanted (T : Tm) : Option (Nat × Bool) → Bool
  | none => true
  | some (d, b) => match T d with
    | .one (.bool x) => x == b
    | _ => false

/-- Is it known whether an operation is wanted? -/
def known (T : Tm) : Option (Nat × Bool) → Bool
  | none => true
  | some (d, _) => !(T d).isJ

def evOps (call : AV → List AV → Heap → Option (AV × Heap)) : List AI → Tm → Heap → Option (Tm × Heap)
  | [], T, H => some (T, H)
  | i :: r, T, H =>
    if known T i.gd = false then none else
    if wanted T i.gd then
      match (match i.op with
        | .call f xs => call (f.ev T) (xs.map (·.ev T)) H
        | op => evOp T H op) with
      | some (v, H') => evOps call r (putT T i.dst v) H'
      | none => none
    else evOps call r (putT T i.dst und) H

structure Cx where
  ap : Nat → Option AF
  pr : Nat → Option (List AV → Heap → Option (AV × Heap))

/-- A call, 'ev' being how code is evaluated. -/
def callV (X : Cx) (ev : AC → Tm → Heap → Option (Ex × Tm × Heap)) (f : AV) (xs : List AV) (H : Heap) : Option (AV × Heap) :=
  match f with
  | .one (.fn f cap) =>
    match X.pr f with
    | some p => if cap.isEmpty then p xs H else none
    | none =>
      match X.ap f with
      | some a =>
        if xs.length + cap.length = a.np then
          match ev a.body (args0 (xs ++ cap.map fun c => .one (.ptr c.1 c.2.1 c.2.2))) H with
          | some (.ret, T, H') => (evRes T H' a.res).map (·, H')
          | some (.normal, T, H') => (evRes T H' a.res).map (·, H')
          | _ => none
        else none
      | none => none
  | .one (.yld l) =>
    match H.o l with
    | .loop .ready _ T ps as bd =>
      if xs.length = ps.length then
        match ev as (setPs T ps xs) H with
        | some (.normal, T1, H1) =>
          match H1.o l with
          | .loop .ready pend1 T0 ps1 as1 bd1 =>
            match ev bd T1 (H1.set l (.loop .busy pend1 T0 ps1 as1 bd1)) with
            | some (e, _, H2) =>
              match H2.o l with
              | .loop .busy _ T0 ps2 as2 bd2 =>
                if e = .normal then some (.one (.bool true), H2.set l (.loop .ready none T0 ps2 as2 bd2))
                else some (.one (.bool false), H2.set l (.loop .done (some e) T0 ps2 as2 bd2))
              | _ => none
            | none => none
          | _ => none
        | _ => none
      else none
    | _ => none
  | _ => none

/-- The code, with fuel. -/
def evC (X : Cx) : Nat → AC → Tm → Heap → Option (Ex × Tm × Heap)
  | 0, _, _, _ => none
  | n + 1, c, T, H =>
    match c with
    | .skip => some (.normal, T, H)
    | .reg ops | .dreg ops => (evOps (callV X (evC X n)) ops T H).map fun r => (.normal, r.1, r.2)
    | .seq a b => match evC X n a T H with
      | some (.normal, T', H') => evC X n b T' H'
      | r => r
    | .cond c t e => match c.ev T with
      | .one (.bool true) => evC X n t T H
      | .one (.bool false) => evC X n e T H
      | _ => none
    | .block id b => match evC X n b T H with
      | some (.exit id', T', H') => if id' = id then some (.normal, T', H') else some (.exit id', T', H')
      | r => r
    | .loop b => match evC X n b T H with
      | some (.normal, T', H') => evC X n (.loop b) T' H'
      | r => r
    | .rangeF f ps as bd =>
      match f.ev T with
      | .one (.fn i cap) =>
        if (X.pr i).isNone then
          match callV X (evC X n) (.one (.fn i cap)) [.one (.yld H.n)] (H.push (.loop .ready none T ps as bd)) with
          | some (_, H') =>
            match H'.o H.n with
            | .loop st pend _ _ _ _ =>
              if st = .busy then none else
              match pend with
              | none => some (.normal, T, H'.set H.n .dead)
              | some e => some (e, T, H'.set H.n .dead)
            | _ => none
          | none => none
        else none
      | _ => none
    | .exit id => some (.exit id, T, H)
    | .ret => some (.ret, T, H)

end Go.EA
