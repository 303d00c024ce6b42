/- Texts. Conditions: none. -/
import GoSem.Core.View
import GoSem.Core.Ast
import GoSem.Core.Utf8
import GoSem.Op.String
import GoSem.Core.Code
import GoSem.Core.Layout
import GoSem.Core.Region
import GoSem.Dispatch
import Derived.Laws.World
import Derived.Laws.Sem
import Derived.Laws.Cells
import Derived.Below
import Derived.Calls
import Derived.Laws.Strings
import Derived.Laws.StructEq
set_option linter.unusedVariables false
set_option linter.unusedSimpArgs false
section
namespace Go.EA
universe zu zv
theorem zA {α:Type zu}{l:List α}{i:Nat}{a:α}:l.getD i a=l[i]?.getD a:=List.getD_eq_getElem?_getD
theorem zB {α:Type zu}{l:List α}{i:Nat}(h:i<l.length):l[i]?=some l[i]:=List.getElem?_eq_getElem h
theorem zC {n m:Nat}(h:Nat.beq n m=true):n=m:=Nat.eq_of_beq_eq_true h
theorem zD {α:Type zu}{β:Type zv}{x:Option α}{f:α->β}{b:β}:Option.map f x=some b↔∃a,x=some a/\f a=b:=Option.map_eq_some_iff
theorem zF {α:Type zu}{β:Type zv}(a:α) (b:β) (c:α) (d:β):((a,b)=(c,d))=(a=c/\b=d):=Prod.mk.injEq a b c d
theorem zG {α:Type zu}(a:α) (l:List α) (b:α) (m:List α):(a::l=b::m)=(a=b/\l=m):=List.cons.injEq a l b m
theorem zH (a b:Bool):((a&&b)=true)=(a=true/\b=true):=Bool.and_eq_true a b
theorem zI {α:Type zu}{l:List α}{i:Nat}{a:α}:l[i]?=some a↔∃h:i<l.length,l[i]=a:=List.getElem?_eq_some_iff
theorem zJ (n:Nat):n<=n:=Nat.le_refl n
theorem zK {α:Type zu}{β:Type zv}{f:α->β}{a:α}{l:List α}:List.map f (a::l)=f a::List.map f l:=List.map_cons
theorem zL {α:Type zu}{a b:List α}:(a++b).length=a.length+b.length:=List.length_append
theorem zM {α:Type zu}{a:α}{l:List α}:(a::l).length=l.length+1:=List.length_cons
theorem zN {α:Type zu}{a:α}:[a].length=1:=List.length_singleton
theorem zO {α:Type zu}(a b c:List α):a++b++c=a++(b++c):=List.append_assoc a b c
theorem zP {α:Type zu}{i:Nat}{l:List α}:(l.take i).length=min i l.length:=List.length_take
theorem zQ {α:Type zu}{xs:Array α}{i:Nat}{a:α}:xs[i]?=some a↔∃h:i<xs.size,xs[i]=a:=Array.getElem?_eq_some_iff
theorem zR {α:Type zu}{β:Type zv}{as:List α}(f:α->β):(as.map f).length=as.length:=List.length_map f
theorem zS (n:Nat):¬ n<0:=Nat.not_lt_zero n
theorem zT {α:Type zu}{l:List α}(h:l.length=0):l=[]:=List.eq_nil_of_length_eq_zero h
theorem zU {α:Type zu}{l:List α}{i:Nat}{a:α}(h:l[i]?=some a):a∈l:=List.mem_of_getElem? h
theorem zV {α:Type zu}{a b:List α}{i:Nat}(h:i<a.length):(a++b)[i]?=a[i]?:=List.getElem?_append_left h
theorem zW {n m:Nat}(h:Nat.ble n m=true):n<=m:=Nat.le_of_ble_eq_true h
theorem zX {α:Type zu}{a:α}{s t:List α}:a∈s++t↔a∈s\/a∈t:=List.mem_append
theorem zE {α:Type zu}(a b:α):(some a=some b)=(a=b):=Option.some.injEq a b
inductive Lf where
 |int (k:IntKind) (n:Int)
 |bool (b:Bool)
 |str (s:List UInt8)
 |ptr (b i j:Nat)
 |nilp
 |sl (b i n:Nat)
 |slz
 |nils
 |fn (f:Nat) (cap:List (Nat×Nat×Nat))
 |yld (l:Nat)
 |nilf
 |mp (m:Nat)
 |nilm
 |nili
 |vrow (s:Nat) (els:List (List Lf))
 |vptr (cs:List Lf)
 deriving Inhabited
inductive AV where
 |one (x:Lf)
 |agg (cs:List Lf)
 |tup (vs:List AV)
 deriving Inhabited
def und:AV:=.tup []
def junk:AV:=.tup [.tup []]
def AV.isJ:AV->Bool
 |.tup [.tup _]=>true
 |_=>false
def Lf.same:Lf->Lf->Bool
 |.int k a,.int k' b=>decide (k=k')&&decide (a=b)
 |.bool a,.bool b=>decide (a=b)
 |.str a,.str b=>decide (a=b)
 |_,_=>false
def gu:List Lf->List Lf->Bool
 |[],[]=>true
 |x::r,y::l=>Lf.same x y&&gu r l
 |_,_=>false
def AV.cells?:AV->Option (List Lf)
 |.one x=>some [x]
 |.agg cs=>some cs
 |.tup _=>none
inductive Opd where
 |t (n:Nat)
 |c (v:AV)
 deriving Inhabited
inductive PK where
 |bool | int (k:IntKind) | str
 deriving DecidableEq,Inhabited
inductive EqK where
 |bool | ptr | slc | fnc | map | cells (ks:List PK)
 deriving DecidableEq,Inhabited
inductive nJ where
 |str | slc | map | cap
 deriving DecidableEq,Inhabited
inductive AOp where
 |mov (x:Opd)
 |bin (op:BinOp) (x y:Opd)
 |eqv (k:EqK) (neg:Bool) (x y:Opd)
 |un (op:UnOp) (x:Opd)
 |wrapI (k:IntKind) (x:Opd)
 |s2b (x:Opd)
 |b2s (x:Opd)
 |i2s (x:Opd)
 |s2s (x:Opd)
 |pick (c a b:Opd)
 |new (z:List Lf)
 |box (x:Opd)
 |build (z:List Lf) (parts:List (Nat×Nat×Opd))
 |rowLit (s:Nat) (z:List Lf) (n:Nat) (parts:List (Nat×Opd))
 |load (ag:Bool) (n:Nat) (a:Opd)
 |store (n:Nat) (a x:Opd)
 |nilck (x:Opd)
 |faddr (off:Nat) (x:Opd)
 |fld (ag:Bool) (off n:Nat) (x:Opd)
 |iaddr (s:Nat) (x i:Opd)
 |aaddr (len s:Nat) (x i:Opd)
 |sidx (x i:Opd)
 |aidx (ag:Bool) (len s:Nat) (x i:Opd)
 |slice (k:nJ) (s:Nat) (x:Opd) (lo hi mx:Option Opd)
 |mksl (s:Nat) (z:List Lf) (bytes:Nat) (len cap:Opd)
 |mkfn (f:Nat) (caps:List Opd)
 |mkmap
 |newb
 |lookup (kk:PK) (z:Lf) (x k:Opd) (ok:Bool)
 |mapset (kk:PK) (m k v:Opd)
 |rng (x:Opd)
 |nxt (x:Opd)
 |ext (x:Opd) (i:Nat)
 |len (k:nJ) (x:Opd)
 |app (s bytes:Nat) (x y:Opd)
 |best (mx:Bool) (xs:List Opd)
 |clr (s:Nat) (z:List Lf) (x:Opd)
 |call (f:Opd) (xs:List Opd)
 deriving Inhabited
structure AI where
 dst:Option Nat
 op:AOp
 gd:Option (Nat×Bool)
 deriving Inhabited
inductive AC where
 |skip
 |reg (ops:List AI)
 |dreg (ops:List AI)
 |dalt (ls:List (List AI))
 |dtl (ls:List (List AI)) (tl:List AI)
 |seq (a b:AC)
 |cond (c:Opd) (t e:AC)
 |block (id:Nat) (b:AC)
 |loop (b:AC)
 |rangeF (f:Opd) (ps:List Nat) (as bd:AC)
 |exit (id:Nat)
 |ret
 |dead
 deriving Inhabited
inductive Ex where
 |normal
 |exit (id:Nat)
 |ret
 deriving DecidableEq,Inhabited
inductive LSt where
 |ready | busy | done | exhausted
 deriving DecidableEq,Inhabited
abbrev Tm:=Nat->AV
inductive AO where
 |blk (s:Nat) (els:List (List Lf)) (own:Bool)
 |dead
 |map (es:List (Lf×Lf))
 |siter (s:List UInt8) (pos:Nat)
 |bld (u:Bool) (x:Option (Nat×Nat))
 |loop (st:LSt) (pend:Option Ex) (T:Tm) (ps:List Nat) (as bd:AC)
 deriving Inhabited
structure Heap where
 n:Nat
 o:Nat->AO
def put {α:Type}(f:Nat->α) (i:Nat) (v:α):Nat->α:=fun j=>if j=i then v else f j
def Heap.push (H:Heap) (x:AO):Heap:=⟨H.n+1,put H.o H.n x⟩
def Heap.set (H:Heap) (i:Nat) (x:AO):Heap:=⟨H.n,put H.o i x⟩
def cz (T:Tm) (d:Option Nat) (v:AV):Tm:=
 match d with
 |some d=>put T d v
 |none=>T
def Opd.ev (T:Tm):Opd->AV
 |.t n=>T n
 |.c v=>v
def rG (op:BinOp) (k:IntKind) (x y:Int):Option Int:=
 let a:=BitVec.ofInt k.bits x
 let b:=BitVec.ofInt k.bits y
 match op with
 |.and=>some (k.wrap (a &&& b).toNat)
 |.or=>some (k.wrap (a ||| b).toNat)
 |.xor=>some (k.wrap (a ^^^ b).toNat)
 |.andNot=>some (k.wrap (a &&& ~~~b).toNat)
 |_=>none
def jK (op:BinOp) (k:IntKind) (x y:Int):Option AV:=
 match op with
 |.add=>some (.one (.int k (k.wrap (x+y))))
 |.sub=>some (.one (.int k (k.wrap (x-y))))
 |.mul=>some (.one (.int k (k.wrap (x*y))))
 |.quo=>if y=0 then none else some (.one (.int k (k.wrap (x.tdiv y))))
 |.rem=>if y=0 then none else some (.one (.int k (x.tmod y)))
 |.eql=>some (.one (.bool (decide (x=y))))
 |.neq=>some (.one (.bool (decide (x≠y))))
 |.lss=>some (.one (.bool (decide (x<y))))
 |.leq=>some (.one (.bool (decide (x<=y))))
 |.gtr=>some (.one (.bool (decide (y<x))))
 |.geq=>some (.one (.bool (decide (y<=x))))
 |.shl | .shr=>none
 |op=>(rG op k x y).map fun r=>.one (.int k r)
def nW (op:BinOp) (k:IntKind) (x:Int) (y:Int):Option AV:=
 if y<0 then none else
 match op with
 |.shl=>some (.one (.int k (k.wrap (x*2 ^ (min y.toNat k.bits)))))
 |.shr=>some (.one (.int k (x.fdiv (2 ^ (min y.toNat k.bits)))))
 |_=>none
abbrev mW (a b:List UInt8):Bool:=Op.bytesLess a b
def rA (op:BinOp) (a b:List UInt8):Option AV:=
 match op with
 |.add=>if a.length+b.length<=9223372036854775807 then some (.one (.str (a++b))) else none
 |.eql=>some (.one (.bool (decide (a=b))))
 |.neq=>some (.one (.bool (decide (a≠b))))
 |.lss=>some (.one (.bool (mW a b)))
 |.leq=>some (.one (.bool (mW a b||decide (a=b))))
 |.gtr=>some (.one (.bool (!(mW a b||decide (a=b)))))
 |.geq=>some (.one (.bool (!mW a b)))
 |_=>none
def bu:List PK->List Lf->Bool
 |[],[]=>true
 |.int k::ks,.int k' _::cs=>k == k'&&bu ks cs
 |.bool::ks,.bool _::cs=>bu ks cs
 |.str::ks,.str _::cs=>bu ks cs
 |_,_=>false
def EK:EqK->Lf->Lf->Option Bool
 |.ptr,.nilp,.nilp=>some true
 |.ptr,.ptr _ _ _,.nilp | .ptr,.nilp,.ptr _ _ _=>some false
 |.slc,.nils,.nils=>some true
 |.slc,.sl _ _ _,.nils | .slc,.nils,.sl _ _ _=>some false
 |.slc,.vrow _ (_::_),.nils | .slc,.nils,.vrow _ (_::_)=>some false
 |.ptr,.vptr _,.nilp | .ptr,.nilp,.vptr _=>some false
 |.fnc,.nilf,.nilf=>some true
 |.fnc,.fn _ _,.nilf | .fnc,.nilf,.fn _ _=>some false
 |.map,.nilm,.nilm=>some true
 |.map,.mp _,.nilm | .map,.nilm,.mp _=>some false
 |.bool,.bool a,.bool b=>some (decide (a=b))
 |_,_,_=>none
def Eb (k:EqK) (neg:Bool) (x y:AV):Option AV:=
 match k,x,y with
 | .cells ks,.agg a,.agg b=>
   if bu ks a&&bu ks b then some (.one (.bool (if neg then !gu a b else gu a b))) else none
 |k,.one a,.one b=>(EK k a b).map fun r=>.one (.bool (if neg then !r else r))
 |_,_,_=>none
def di (op:BinOp) (x y:AV):Option AV:=
 match x,y with
 | .one (.int k a),.one (.int k' b)=>
   match op with
   |.shl=>nW .shl k a b
   |.shr=>nW .shr k a b
   |op=>if k=k' then jK op k a b else none
 |.one (.str a),.one (.str b)=>rA op a b
 |_,_=>none
def Bw (op:UnOp) (x:AV):Option AV:=
 match op,x with
 |.neg,.one (.int k n)=>some (.one (.int k (k.wrap (0-n))))
 |.xor,.one (.int k n)=>(rG .xor k (if k.signed then -1 else k.max) n).map fun r=>.one (.int k r)
 |.not,.one (.bool b)=>some (.one (.bool (!b)))
 |_,_=>none
def ic (T:Tm):List Lf->List (Nat×Nat×Opd)->Option (List Lf)
 |cs,[]=>some cs
 | cs,(off,n,x)::r=>
   match (x.ev T).cells? with
   |some p=>if p.length=n/\off+n<=cs.length then ic T (cs.take off++p++cs.drop (off+p.length)) r else none
   |none=>none
def fP (T:Tm) (s:Nat):List (List Lf)->List (Nat×Opd)->Option (List (List Lf))
 |es,[]=>some es
 | es,(i,x)::r=>
   match (x.ev T).cells? with
   |some p=>if i<es.length/\p.length=s then fP T s (es.set i p) r else none
   |none=>none
def iW (ag:Bool) (cs:List Lf):Option AV:=
 if ag then some (.agg cs) else
 match cs with
 |[x]=>some (.one x)
 |_=>none
def Heap.cells (H:Heap) (b i j n:Nat):Option (List Lf):=
 match H.o b with
 | .blk _ els _=>
   match els[i]? with
   |some e=>if j+n<=e.length then some ((e.drop j).take n) else none
   |none=>none
 |_=>none
def Heap.storeC (H:Heap) (b i j:Nat) (p:List Lf):Option Heap:=
 match H.o b with
 | .blk s els true=>
   match els[i]? with
   |some e=>if j+p.length<=e.length then some (H.set b (.blk s (els.set i (e.take j++p++e.drop (j+p.length))) true)) else none
   |none=>none
 |_=>none
def Heap.clrC (H:Heap) (b i:Nat) (z:List Lf):Nat->Option Heap
 |0=>some H
 |n+1=>match H.storeC b i 0 z with
  |some H1=>H1.clrC b (i+1) z n
  |none=>none
def vM (H:Heap) (s:Nat) (z:List Lf):AV->Option (AV×Heap)
 |.one (.sl b i n)=>match H.o b with
  |.blk s' _ _=>if s'=s then (H.clrC b i z n).map (AV.tup [],·) else none
  |_=>none
 |.one .nils=>some (.tup [],H)
 |.one .slz=>some (.tup [],H)
 |_=>none
def Heap.row (H:Heap) (s:Nat):Lf->Option (List (List Lf))
 |.nils | .slz=>some []
 |.vrow s' els=>if s'=s then some els else none
 | .sl b i n=>
   match H.o b with
   |.blk s' els _=>if s'=s/\i+n<=els.length then some ((els.drop i).take n) else none
   |_=>none
 |_=>none
def iF:AV->Option Nat
 |.one (.int _ n)=>if 0<=n then some n.toNat else none
 |_=>none
def bound (T:Tm) (d:Nat):Option Opd->Option Nat
 |none=>some d
 |some x=>iF (x.ev T)
def Heap.isBlk (H:Heap) (s b:Nat):Bool:=
 match H.o b with
 |.blk s' _ _=>s' == s
 |_=>false
def dh (T:Tm) (H:Heap) (k:nJ) (s:Nat) (x:AV) (lo hi mx:Option Opd):Option AV:=
 match k,x with
 | .str,.one (.str s)=>
   match mx,bound T 0 lo,bound T s.length hi with
   |none,some l,some h=>if l<=h/\h<=s.length then some (.one (.str ((s.drop l).take (h-l)))) else none
   |_,_,_=>none
 | .slc,.one (.sl b i n)=>
   if H.isBlk s b then
    match bound T 0 lo,bound T n hi,mx with
    |some l,some h,none=>if l<=h/\h<=n then some (.one (.sl b (i+l) (h-l))) else none
    | some l,some h,some m=>
      match iF (m.ev T) with
      |some m=>if l<=h/\h<=m/\m<=n then (if m=l then some (.one .slz) else some (.one (.sl b (i+l) (h-l)))) else none
      |none=>none
    |_,_,_=>none
   else none
 | .slc,.one (.vrow s' els)=>
   if s'=s then
    match bound T 0 lo,bound T els.length hi,mx with
    |some l,some h,none=>if l<=h/\h<=els.length then some (.one (.vrow s ((els.drop l).take (h-l)))) else none
    | some l,some h,some m=>
      match iF (m.ev T) with
      |some m=>if l<=h/\h<=m/\m<=els.length then (if m=l then some (.one .slz) else some (.one (.vrow s ((els.drop l).take (h-l))))) else none
      |none=>none
    |_,_,_=>none
   else none
 | .slc,.one .nils=>
   match bound T 0 lo,bound T 0 hi,mx with
   |some 0,some 0,none=>some (.one .nils)
   |some 0,some 0,some m=>if iF (m.ev T)=some 0 then some (.one .nils) else none
   |_,_,_=>none
 | .slc,.one .slz=>
   match bound T 0 lo,bound T 0 hi,mx with
   |some 0,some 0,none=>some (.one .slz)
   |some 0,some 0,some m=>if iF (m.ev T)=some 0 then some (.one .slz) else none
   |_,_,_=>none
 |_,_=>none
def fZ:Nat:=140737488355328
def fM (H:Heap) (s:Nat):AV->Option (List (List Lf))
 |.one (.str b)=>if s=1 then some (b.map fun c=>[Lf.int .u8 c.toNat]) else none
 |.one y=>H.row s y
 |_=>none
def eB (H:Heap) (s bytes:Nat) (x y:AV):Option (AV×Heap):=
 match fM H s y with
 |none=>none
 |some []=>match x with
  |.one .nils | .one .slz | .one (.sl _ _ _) | .one (.vrow _ _)=>some (x,H)
  |_=>none
 |some (e::es)=>match x with
  | .one .nils | .one .slz=>
    if (es.length+1)*bytes<=fZ then some (.one (.sl H.n 0 (es.length+1)),H.push (.blk s (e::es) true)) else none
  | .one (.sl b i n)=>
    match H.o b with
    | .blk s' els true=>
      if s'=s/\i+n<=els.length/\(n+(es.length+1))*bytes<=fZ then
       some (.one (.sl H.n 0 (n+(es.length+1))),(H.set b .dead).push (.blk s ((els.drop i).take n++e::es) true))
      else none
    |_=>none
  |_=>none
def jY (es:List (Lf×Lf)) (k:Lf):Option Lf:=(es.find? fun e=>Lf.same e.1 k).map (·.2)
def fD:List (Lf×Lf)->Lf->Lf->List (Lf×Lf)
 |[],k,v=>[(k,v)]
 |e::r,k,v=>if Lf.same e.1 k then (k,v)::r else e::fD r k v
def fu:PK->Lf->Bool
 |.int k,.int k' _=>k == k'
 |.bool,.bool _ | .str,.str _=>true
 |_,_=>false
def xW (mx:Bool) (x y:AV):Option AV:=
 match x,y with
 |.one (.int k a),.one (.int _ b)=>some (.one (.int k (if mx then (if a<b then b else a) else (if b<a then b else a))))
 |_,_=>none
def oK (mx:Bool):AV->List AV->Option AV
 |x,[]=>some x
 |x,y::r=>(xW mx x y).bind fun z=>oK mx z r
def iM:List (List Lf)->Option (List UInt8)
 |[]=>some []
 |[.int .u8 n]::r=>(iM r).map fun s=>UInt8.ofNat n.toNat::s
 |_=>none
def capOf:AV->Option (Nat×Nat×Nat)
 |.one (.ptr b i j)=>some (b,i,j)
 |_=>none
def ah (T:Tm) (H:Heap):AOp->Option (AV×Heap)
 |.mov x=>some (x.ev T,H)
 |.bin op x y=>(di op (x.ev T) (y.ev T)).map (·,H)
 |.eqv k neg x y=>(Eb k neg (x.ev T) (y.ev T)).map (·,H)
 |.un op x=>(Bw op (x.ev T)).map (·,H)
 |.wrapI k x=>match x.ev T with
  |.one (.int _ n)=>some (.one (.int k (k.wrap n)),H)
  |_=>none
 |.s2b x=>match x.ev T with
  |.one (.str s)=>some (.one (.sl H.n 0 s.length),H.push (.blk 1 (s.map fun b=>[.int .u8 b.toNat]) true))
  |_=>none
 |.b2s x=>match x.ev T with
  |.one v=>((H.row 1 v).bind iM).map fun s=>(.one (.str s),H)
  |_=>none
 |.i2s x=>match x.ev T with
  |.one (.int _ n)=>some (.one (.str (Utf8.encode n).toList),H)
  |_=>none
 |.s2s x=>match x.ev T with
  |.one (.str s)=>some (.one (.str s),H)
  |_=>none
 |.pick c a b=>match c.ev T with
  |.one (.bool t)=>some (if t then a.ev T else b.ev T,H)
  |_=>none
 |.new z=>some (.one (.ptr H.n 0 0),H.push (.blk z.length [z] true))
 |.box x=>match (x.ev T).cells? with
  |some p=>some (.one (.ptr H.n 0 0),H.push (.blk p.length [p] true))
  |none=>none
 |.build z parts=>(ic T z parts).map fun cs=>(.agg cs,H)
 |.rowLit s z n parts=>(fP T s (List.replicate n z) parts).map fun es=>(.one (.sl H.n 0 n),H.push (.blk s es true))
 |.load ag n a=>match a.ev T with
  |.one (.ptr b i j)=>((H.cells b i j n).bind (iW ag)).map (·,H)
  |.one (.vptr cs)=>if n<=cs.length then (iW ag (cs.take n)).map (·,H) else none
  |_=>none
 |.store n a x=>match a.ev T,(x.ev T).cells? with
  |.one (.ptr b i j),some p=>if p.length=n then (H.storeC b i j p).map (und,·) else none
  |_,_=>none
 |.nilck x=>match x.ev T with
  |.one (.ptr b i j)=>some (.one (.ptr b i j),H)
  |.one (.vptr cs)=>some (.one (.vptr cs),H)
  |.one (.fn f c)=>some (.one (.fn f c),H)
  |.one (.yld l)=>some (.one (.yld l),H)
  |_=>none
 |.faddr off x=>match x.ev T with
  |.one (.ptr b i j)=>some (.one (.ptr b i (j+off)),H)
  |.one (.vptr cs)=>some (.one (.vptr (cs.drop off)),H)
  |_=>none
 |.fld ag off n x=>match x.ev T with
  |.agg cs=>if off+n<=cs.length then (iW ag ((cs.drop off).take n)).map (·,H) else none
  |_=>none
 |.iaddr s x i=>match x.ev T,iF (i.ev T) with
  |.one (.sl b f n),some k=>if H.isBlk s b/\k<n then some (.one (.ptr b (f+k) 0),H) else none
  |.one (.vrow s' els),some k=>if s'=s then (els[k]?).map fun e=>(.one (.vptr e),H) else none
  |_,_=>none
 |.aaddr len s x i=>match x.ev T,iF (i.ev T) with
  |.one (.ptr b e j),some k=>if k<len then some (.one (.ptr b e (j+k*s)),H) else none
  |.one (.vptr cs),some k=>if k<len then some (.one (.vptr (cs.drop (k*s))),H) else none
  |_,_=>none
 |.sidx x i=>match x.ev T,iF (i.ev T) with
  |.one (.str s),some k=>match s[k]? with
   |some c=>some (.one (.int .u8 c.toNat),H)
   |none=>none
  |_,_=>none
 |.aidx ag len s x i=>match x.ev T,iF (i.ev T) with
  |.agg cs,some k=>if k<len/\k*s+s<=cs.length then (iW ag ((cs.drop (k*s)).take s)).map (·,H) else none
  |_,_=>none
 |.slice k s x lo hi mx=>(dh T H k s (x.ev T) lo hi mx).map (·,H)
 |.mksl s z bytes len cap=>match iF (len.ev T),iF (cap.ev T) with
  |some l,some c=>if l<=c/\c*bytes<=fZ/\c<=fZ then some (.one (.sl H.n 0 l),H.push (.blk s (List.replicate l z) true)) else none
  |_,_=>none
 | .mkfn f caps=>
   (caps.mapM fun x=>capOf (x.ev T)).map fun l=>(.one (.fn f l),H)
 |.mkmap=>some (.one (.mp H.n),H.push (.map []))
 |.newb=>some (.one (.ptr H.n 0 0),H.push (.bld false none))
 |.lookup kk z x k ok=>match x.ev T,k.ev T with
  |.one (.mp m),.one k=>match H.o m with
   |.map es=>if fu kk k&&es.all (fun e=>fu kk e.1) then
    (match jY es k with
     |some v=>some (if ok then .tup [.one v,.one (.bool true)] else .one v,H)
     |none=>some (if ok then .tup [.one z,.one (.bool false)] else .one z,H))
    else none
   |_=>none
  |_,_=>none
 |.mapset kk m k v=>match m.ev T,k.ev T,v.ev T with
  |.one (.mp m),.one k,.one v=>match H.o m with
   |.map es=>if fu kk k&&es.all (fun e=>fu kk e.1) then some (und,H.set m (.map (fD es k v))) else none
   |_=>none
  |_,_,_=>none
 |.rng x=>match x.ev T with
  |.one (.str s)=>some (.one (.ptr H.n 0 0),H.push (.siter s 0))
  |_=>none
 |.nxt x=>match x.ev T with
  |.one (.ptr b 0 0)=>match H.o b with
   | .siter s pos=>
     if pos<s.length then
      let d:=Utf8.decode ⟨s.toArray⟩ pos
      some (.tup [.one (.bool true),.one (.int .i64 pos),.one (.int .i32 d.1)],H.set b (.siter s (pos+d.2)))
     else some (.tup [.one (.bool false)],H)
   |_=>none
  |_=>none
 |.ext x i=>match x.ev T with
  |.tup vs=>match vs[i]? with
   |some (.one x)=>some (.one x,H)
   |some (.agg cs)=>some (.agg cs,H)
   |_=>none
  |_=>none
 |.len k x=>match k,x.ev T with
  |.str,.one (.str s)=>some (.one (.int .i64 s.length),H)
  |.slc,.one (.sl _ _ n)=>some (.one (.int .i64 n),H)
  |.slc,.one (.vrow _ els)=>some (.one (.int .i64 els.length),H)
  |.slc,.one .nils | .slc,.one .slz=>some (.one (.int .i64 0),H)
  |.cap,.one .nils | .cap,.one .slz=>some (.one (.int .i64 0),H)
  |.map,.one .nilm=>some (.one (.int .i64 0),H)
  |.map,.one (.mp m)=>match H.o m with
   |.map es=>some (.one (.int .i64 es.length),H)
   |_=>none
  |_,_=>none
 |.app s bytes x y=>eB H s bytes (x.ev T) (y.ev T)
 |.clr s z x=>vM H s z (x.ev T)
 |.best mx xs=>match xs with
  |[]=>none
  |x::r=>(oK mx (x.ev T) (r.map (·.ev T))).map (·,H)
 |.call _ _=>none
inductive dV where
 |t (n:Nat)
 |cell (a:Nat) (ag:Bool) (n:Nat)
structure AF where
 np:Nat
 nt:Nat
 res:List dV
 body:AC
def pY (T:Tm) (H:Heap):dV->Option AV
 |.t n=>some (T n)
 |.cell a ag n=>match T a with
  |.one (.ptr b i j)=>(H.cells b i j n).bind (iW ag)
  |_=>none
def AV.isVal:AV->Bool
 |.tup _=>false
 |_=>true
def fB (T:Tm) (H:Heap):List dV->Option (List AV)
 |[]=>some []
 |r::rs=>match pY T H r,fB T H rs with
  |some v,some vs=>some (v::vs)
  |_,_=>none
def iw (T:Tm) (H:Heap) (rs:List dV):Option AV:=
 match fB T H rs with
 |some [v]=>some v
 |some vs=>if vs.all AV.isVal then some (.tup vs) else none
 |none=>none
def jf:List AV->Tm
 |[]=>fun _=>und
 |v::r=>fun k=>match k with
  |0=>v
  |k+1=>jf r k
def setPs (T:Tm):List Nat->List AV->Tm
 |p::ps,v::vs=>setPs (put T p v) ps vs
 |_,_=>T
def wanted (T:Tm):Option (Nat×Bool)->Bool
 |none=>true
 |some (d,b)=>match T d with
  |.one (.bool x)=>x == b
  |_=>false
def known (T:Tm):Option (Nat×Bool)->Bool
 |none=>true
 |some (d,_)=>!(T d).isJ
def aU (call:AV->List AV->Heap->Option (AV×Heap)):List AI->Tm->Heap->Option (Tm×Heap)
 |[],T,H=>some (T,H)
 | i::r,T,H=>
   if known T i.gd=false then none else
   if wanted T i.gd then
    match (match i.op with
     |.call f xs=>call (f.ev T) (xs.map (·.ev T)) H
     |op=>ah T H op) with
    |some (v,H')=>aU call r (cz T i.dst v) H'
    |none=>none
   else aU call r (cz T i.dst und) H
structure Cx where
 ap:Nat->Option AF
 pr:Nat->Option (List AV->Heap->Option (AV×Heap))
def eD (X:Cx) (ev:AC->Tm->Heap->Option (Ex×Tm×Heap)) (f:AV) (xs:List AV) (H:Heap):Option (AV×Heap):=
 match f with
 | .one (.fn f cap)=>
   match X.pr f with
   |some p=>if cap.isEmpty then p xs H else none
   | none=>
     match X.ap f with
     | some a=>
       if xs.length+cap.length=a.np then
        match ev a.body (jf (xs++cap.map fun c=>.one (.ptr c.1 c.2.1 c.2.2))) H with
        |some (.ret,T,H')=>(iw T H' a.res).map (·,H')
        |some (.normal,T,H')=>(iw T H' a.res).map (·,H')
        |_=>none
       else none
     |none=>none
 | .one (.yld l)=>
   match H.o l with
   | .loop .ready _ T ps as bd=>
     if xs.length=ps.length then
      match ev as (setPs T ps xs) H with
      | some (.normal,T1,H1)=>
        match H1.o l with
        | .loop .ready pend1 T0 ps1 as1 bd1=>
          match ev bd T1 (H1.set l (.loop .busy pend1 T0 ps1 as1 bd1)) with
          | some (e,_,H2)=>
            match H2.o l with
            | .loop .busy _ T0 ps2 as2 bd2=>
              if e=.normal then some (.one (.bool true),H2.set l (.loop .ready none T0 ps2 as2 bd2))
              else some (.one (.bool false),H2.set l (.loop .done (some e) T0 ps2 as2 bd2))
            |_=>none
          |none=>none
        |_=>none
      |_=>none
     else none
   |_=>none
 |_=>none
def jc (ls:List (List AI)×List AI):List AI:=match ls with | ([],_)=>[] | (_,tl)=>tl
def jb (ais:List AI) (ls:List (List AI)):List (List AI):=match ls with | []=>[ais] | ls=>ls
end Go.EA
end
section
namespace Go.EA
structure RCx where
 P:Program
 ren:FuncId->Option Nat
 bt:Option (TypeId×TypeId)
def lX:Value->Option Lf
 |.int k n=>some (.int k n)
 |.bool b=>some (.bool b)
 |.string s=>some (.str s.data.toList)
 |.pointer none=>some .nilp
 |.slice none 0 0=>some .nils
 |.map none=>some .nilm
 |.nilFunc=>some .nilf
 |.nilIface=>some .nili
 |_=>none
def dI:List Value->Option (List Lf)
 |[]=>some []
 |v::r=>match lX v,dI r with
  |some x,some l=>some (x::l)
  |_,_=>none
def nS:Value->Option AV
 |.agg cs=>(dI cs.toList).map .agg
 |.tuple vs=>if vs.isEmpty then some und else none
 |v=>(lX v).map .one
def aX (C:RCx) (nt:Nat):Operand->Option Opd
 |.tmp t=>if t<nt then some (.t t) else none
 |.const v=>(nS v).map .c
 |.func f=>(C.ren f).map fun i=>.c (.one (.fn i []))
 |.global _=>none
def fe (C:RCx) (nt:Nat):List Operand->Option (List Opd)
 |[]=>some []
 |x::r=>match aX C nt x,fe C nt r with
  |some y,some l=>some (y::l)
  |_,_=>none
def cZ (C:RCx) (nt:Nat):Option Operand->Option (Option Opd)
 |none=>some none
 |some x=>(aX C nt x).map some
def dM (P:Program) (t:TypeId):Option Bool:=
 match P.underlying t with
 |some (.struct _) | some (.array _ _)=>some true
 |some _=>some false
 |none=>none
def bM (P:Program) (t:TypeId):Option Nat:=(P.info? t).map (·.size)
def jZ (P:Program) (t:TypeId):Option Nat:=(P.info? t).map (·.bytes)
def fE (P:Program) (t:TypeId):Option (List Lf):=
 match P.info? t with
 |some i=>match i.zero with
  |some v=>dI v.cells.toList
  |none=>none
 |none=>none
def EE (P:Program) (t:TypeId):Option Lf:=
 match P.info? t with
 |some i=>match i.zero with
  |some v=>lX v
  |none=>none
 |none=>none
def iD (C:RCx) (nt:Nat) (fs:Array Field):List (Nat×Operand)->Option (List (Nat×Nat×Opd))
 |[]=>some []
 |(i,x)::r=>match fs[i]? with
  |some f=>match bM C.P f.type,aX C nt x,iD C nt fs r with
   |some n,some y,some l=>some ((f.offset,n,y)::l)
   |_,_,_=>none
  |none=>none
def dP (C:RCx) (nt s:Nat):List (Nat×Operand)->Option (List (Nat×Nat×Opd))
 |[]=>some []
 |(i,x)::r=>match aX C nt x,dP C nt s r with
  |some y,some l=>some ((i*s,s,y)::l)
  |_,_=>none
def fU (C:RCx) (nt:Nat):List (Nat×Operand)->Option (List (Nat×Opd))
 |[]=>some []
 |(i,x)::r=>match aX C nt x,fU C nt r with
  |some y,some l=>some ((i,y)::l)
  |_,_=>none
def pkT (P:Program) (t:TypeId):Option PK:=
 match P.underlying t with
 |some .bool=>some .bool
 |some (.int k)=>some (.int k)
 |some .string=>some .str
 |_=>none
def uV (P:Program):Nat->List Field->Option (List PK)
 |_,[]=>some []
 |j,f::r=>match pkT P f.type,uV P (j+1) r with
  | some k, some l => if f.offset = j ∧ f.name ≠ "_" then some (k :: l) else none
  |_,_=>none
def Af (P:Program) (t:TypeId):Option (List PK):=
 match P.underlying t with
 |some (.struct fs)=>if P.stoodInHeld t=false/\P.eqGuardType P.depth t=false then uV P 0 fs.toList else none
 |_=>none
def iH (P:Program) (t:TypeId):Option EqK:=
 match P.underlying t with
 |some .bool=>some .bool
 |some (.pointer _)=>some .ptr
 |some (.slice _)=>some .slc
 |some (.func _ _ _)=>some .fnc
 |some (.map _ _)=>some .map
 |_=>(Af P t).map .cells
def mU (P:Program) (f:Field):Bool:=
 match P.info? f.type with
 |some i=>i.size != 0
 |none=>false
def Jl:TypeDesc->Bool
 |.string | .slice _=>true
 |_=>false
def gF (C:RCx) (nt:Nat) (b:Builtin) (ts:Array TypeId) (xs:List Opd):Option AOp:=
 match b,xs with
 |.len,[x]=>match ts.toList with
  |[t]=>match C.P.underlying t with
   |some .string=>some (.len .str x)
   |some (.slice _)=>some (.len .slc x)
   |some (.map _ _)=>some (.len .map x)
   |_=>none
  |_=>none
 |.cap,[x]=>match ts.toList with
  |[t]=>match C.P.underlying t with
   |some (.slice _)=>some (.len .cap x)
   |_=>none
  |_=>none
 |.append,[x,y]=>match ts.toList with
  |[t,t']=>match C.P.underlying t,C.P.underlying t' with
   |some (.slice e),some d=>match bM C.P e,jZ C.P e,fE C.P e with
    |some s,some b,some z=>if Jl d&&s != 0&&b != 0&&z.length == s then some (.app s b x y) else none
    |_,_,_=>none
   |_,_=>none
  |_=>none
 |.clear,[x]=>match ts.toList with
  |[t]=>match C.P.underlying t with
   |some (.slice e)=>match bM C.P e,fE C.P e with
    |some s,some z=>if s != 0&&z.length == s then some (.clr s z x) else none
    |_,_=>none
   |_=>none
  |_=>none
 |.max,xs=>some (.best true xs)
 |.min,xs=>some (.best false xs)
 |_,_=>none
def uo (bt:Option (TypeId×TypeId)) (t:TypeId) (z:List Lf):AOp:=
 match bt,z with
 |some b,[.nilp,.nils]=>if b.1=t then .newb else .new z
 |_,_=>.new z
def aG (C:RCx) (nt:Nat) (o:Oper):Option AOp:=
 let d:=aX C nt
 let P:=C.P
 match o.op with
 |.move x | .assign x=>(d x).map .mov
 |.pick c a b=>match d c,d a,d b with
  |some c,some a,some b=>some (.pick c a b)
  |_,_,_=>none
 |.alloc t=>(fE P t).map (uo C.bt t)
 |.box _ x=>(d x).map .box
 |.build t ps=>match fE P t,P.underlying t with
  |some z,some (.struct fs)=>if fs.toList.all (fun f=>(bM P f.type).isSome) then (iD C nt fs ps.toList).map (.build z) else none
  |some z,some (.array _ e)=>match bM P e with
   |some s=>(dP C nt s ps.toList).map (.build z)
   |none=>none
  |_,_=>none
 |.buildSlice t n ps=>match P.underlying t with
  |some (.slice e)=>match bM P e,fE P e,fU C nt ps.toList with
   |some s,some z,some l=>if s != 0&&z.length == s&&n*s<=16777216 then some (.rowLit s z n l) else none
   |_,_,_=>none
  |_=>none
 |.load t a=>match dM P t,bM P t,d a with
  |some g,some n,some a=>some (.load g (if g then n else 1) a)
  |_,_,_=>none
 |.store t a x=>match bM P t,d a,d x with
  |some n,some a,some x=>some (.store n a x)
  |_,_,_=>none
 |.nilCheck x=>(d x).map .nilck
 |.binOp op t x y _=>match d x,d y with
  | some x,some y=>
    if op=.eql\/op=.neq then
     match P.underlying t with
     |some (.int _) | some .string=>some (.bin op x y)
     |_=>(iH P t).map fun k=>.eqv k (op=.neq) x y
    else some (.bin op x y)
  |_,_=>none
 |.unOp op _ x=>(d x).map (.un op)
 |.convert a b x=>match P.underlying a,P.underlying b,d x with
  |some (.int _),some (.int k),some x=>some (.wrapI k x)
  |some .string,some .string,some x=>some (.s2s x)
  |some (.int _),some .string,some x=>some (.i2s x)
  |some .string,some (.slice e),some x=>match P.underlying e,bM P e with
   |some (.int .u8),some 1=>some (.s2b x)
   |_,_=>none
  |some (.slice e),some .string,some x=>match P.underlying e with
   |some (.int .u8)=>some (.b2s x)
   |_=>none
  |_,_,_=>none
 |.makeFunc fn first caps=>match fn with
  |.func f=>match C.ren f,fe C nt caps.toList with
   |some i,some l=>if first.isEmpty then some (.mkfn i l) else none
   |_,_=>none
  |_=>none
 |.makeMap t r=>match r,P.underlying t with
  |none,some (.map _ _)=>some .mkmap
  |_,_=>none
 |.lookup t x i ok=>match P.underlying t with
  |some (.map kt et)=>match pkT P kt,EE P et,d x,d i with
   |some kk,some z,some x,some i=>some (.lookup kk z x i ok)
   |_,_,_,_=>none
  |_=>none
 |.mapUpdate t m i x | .insert t m i x=>match P.underlying t with
  |some (.map kt et)=>match pkT P kt,d m,d i,d x with
   |some kk,some m,some i,some x=>some (.mapset kk m i x)
   |_,_,_,_=>none
  |_=>none
 |.makeSlice t l c=>match P.underlying t,d l,d c with
  |some (.slice e),some l,some c=>match bM P e,jZ P e,fE P e with
   |some s,some b,some z=>if s != 0&&z.length == s then some (.mksl s z b l c) else none
   |_,_,_=>none
  |_,_,_=>none
 |.slice t x lo hi mx=>match d x,cZ C nt lo,cZ C nt hi,cZ C nt mx with
  |some x,some lo,some hi,some mx=>match P.underlying t with
   |some .string=>some (.slice .str 1 x lo hi mx)
   |some (.slice e)=>if mx.isNone||hi.isSome then (bM P e).map fun s=>.slice .slc s x lo hi mx else none
   |_=>none
  |_,_,_,_=>none
 |.fieldAddr t x f=>match P.underlying t,d x with
  |some (.struct fs),some x=>match fs[f]? with
   |some fd=>if mU P fd then some (.faddr fd.offset x) else none
   |none=>none
  |_,_=>none
 |.field t x f=>match P.underlying t,d x with
  |some (.struct fs),some x=>match fs[f]? with
   |some fd=>match dM P fd.type,bM P fd.type with
    |some g,some n=>some (.fld g fd.offset (if g then n else 1) x)
    |_,_=>none
   |none=>none
  |_,_=>none
 |.indexAddr t x i=>match P.underlying t,d x,d i with
  |some (.slice e),some x,some i=>(bM P e).map fun s=>.iaddr s x i
  |some (.array n e),some x,some i=>(bM P e).map fun s=>.aaddr n s x i
  |_,_,_=>none
 |.index t x i=>match P.underlying t,d x,d i with
  |some .string,some x,some i=>some (.sidx x i)
  |some (.array n e),some x,some i=>match dM P e,bM P e with
   |some true,some s=>some (.aidx true n s x i)
   |some false,some 1=>some (.aidx false n 1 x i)
   |_,_=>none
  |_,_,_=>none
 |.range t x=>match P.underlying t,d x with
  |some .string,some x=>some (.rng x)
  |_,_=>none
 |.next x b=>if b then (d x).map .nxt else none
 |.extract x i=>(d x).map fun x=>.ext x i
 |.call c=>match fe C nt c.args.toList with
  |some xs=>match c.callee with
   |.value f=>(d f).map fun f=>.call f xs
   |.builtin b=>gF C nt b c.argTypes xs
   |.invoke _ _=>none
  |none=>none
 |_=>none
def jH (ops:Array Oper) (nt:Nat):Option (Nat×Bool)->Option (Option (Nat×Bool))
 |none=>some none
 |some (j,b)=>match (ops[j]?).bind (·.dst) with
  |some d=>if d<nt then some (some (d,b)) else none
  |none=>none
def yK (C:RCx) (nt:Nat) (ops:Array Oper) (o:Oper):Option AI:=
 match (match o.dst with | some d=>decide (d<nt) | none=>true),aG C nt o,jH ops nt o.guard with
 |true,some op,some g=>some ⟨o.dst,op,g⟩
 |_,_,_=>none
def gI (C:RCx) (nt:Nat) (ops:Array Oper):List Oper->Option (List AI)
 |[]=>some []
 |o::r=>match yK C nt ops o,gI C nt ops r with
  |some i,some l=>some (i::l)
  |_,_=>none
def noR:AC->Bool
 |.seq a b | .cond _ a b=>noR a&&noR b
 |.block _ b | .loop b=>noR b
 |.rangeF _ _ _ _=>false
 |_=>true
def aH (C:RCx) (nt:Nat) (drawOk:Array Oper->List AI->Option (List (List AI)×List AI)):Code->Option AC
 |.skip | .label _=>some .skip
 | .region _ ops draw=>
   match gI C nt ops ops.toList with
   |some l=>if draw then (match drawOk ops l with | none=>some .dead | some ([],_)=>some (.dreg l) | some (x::r,[])=>some (.dalt (x::r)) | some (x::r,y::tl)=>some (.dtl (x::r) (y::tl))) else some (.reg l)
   |none=>some .dead
 |.seq a b=>match aH C nt drawOk a,aH C nt drawOk b with
  |some a,some b=>some (.seq a b)
  |_,_=>none
 |.cond c t e=>match aX C nt c,aH C nt drawOk t,aH C nt drawOk e with
  |some c,some t,some e=>some (.cond c t e)
  |_,_,_=>none
 |.block id b=>(aH C nt drawOk b).map (.block id)
 |.loop b=>(aH C nt drawOk b).map .loop
 |.rangeFunc f ps as bd=>match aX C nt f,aH C nt drawOk as,aH C nt drawOk bd with
  |some f,some as,some bd=>if ps.toList.all (·<nt)&&noR as&&noR bd then some (.rangeF f ps.toList as bd) else none
  |_,_,_=>none
 |.exit id=>some (.exit id)
 |.ret=>some .ret
 |.scope c=>(aH C nt drawOk c).map (.seq .skip)
 |.goto _ | .refuse _=>some .dead
def gy (P:Program) (nt:Nat):List ResultVar->Option (List dV)
 |[]=>some []
 |.tmp t::r=>match gy P nt r with
  |some l=>if t<nt then some (.t t::l) else none
  |none=>none
 |.cell a t::r=>match gy P nt r,dM P t,bM P t with
  |some l,some g,some n=>if a<nt then some (.cell a g (if g then n else 1)::l) else none
  |_,_,_=>none
def Fg (C:RCx) (drawOk:Array Oper->List AI->Option (List (List AI)×List AI)) (fn:Func):Option AF:=
 match fn.body with
 |some c=>match aH C fn.ntmps drawOk c,gy C.P fn.ntmps fn.results.toList with
  |some c,some r=>if fn.params.size+fn.nfree<=fn.ntmps then some ⟨fn.params.size+fn.nfree,fn.ntmps,r,c⟩ else none
  |_,_=>none
 |none=>none
end Go.EA
end
section
namespace Go.EA
def ae {α β:Type}(R:α->β->Prop) (xs:List α) (ys:List β):Prop:=
 xs.length=ys.length/\∀(i:Nat) (x:α) (y:β),xs[i]?=some x->ys[i]?=some y->R x y
section all2
variable {α β:Type} {R R':α->β->Prop}
theorem ae.nil:ae R [] []:=⟨rfl,by simp⟩
theorem ae.cons {x:α}{y:β}{xs:List α}{ys:List β}(h:R x y) (t:ae R xs ys):ae R (x::xs) (y::ys):=by
 refine⟨by simp[t.1],fun i a b ha hb=>?_⟩;cases i with
 |zero=>simp at ha hb;subst ha;subst hb;exact h
 |succ i=>simp at ha hb;exact t.2 i a b ha hb
theorem ae.cons_inv {x:α}{xs:List α}{zs:List β}(h:ae R (x::xs) zs):∃y ys,zs=y::ys/\R x y/\ae R xs ys:=by
 cases zs with
 |nil=>exact absurd h.1 (by simp)
 | cons y ys=>
   refine⟨y,ys,rfl,h.2 0 x y rfl rfl,⟨by simpa using h.1,fun i a b ha hb=>h.2 (i+1) a b (by simpa using ha) (by simpa using hb)⟩⟩
theorem ae.nil_inv {zs:List β}(h:ae R ([]:List α) zs):zs=[]:=by
 cases zs with
 |nil=>rfl
 |cons y ys=>exact absurd h.1 (by simp)
theorem ae.mono {xs:List α}{ys:List β}(h:ae R xs ys) (hr:∀x y,R x y->R' x y):ae R' xs ys:=⟨h.1,fun i x y hx hy=>hr _ _ (h.2 i x y hx hy)⟩
theorem ae.append {xs xs':List α}{ys ys':List β}(h:ae R xs ys) (h':ae R xs' ys'):ae R (xs++xs') (ys++ys'):=by
 refine⟨by simp[h.1,h'.1],fun i x y hx hy=>?_⟩;rcases Nat.lt_or_ge i xs.length with hl | hl
 .rw[zV hl] at hx;rw[zV (by rw[<- h.1];exact hl)] at hy;exact h.2 i x y hx hy
 .rw[List.getElem?_append_right hl] at hx;rw[List.getElem?_append_right (by rw[<- h.1];exact hl),<- h.1] at hy;exact h'.2 _ x y hx hy
theorem ae.take {xs:List α}{ys:List β}(h:ae R xs ys) (n:Nat):ae R (xs.take n) (ys.take n):=by
 refine⟨by simp[h.1],fun i x y hx hy=>?_⟩;rw[List.getElem?_take] at hx hy;split at hx
 .rename_i hi;rw[if_pos hi] at hy;exact h.2 i x y hx hy
 .cases hx
theorem ae.drop {xs:List α}{ys:List β}(h:ae R xs ys) (n:Nat):ae R (xs.drop n) (ys.drop n):=by
 refine⟨by simp[h.1],fun i x y hx hy=>?_⟩;rw[List.getElem?_drop] at hx hy;exact h.2 _ x y hx hy
theorem ae.get {xs:List α}{ys:List β}(h:ae R xs ys) {i:Nat}{x:α}(hx:xs[i]?=some x):∃y,ys[i]?=some y/\R x y:=by
 have hi:i<ys.length:=by rw[<- h.1];exact(zI.1 hx).1
 exact⟨ys[i],zB hi,h.2 i x _ hx (zB hi)⟩
end all2
structure Loc where
 g:Nat
 o:Nat
 s:Nat
 z:Nat
 t:TypeId×Nat×Nat
structure Rho where
 l:Nat->Loc
 fz:Nat->Option Obj
instance:CoeFun Rho (fun _=>Nat->Loc):=⟨Rho.l⟩
def Rho.put (ρ:Rho) (n:Nat) (L:Loc):Rho:=⟨EA.put ρ.l n L,ρ.fz⟩
theorem aQ (ρ:Rho) (n:Nat) (L:Loc):(ρ.put n L).l n=L:=if_pos rfl
theorem nO (ρ:Rho) {n i:Nat}(L:Loc) (h:i≠n):(ρ.put n L).l i=ρ.l i:=if_neg h
def Loc.addr (L:Loc) (i j:Nat):Addr:=⟨L.g,L.o+i*L.s+j,none⟩
theorem addr_add (g k n:Nat):(⟨g,k,none⟩:Addr).add n=⟨g,k+n,none⟩:=by
 unfold Addr.add;split
 .simp_all
 .rfl
structure SC where
 C:RCx
 re:Nat->FuncId
 dr:Array Oper->List AI->Option (List (List AI)×List AI)
 fx:Nat->Option Obj
 d0:Nat
section rel
variable (S:SC)
def bY (ρ:Rho) (c:Nat×Nat×Nat):Value:=.pointer (some ((ρ c.1).addr c.2.1 c.2.2))
mutual
def aV (fz:Nat->Option Obj):Lf->Value->Prop
 |.int k x,v=>v=.int k x
 |.bool b,v=>v=.bool b
 |.str s,v=>v=.string ⟨s.toArray⟩
 |.nilp,v=>v=.pointer none
 |.slz,v=>∃a,v=.slice a 0 0
 |.nils,v=>v=.slice none 0 0
 |.fn f cap,v=>cap=[]/\v=.func (.func (S.re f)) #[] #[]
 |.nilf,v=>v=.nilFunc
 |.nilm,v=>v=.map none
 |.nili,v=>v=.nilIface
 |.vrow s els,v=>∃a cap,v=.slice a els.length cap/\els.length<=cap/\(els=[]\/∃g o C ty fr,a=some ⟨g,o,none⟩/\fz g=some (.cells C ty fr)/\eG fz C o s els)
 |.vptr cs,v=>∃g o C ty fr,v=.pointer (some ⟨g,o,none⟩)/\fz g=some (.cells C ty fr)/\bz fz C o cs
 |.ptr _ _ _,_=>False
 |.sl _ _ _,_=>False
 |.yld _,_=>False
 |.mp _,_=>False
def bz (fz:Nat->Option Obj) (C:Array Value) (o:Nat):List Lf->Prop
 |[]=>True
 |x::r=>(∃u,C[o]?=some u/\aV fz x u)/\bz fz C (o+1) r
def eG (fz:Nat->Option Obj) (C:Array Value) (o s:Nat):List (List Lf)->Prop
 |[]=>True
 |e::r=>e.length=s/\bz fz C o e/\eG fz C (o+s) s r
end
def aA (ρ:Rho) (n:Nat):Lf->Value->Prop
 |.int k x,v=>v=.int k x
 |.bool b,v=>v=.bool b
 |.str s,v=>v=.string ⟨s.toArray⟩
 |.ptr b i j,v=>b<n/\v=.pointer (some ((ρ b).addr i j))
 |.nilp,v=>v=.pointer none
 |.sl b i m,v=>b<n/\∃a cap,v=.slice (some a) m cap/\m<=cap/\(cap=0\/(a=(ρ b).addr i 0/\(ρ b).o+(i+cap)*(ρ b).s<=(ρ b).z))
 |.slz,v=>∃a,v=.slice a 0 0
 |.nils,v=>v=.slice none 0 0
 |.fn f cap,v=>(∀c∈cap,c.1<n)/\v=.func (.func (S.re f)) #[] (cap.map (bY ρ)).toArray
 |.yld l,v=>l<n/\v=.func (.yield (ρ l).g) #[] #[]
 |.nilf,v=>v=.nilFunc
 |.mp m,v=>m<n/\v=.map (some (ρ m).g)
 |.nilm,v=>v=.map none
 |.nili,v=>v=.nilIface
 |.vrow s els,v=>aV S ρ.fz (.vrow s els) v
 |.vptr cs,v=>aV S ρ.fz (.vptr cs) v
def ik (ρ:Rho) (n:Nat):AV->Value->Prop
 |.one x,v=>aA S ρ n x v
 |.agg cs,v=>∃arr,v=.agg arr/\ae (aA S ρ n) cs arr.toList
 |.tup _,_=>False
def aN (ρ:Rho) (n:Nat):AV->Value->Prop
 |.tup vs,v=>(AV.tup vs).isJ=true\/∃arr,v=.tuple arr/\ae (ik S ρ n) vs arr.toList
 |x,v=>ik S ρ n x v
def eF (ρ:Rho) (n:Nat) (T:Tm) (tmps:Array Value):Prop:=∀k v,tmps[k]?=some v->aN S ρ n (T k) v
def sK (ρ:Rho) (n:Nat) (L:Loc) (els:List (List Lf)) (C:Array Value):Prop:=
 ∀k e,els[k]?=some e->e.length=L.s/\∀j x,e[j]?=some x->∃v,C[L.o+k*L.s+j]?=some v/\aA S ρ n x v
def FP:LSt->LoopState
 |.ready=>.ready
 |.busy=>.busy
 |.done=>.done
 |.exhausted=>.exhausted
def wD:Ex->Code
 |.normal=>.skip
 |.exit id=>.exit id
 |.ret=>.ret
def mh (ρ:Rho) (n:Nat) (t:TypeId):Option (Nat×Nat)->Value->Prop
 |none,b=>b=.slice none 0 0
 |some (k,m),b=>k<n/\(ρ k).o=0/\(ρ k).s=1/\(ρ k).t=(t,0,0)/\b=.slice (some ⟨(ρ k).g,0,none⟩) m (ρ k).z
def kE (ρ:Rho) (n:Nat) (L:Loc):AO->Option Obj->Prop
 |.blk s els own,ob=>s=L.s/\∃C ty fr,ob=some (.cells C ty fr)/\sK S ρ n L els C/\
  (own=true->C.size=L.z/\L.o+els.length*L.s<=C.size/\(fr.2<=fr.1\/C.size<=fr.1)/\(ty,fr)=L.t)
 |.dead,_=>True
 |.map es,ob=>∃E clk,ob=some (.map E clk)/\ae (fun(p:Lf×Lf) (e:MapEntry)=>aA S ρ n p.1 e.key/\aA S ρ n p.2 e.val) es E.toList
 |.siter s pos,ob=>ob=some (.stringIter ⟨s.toArray⟩ pos)/\L.o=0
 |.bld u x,ob=>L.o=0/\∃t b,S.C.bt=some t/\ob=some (.cells #[.pointer (if u then some ⟨L.g,0,none⟩ else none),b] t.1 (0,0))/\mh ρ n t.2 x b
 |.loop st pend T ps as bd,ob=>∃r:Loop,ob=some (.loop r)/\r.state=FP st/\r.pending=pend.map wD/\eF S ρ n T r.tmps/\
  r.params.toList=ps/\aH S.C r.tmps.size S.dr r.assign=some as/\aH S.C r.tmps.size S.dr r.body=some bd/\noR as=true/\noR bd=true
end rel
def own:AO->Bool
 |.blk _ _ o=>o
 |.dead=>false
 |_=>true
def live:AO->Bool
 |.dead=>false
 |_=>true
def dB (H:Heap) (ρ:Rho) (k:Nat):Prop:=∀i,i<H.n->own (H.o i)=true->(ρ i).g≠k
structure aJ (S:SC) (H:Heap) (ρ:Rho) (w:World):Prop where
 obj:∀i,i<H.n->kE S ρ H.n (ρ i) (H.o i) (w.heap[(ρ i).g]?)
 ap:∀i j,i<H.n->j<H.n->i≠j->own (H.o i)=true->live (H.o j)=true->(ρ i).g≠(ρ j).g
 fx:∀k ob,S.fx k=some ob->w.heap[k]?=some ob/\dB H ρ k
 fz:∀k ob,ρ.fz k=some ob->(∃C ty fr,ob=.cells C ty fr)/\w.heap[k]?=some ob/\dB H ρ k
 dr:S.d0<=w.drawn
structure iQ (m:Nat) (H:Heap) (ρ:Rho) (w:World) (H':Heap) (ρ':Rho) (w':World):Prop where
 sz:w.heap.size<=w'.heap.size
 os:w'.os=w.os
 tape:w'.tape=w.tape
 output:w'.output=w.output
 nn:m<=H'.n
 rho:∀i,i<m->ρ' i=ρ i
 keep:∀k,k<w.heap.size->dB H ρ k->w'.heap[k]?=w.heap[k]?/\dB H' ρ' k
 fz:∀k ob,ρ.fz k=some ob->ρ'.fz k=some ob
 fn:∀k,k<w.heap.size->dB H ρ k->ρ'.fz k=ρ.fz k
abbrev Frm (H:Heap) (ρ:Rho) (w:World) (H':Heap) (ρ':Rho) (w':World):Prop:=iQ H.n H ρ w H' ρ' w'
theorem Frm.refl (H:Heap) (ρ:Rho) (w:World):Frm H ρ w H ρ w:=⟨zJ _,rfl,rfl,rfl,zJ _,fun _ _=>rfl,fun _ _ h=>⟨rfl,h⟩,fun _ _ h=>h,fun _ _ _=>rfl⟩
theorem iQ.transB {m m':Nat}{H H' H'':Heap}{ρ ρ' ρ'':Rho}{w w' w'':World}(h:iQ m H ρ w H' ρ' w') (k:iQ m' H' ρ' w' H'' ρ'' w'') (hm:m<=m'):iQ m H ρ w H'' ρ'' w'':=
 ⟨Nat.le_trans h.sz k.sz,k.os.trans h.os,k.tape.trans h.tape,k.output.trans h.output,Nat.le_trans hm k.nn,fun i hi=>(k.rho i (Nat.lt_of_lt_of_le hi hm)).trans (h.rho i hi),
  fun i hi hn=>let a:=h.keep i hi hn;let b:=k.keep i (Nat.lt_of_lt_of_le hi h.sz) a.2;⟨b.1.trans a.1,b.2⟩,fun q ob hq=>k.fz q ob (h.fz q ob hq),fun q hq hn=>(k.fn q (Nat.lt_of_lt_of_le hq h.sz) (h.keep q hq hn).2).trans (h.fn q hq hn)⟩
theorem iQ.weak {m m':Nat}{H H':Heap}{ρ ρ':Rho}{w w':World}(h:iQ m H ρ w H' ρ' w') (hm:m'<=m):iQ m' H ρ w H' ρ' w':=
 ⟨h.sz,h.os,h.tape,h.output,Nat.le_trans hm h.nn,fun i hi=>h.rho i (Nat.lt_of_lt_of_le hi hm),h.keep,h.fz,h.fn⟩
theorem iQ.trans {H H' H'':Heap}{ρ ρ' ρ'':Rho}{w w' w'':World}(h:Frm H ρ w H' ρ' w') (k:Frm H' ρ' w' H'' ρ'' w''):Frm H ρ w H'' ρ'' w'':=iQ.transB h k h.nn
section mono
variable {S:SC} {ρ ρ':Rho} {n n':Nat}
structure Ext (ρ:Rho) (n:Nat) (ρ':Rho) (n':Nat):Prop where
 le:n<=n'
 eq:∀i,i<n->ρ' i=ρ i
 fz:∀k ob,ρ.fz k=some ob->ρ'.fz k=some ob
theorem Ext.refl (ρ:Rho) (n:Nat):Ext ρ n ρ n:=⟨zJ _,fun _ _=>rfl,fun _ _ h=>h⟩
theorem Ext.put (ρ:Rho) (n:Nat) (L:Loc):Ext ρ n (ρ.put n L) (n+1):=⟨by omega,fun i hi=>nO ρ L (by omega),fun _ _ h=>h⟩
theorem iQ.ext {H H':Heap}{w w':World}(h:Frm H ρ w H' ρ' w'):Ext ρ H.n ρ' H'.n:=⟨h.nn,h.rho,h.fz⟩
mutual
theorem aV.mono {fz fz':Nat->Option Obj}(e:∀k ob,fz k=some ob->fz' k=some ob):∀{x:Lf}{v:Value},aV S fz x v->aV S fz' x v
 |.int _ _,_,h | .bool _,_,h | .str _,_,h | .nilp,_,h | .slz,_,h | .nils,_,h | .fn _ _,_,h | .nilf,_,h | .nilm,_,h | .nili,_,h
 |.ptr _ _ _,_,h | .sl _ _ _,_,h | .yld _,_,h | .mp _,_,h=>by simp only[aV] at h ⊢ <;> exact h
 | .vrow s els,v,h=>by
   simp only[aV] at h ⊢;obtain⟨a,cap,h1,h2,h3⟩:=h;refine⟨a,cap,h1,h2,?_⟩;rcases h3 with h3 | ⟨g,o,C,ty,fr,h3,h4,h5⟩
   .exact .inl h3
   .exact .inr ⟨g,o,C,ty,fr,h3,e _ _ h4,eG.mono e h5⟩
 | .vptr cs,v,h=>by
   simp only[aV] at h ⊢;obtain⟨g,o,C,ty,fr,h3,h4,h5⟩:=h;exact⟨g,o,C,ty,fr,h3,e _ _ h4,bz.mono e h5⟩
theorem bz.mono {fz fz':Nat->Option Obj}(e:∀k ob,fz k=some ob->fz' k=some ob):∀{cs:List Lf}{C:Array Value}{o:Nat},bz S fz C o cs->bz S fz' C o cs
 |[],_,_,_=>by simp only[bz]
 | x::r,C,o,h=>by
   simp only[bz] at h ⊢;obtain⟨⟨u,h1,h2⟩,h3⟩:=h;exact⟨⟨u,h1,aV.mono e h2⟩,bz.mono e h3⟩
theorem eG.mono {fz fz':Nat->Option Obj}(e:∀k ob,fz k=some ob->fz' k=some ob):∀{els:List (List Lf)}{C:Array Value}{o s:Nat},eG S fz C o s els->eG S fz' C o s els
 |[],_,_,_,_=>by simp only[eG]
 | x::r,C,o,s,h=>by
   simp only[eG] at h ⊢;obtain⟨h1,h2,h3⟩:=h;exact⟨h1,bz.mono e h2,eG.mono e h3⟩
end
theorem aA.mono {x:Lf}{v:Value}(h:aA S ρ n x v) (e:Ext ρ n ρ' n'):aA S ρ' n' x v:=by
 cases x <;> simp only[aA] at h ⊢ <;> try exact h
 .obtain⟨hb,h⟩:=h;exact⟨Nat.lt_of_lt_of_le hb e.le,by rw[e.eq _ hb];exact h⟩
 .obtain⟨hb,h⟩:=h;exact⟨Nat.lt_of_lt_of_le hb e.le,by rw[e.eq _ hb];exact h⟩
 .obtain⟨hc,h⟩:=h;refine⟨fun c hcm=>Nat.lt_of_lt_of_le (hc c hcm) e.le,?_⟩;rw[h]
  congr 2
  refine List.map_congr_left fun c hcm=>?_
  unfold bY;rw[e.eq _ (hc c hcm)]
 .obtain⟨hb,h⟩:=h;exact⟨Nat.lt_of_lt_of_le hb e.le,by rw[e.eq _ hb];exact h⟩
 .obtain⟨hb,h⟩:=h;exact⟨Nat.lt_of_lt_of_le hb e.le,by rw[e.eq _ hb];exact h⟩
 .exact aV.mono e.fz h
 .exact aV.mono e.fz h
theorem ik.mono {x:AV}{v:Value}(h:ik S ρ n x v) (e:Ext ρ n ρ' n'):ik S ρ' n' x v:=by
 cases x with
 |one x=>exact aA.mono h e
 |agg cs=>obtain⟨arr,rfl,h⟩:=h;exact⟨arr,rfl,h.mono fun _ _ h=>h.mono e⟩
 |tup vs=>exact h
theorem aN.mono {x:AV}{v:Value}(h:aN S ρ n x v) (e:Ext ρ n ρ' n'):aN S ρ' n' x v:=by
 cases x with
 |one x=>exact aA.mono h e
 |agg cs=>exact ik.mono (x:=.agg cs) h e
 | tup vs=>
   rcases h with h | ⟨arr,rfl,h⟩
   .exact .inl h
   .exact .inr ⟨arr,rfl,h.mono fun _ _ h=>h.mono e⟩
theorem eF.mono {T:Tm}{tmps:Array Value}(h:eF S ρ n T tmps) (e:Ext ρ n ρ' n'):eF S ρ' n' T tmps:=fun k v hk=>(h k v hk).mono e
theorem mh.mono {t:TypeId}{x:Option (Nat×Nat)}{b:Value}(h:mh ρ n t x b) (e:Ext ρ n ρ' n'):mh ρ' n' t x b:=by
 cases x with
 |none=>exact h
 |some p=>obtain⟨hk,h⟩:=h;exact⟨Nat.lt_of_lt_of_le hk e.le,by rw[e.eq _ hk];exact h⟩
theorem kE.mono {L:Loc}{x:AO}{ob:Option Obj}(h:kE S ρ n L x ob) (e:Ext ρ n ρ' n'):kE S ρ' n' L x ob:=by
 cases x with
 | blk s els o=>
   obtain⟨hs,C,ty,fr,h1,h2,h3⟩:=h;exact⟨hs,C,ty,fr,h1,fun k e' hk=>⟨(h2 k e' hk).1,fun j x hj=>let ⟨v,hv,hl⟩:=(h2 k e' hk).2 j x hj;⟨v,hv,hl.mono e⟩⟩,h3⟩
 |dead=>trivial
 |map es=>obtain⟨E,clk,h1,h2⟩:=h;exact⟨E,clk,h1,h2.mono fun _ _ h=>⟨h.1.mono e,h.2.mono e⟩⟩
 |siter s pos=>exact h
 |bld u x=>obtain⟨h0,t,b,h1,h2,h3⟩:=h;exact⟨h0,t,b,h1,h2,h3.mono e⟩
 |loop st pend T ps as bd=>obtain⟨r,h1,h2,h3,h4,h5⟩:=h;exact⟨r,h1,h2,h3,h4.mono e,h5⟩
end mono
theorem eF.put {S:SC}{ρ:Rho}{n:Nat}{T:Tm}{tmps:Array Value}(h:eF S ρ n T tmps) {d:Nat}{x:AV}{v:Value}(hv:aN S ρ n x v):eF S ρ n (EA.put T d x) (tmps.setIfInBounds d v):=by
 intro k u hk;unfold EA.put;by_cases e:k=d
 .subst e;rw[if_pos rfl];have hlt:k<tmps.size:=by have:=(zQ.1 hk).1;simpa using this
  rw[Array.getElem?_setIfInBounds_self_of_lt hlt] at hk;cases hk;exact hv
 .rw[if_neg e];rw[Array.getElem?_setIfInBounds_ne (by omega)] at hk;exact h k u hk
theorem rQ {S:SC}{ρ:Rho}{n:Nat}:aN S ρ n und undef:=.inr ⟨#[],rfl,ae.nil⟩
section heap
variable {S:SC} {H:Heap} {ρ:Rho} {w:World}
theorem aJ.lt (h:aJ S H ρ w) {i:Nat}(hi:i<H.n) (ho:own (H.o i)=true):(ρ i).g<w.heap.size:=by
 have:=h.obj i hi;cases hx:H.o i with
 |blk s els o=>rw[hx] at this;obtain⟨_,C,ty,fr,h1,_⟩:=this;exact(zQ.1 h1).1
 |dead=>rw[hx] at ho;cases ho
 |map es=>rw[hx] at this;obtain⟨E,clk,h1,_⟩:=this;exact(zQ.1 h1).1
 |siter s pos=>rw[hx] at this;exact(zQ.1 this.1).1
 |bld u x=>rw[hx] at this;obtain⟨_,t,b,_,h1,_⟩:=this;exact(zQ.1 h1).1
 |loop st pend T ps as bd=>rw[hx] at this;obtain⟨r,h1,_⟩:=this;exact(zQ.1 h1).1
theorem aJ.lt' (h:aJ S H ρ w) {i:Nat}(hi:i<H.n) (ho:live (H.o i)=true):(ρ i).g<w.heap.size:=by
 have:=h.obj i hi;cases hx:H.o i with
 |blk s els o=>rw[hx] at this;obtain⟨_,C,ty,fr,h1,_⟩:=this;exact(zQ.1 h1).1
 |dead=>rw[hx] at ho;cases ho
 |map es=>rw[hx] at this;obtain⟨E,clk,h1,_⟩:=this;exact(zQ.1 h1).1
 |siter s pos=>rw[hx] at this;exact(zQ.1 this.1).1
 |bld u x=>rw[hx] at this;obtain⟨_,t,b,_,h1,_⟩:=this;exact(zQ.1 h1).1
 |loop st pend T ps as bd=>rw[hx] at this;obtain⟨r,h1,_⟩:=this;exact(zQ.1 h1).1
theorem aJ.mk2 {H':Heap}{ρ':Rho}{w':World}(h:aJ S H ρ w) (obj:∀i,i<H'.n->kE S ρ' H'.n (ρ' i) (H'.o i) (w'.heap[(ρ' i).g]?))
 (ap:∀i j,i<H'.n->j<H'.n->i≠j->own (H'.o i)=true->live (H'.o j)=true->(ρ' i).g≠(ρ' j).g) (f:Frm H ρ w H' ρ' w') (hz:ρ'.fz=ρ.fz:=by rfl) (hdr:w.drawn<=w'.drawn:=by exact zJ _):aJ S H' ρ' w'/\Frm H ρ w H' ρ' w':=
 ⟨⟨obj,ap,fun k ob hk=>let a:=h.fx k ob hk;let b:=f.keep k (zQ.1 a.1).1 a.2;⟨b.1.trans a.1,b.2⟩,
   fun k ob hk=>let a:=h.fz k ob (by rw[<- hz];exact hk);let b:=f.keep k (zQ.1 a.2.1).1 a.2.2;⟨a.1,b.1.trans a.2.1,b.2⟩,Nat.le_trans h.dr hdr⟩,f⟩
theorem heap_alloc (w:World) (ob:Obj) (k:Nat):(w.alloc ob).heap[k]?=if k=w.heap.size then some ob else w.heap[k]?:=by
 show (w.heap.push ob)[k]?=_;rw[Array.getElem?_push]
theorem aJ.push (h:aJ S H ρ w) {x:AO}{ob:Obj}{L:Loc}(hg:L.g=w.heap.size) (hx:kE S (ρ.put H.n L) (H.n+1) L x (some ob)) :
 aJ S (H.push x) (ρ.put H.n L) (w.alloc ob)/\Frm H ρ w (H.push x) (ρ.put H.n L) (w.alloc ob):=by
 have hp:∀i,i<H.n->ρ.put H.n L i=ρ i:=fun i hi=>nO ρ L (by omega)
 have hn:ρ.put H.n L H.n=L:=aQ ρ H.n L;have ho:∀i,i<H.n->(H.push x).o i=H.o i:=fun i hi=>by simp only[Heap.push,EA.put];rw[if_neg (by omega)]
 have hon:(H.push x).o H.n=x:=if_pos rfl;refine aJ.mk2 h (fun i hi=>?_) (fun i j hi hj hne hoi hlj=>?_) ⟨by simp,rfl,rfl,rfl,by simp[Heap.push],hp,fun k hk hni=>⟨?_,fun i hi hoi=>?_⟩,fun _ _ h=>h,fun _ _ _=>rfl⟩
 .have hi':i<H.n+1:=hi;rcases Nat.lt_or_ge i H.n with hl | hl
  .rw[hp i hl,ho i hl];cases hd:live (H.o i) with
   | false=>
     have:H.o i=.dead:=by revert hd; cases H.o i <;> simp[live]
     rw[this];trivial
   | true=>
     rw[heap_alloc,if_neg (by have:=h.lt' hl hd;omega)];exact(h.obj i hl).mono (Ext.put ρ H.n L)
  .have:i=H.n:=by omega
   subst this;rw[hn,hon,heap_alloc,if_pos hg];exact hx
 .have hi':i<H.n+1:=hi;have hj':j<H.n+1:=hj;rcases Nat.lt_or_ge i H.n with hl | hl <;> rcases Nat.lt_or_ge j H.n with hl2 | hl2
  .rw[hp i hl,hp j hl2];rw[ho i hl] at hoi;rw[ho j hl2] at hlj;exact h.ap i j hl hl2 hne hoi hlj
  .have:j=H.n:=by omega
   subst this;rw[hp i hl,hn,hg];rw[ho i hl] at hoi;have:=h.lt hl hoi;omega
  .have:i=H.n:=by omega
   subst this;rw[hp j hl2,hn,hg];rw[ho j hl2] at hlj;have:=h.lt' hl2 hlj;omega
  .omega
 .rw[heap_alloc,if_neg (by omega)]
 .have hi':i<H.n+1:=hi;rcases Nat.lt_or_ge i H.n with hl | hl
  .rw[hp i hl];rw[ho i hl] at hoi;exact hni i hl hoi
  .have:i=H.n:=by omega
   subst this;rw[hn,hg];omega
theorem aJ.turn (h:aJ S H ρ w) {b:Nat}(hb:b<H.n) (hob:own (H.o b)=true) {x:AO}{w':World}(hx:kE S ρ H.n (ρ b) x (w'.heap[(ρ b).g]?)) (hlx:live x=true)
 (hsz:w'.heap.size=w.heap.size) (hos:w'.os=w.os) (htp:w'.tape=w.tape) (hout:w'.output=w.output) (hk:∀k,k≠(ρ b).g->w'.heap[k]?=w.heap[k]?) (hdr:w.drawn<=w'.drawn:=by exact zJ _) :
 aJ S (H.set b x) ρ w'/\Frm H ρ w (H.set b x) ρ w':=by
 have ho:∀i,i≠b->(H.set b x).o i=H.o i:=fun i hi=>by simp only[Heap.set,EA.put];rw[if_neg hi]
 have hon:(H.set b x).o b=x:=if_pos rfl;have hlb:live (H.o b)=true:=by revert hob; cases H.o b <;> simp[own,live]
 refine aJ.mk2 h (fun i hi=>?_) (fun i j hi hj hne hoi hlj=>?_) ⟨by omega,hos,htp,hout,zJ _,fun _ _=>rfl,fun k hk' hni=>⟨?_,fun i hi hoi=>?_⟩,fun _ _ h=>h,fun _ _ _=>rfl⟩ rfl hdr
 .by_cases e:i=b
  .subst e;rw[hon];exact hx
  .rw[ho i e];cases hd:live (H.o i) with
   | false=>
     have:H.o i=.dead:=by revert hd; cases H.o i <;> simp[live]
     rw[this];trivial
   | true=>
     rw[hk _ (Ne.symm (h.ap b i hb hi (Ne.symm e) hob hd))];exact h.obj i hi
 .by_cases e:i=b
  .subst e;exact h.ap i j hi hj hne hob (by rw[ho j (Ne.symm hne)] at hlj;exact hlj)
  .rw[ho i e] at hoi;by_cases e2:j=b
   .subst e2;exact h.ap i j hi hj hne hoi hlb
   .rw[ho j e2] at hlj;exact h.ap i j hi hj hne hoi hlj
 .exact hk k (Ne.symm (hni b hb hob))
 .by_cases e:i=b
  .subst e;exact hni i hi hob
  .rw[ho i e] at hoi;exact hni i hi hoi
theorem aJ.kill (h:aJ S H ρ w) (b:Nat):aJ S (H.set b .dead) ρ w/\Frm H ρ w (H.set b .dead) ρ w:=by
 have ho:∀i,i≠b->(H.set b .dead).o i=H.o i:=fun i hi=>by simp only[Heap.set,EA.put];rw[if_neg hi]
 have hon:(H.set b .dead).o b=.dead:=if_pos rfl;refine aJ.mk2 h (fun i hi=>?_) (fun i j hi hj hne hoi hlj=>?_) ⟨zJ _,rfl,rfl,rfl,zJ _,fun _ _=>rfl,fun k hk' hni=>⟨rfl,fun i hi hoi=>?_⟩,fun _ _ h=>h,fun _ _ _=>rfl⟩
 .by_cases e:i=b
  .subst e;rw[hon];trivial
  .rw[ho i e];exact h.obj i hi
 .by_cases e:i=b
  .subst e;rw[hon] at hoi;cases hoi
  .by_cases e2:j=b
   .subst e2;rw[hon] at hlj;cases hlj
   .rw[ho i e] at hoi;rw[ho j e2] at hlj;exact h.ap i j hi hj hne hoi hlj
 .by_cases e:i=b
  .subst e;rw[hon] at hoi;cases hoi
  .rw[ho i e] at hoi;exact hni i hi hoi
theorem aJ.drew (h:aJ S H ρ w):aJ S H ρ w.drew:=⟨h.obj,h.ap,h.fx,h.fz,Nat.le_succ_of_le h.dr⟩
theorem Frm.drew:Frm H ρ w H ρ w.drew:=⟨zJ _,rfl,rfl,rfl,zJ _,fun _ _=>rfl,fun _ _ hn=>⟨rfl,hn⟩,fun _ _ h=>h,fun _ _ _=>rfl⟩
end heap
end Go.EA
end
section
namespace Go.EA
section
variable {S:SC} {ρ:Rho} {n:Nat}
theorem kv {v:Value}{x:Lf}(h:lX v=some x):aA S ρ n x v:=by
 unfold lX at h;split at h <;> simp at h
 all_goals (subst h;simp[aA])
theorem bn:∀{vs:List Value}{cs:List Lf},dI vs=some cs->ae (aA S ρ n) cs vs
 |[],cs,h=>by simp[dI] at h;subst h;exact ae.nil
 | v::r,cs,h=>by
   simp only[dI] at h;split at h
   .rename_i x l hx hl;simp at h;subst h;exact ae.cons (kv hx) (bn hl)
   .cases h
theorem uk {v:Value}{x:AV}(h:nS v=some x):aN S ρ n x v:=by
 unfold nS at h;split at h
 .rename_i cs;cases hc:dI cs.toList with
  |none=>rw[hc] at h;cases h
  |some l=>rw[hc] at h;simp at h;subst h;exact⟨cs,rfl,bn hc⟩
 .rename_i vs;split at h
  .rename_i he;simp at h;subst h;refine .inr ⟨vs,rfl,?_⟩;have:vs=#[]:=by simpa using he
   subst this;exact ae.nil
  .cases h
 .rename_i h1 h2;cases hc:lX v with
  |none=>rw[hc] at h;cases h
  |some l=>rw[hc] at h;simp at h;subst h;exact kv hc
structure SC.Ok (S:SC):Prop where
 ren:∀f i,S.C.ren f=some i->S.re i=f
variable {nt:Nat} {T:Tm} {a:Act}
theorem ll (hS:S.Ok) (hT:eF S ρ n T a.tmps) (hn:a.tmps.size=nt) {x:Operand}{y:Opd}(h:aX S.C nt x=some y):aN S ρ n (y.ev T) (a.eval x):=by
 cases x with
 | tmp t=>
   simp only[aX] at h;split at h
   .rename_i ht;simp at h;subst h;refine hT t _ ?_;show a.tmps[t]?=some (a.tmps.getD t undef);rw[Array.getD_eq_getD_getElem?,Array.getElem?_eq_getElem (show t<a.tmps.size by rw[hn];exact ht)]
    rfl
   .cases h
 | const v=>
   simp only[aX] at h;cases hc:nS v with
   |none=>rw[hc] at h;cases h
   |some z=>rw[hc] at h;simp at h;subst h;exact uk hc
 |global g=>cases h
 | func f=>
   simp only[aX] at h;cases hc:S.C.ren f with
   |none=>rw[hc] at h;cases h
   | some i=>
     rw[hc] at h;simp at h;subst h;refine⟨by simp,?_⟩;show Value.func (.func f) #[] #[]=_;rw[hS.ren f i hc]
     rfl
theorem vH (hS:S.Ok) (hT:eF S ρ n T a.tmps) (hn:a.tmps.size=nt):∀{xs:List Operand}{ys:List Opd},fe S.C nt xs=some ys->ae (aN S ρ n) (ys.map (·.ev T)) (xs.map a.eval)
 |[],ys,h=>by simp[fe] at h;subst h;exact ae.nil
 | x::r,ys,h=>by
   simp only[fe] at h;split at h
   .rename_i y l hy hl;simp at h;subst h;exact ae.cons (ll hS hT hn hy) (vH hS hT hn hl)
   .cases h
theorem aN.one {x:Lf}{v:Value}(h:aN S ρ n (.one x) v):aA S ρ n x v:=h
theorem aN.agg {cs:List Lf}{v:Value}(h:aN S ρ n (.agg cs) v):∃arr,v=.agg arr/\ae (aA S ρ n) cs arr.toList:=h
theorem aN.tup {vs:List AV}{v:Value}(hj:(AV.tup vs).isJ=false) (h:aN S ρ n (.tup vs) v):∃arr,v=.tuple arr/\ae (ik S ρ n) vs arr.toList:=by
 rcases h with h | h
 .rw[hj] at h;cases h
 .exact h
theorem aA.cells {x:Lf}{v:Value}(h:aA S ρ n x v):v.cells=#[v]/\v.oneCell'=true:=by
 cases x <;> simp only[aA] at h
 case sl=>obtain⟨_,a,c,rfl,_⟩:=h;exact⟨rfl,rfl⟩
 case slz=>obtain⟨a,rfl⟩:=h;exact⟨rfl,rfl⟩
 case vrow=>simp only[aV] at h;obtain⟨a,c,rfl,_⟩:=h;exact⟨rfl,rfl⟩
 case vptr=>simp only[aV] at h;obtain⟨g,o,C,ty,fr,rfl,_⟩:=h;exact⟨rfl,rfl⟩
 all_goals (first | subst h | (obtain⟨_,rfl⟩:=h));exact⟨rfl,rfl⟩
theorem aN.cells {x:AV}{v:Value}(h:aN S ρ n x v) {p:List Lf}(hx:x.cells?=some p):ae (aA S ρ n) p v.cells.toList:=by
 cases x with
 |one x=>simp[AV.cells?] at hx;subst hx;rw[(aA.cells h).1];exact ae.cons h ae.nil
 |agg cs=>simp[AV.cells?] at hx;subst hx;obtain⟨arr,rfl,h⟩:=h;exact h
 |tup vs=>cases hx
theorem Gd {x:AV}{v:Value}(h:aN S ρ n x v) {k:Nat}(hk:iF x=some k):∃kd,v=.int kd k:=by
 cases x with
 | one x=>
   cases x <;> simp only[iF] at hk
   case int kd m=>
    split at hk
    .rename_i h0;simp at hk;refine⟨kd,?_⟩;have h':v=.int kd m:=h;rw[h',<- hk,Int.toNat_of_nonneg h0]
    .cases hk
   all_goals cases hk
 |agg cs=>cases hk
 |tup vs=>cases hk
end
def dH (S:SC) (H:Heap) (ρ:Rho) (w:World) (v:AV) (H':Heap) (r:Result Next):Prop:=
 ∃ρ' w',aJ S H' ρ' w'/\Frm H ρ w H' ρ' w'/\((∃u,r=.ok (.value u) w'/\aN S ρ' H'.n v u)\/(r=.ok .skip w'/\v=und))
section
variable {S:SC} {H:Heap} {ρ:Rho} {w:World} {v:AV} {r:Result Next}
theorem dH.same (h:aJ S H ρ w) {u:Value}(hr:r=.ok (.value u) w) (hv:aN S ρ H.n v u):dH S H ρ w v H r:=⟨ρ,w,h,Frm.refl _ _ _,.inl ⟨u,hr,hv⟩⟩
theorem bq (P:Program) (s:Sem Value) {u:Value}{w':World}(h:s.run P w=.ok u w'):(do pure (.value (<- s)):Sem Next).run P w=.ok (.value u) w':=by
 rw[Sem.run_bind,h];rfl
theorem IG (P:Program) (s:Sem Unit) {w':World}(h:s.run P w=.ok () w'):(do s;pure .skip:Sem Next).run P w=.ok .skip w':=by
 rw[Sem.run_bind,h];rfl
end
end Go.EA
end
section
namespace Go.EA
section
variable {S:SC} {w:World}
theorem vF (P:Program) {op:BinOp}{k:IntKind}{x y r:Int}(h:rG op k x y=some r):(Op.intBits op k x y).run P w=.ok (.int k r) w:=by
 unfold rG at h;unfold Op.intBits;cases op <;> simp only[zE,reduceCtorEq] at h <;> (subst h; rfl)
def Ans (S:SC) (w:World) (P:Program) (s:Sem Value) (v:AV):Prop:=∃z u,v=.one z/\s.run P w=.ok u w/\∀ρ n,aA S ρ n z u
theorem Gj (P:Program) (t:TypeId) {op:BinOp}{k:IntKind}{x y:Int}{v:AV}(h:jK op k x y=some v):Ans S w P (binOp op t (.int k x) (.int k y)) v:=by
 unfold jK at h;cases op
 case add=>simp at h;subst h;exact⟨_,_,rfl,by simp[binOp,Op.intArith],fun _ _=>rfl⟩
 case sub=>simp at h;subst h;exact⟨_,_,rfl,by simp[binOp,Op.intArith],fun _ _=>rfl⟩
 case mul=>simp at h;subst h;exact⟨_,_,rfl,by simp[binOp,Op.intArith],fun _ _=>rfl⟩
 case quo=>simp at h;obtain⟨h0,rfl⟩:=h;exact⟨_,_,rfl,by simp[binOp,Op.intDiv,h0],fun _ _=>rfl⟩
 case rem=>simp at h;obtain⟨h0,rfl⟩:=h;exact⟨_,_,rfl,by simp[binOp,Op.intDiv,h0],fun _ _=>rfl⟩
 case eql=>simp at h;subst h;exact⟨_,.bool (x == y),rfl,by simp[binOp,Op.intCmp],fun _ _=>by simp[aA,BEq.beq]⟩
 case neq=>simp at h;subst h;exact⟨_,.bool (x != y),rfl,by simp[binOp,Op.intCmp],fun _ _=>by simp[aA,bne,BEq.beq]⟩
 case lss=>simp at h;subst h;exact⟨_,.bool (decide (x<y)),rfl,by simp[binOp,Op.intCmp],fun _ _=>rfl⟩
 case leq=>simp at h;subst h;exact⟨_,.bool (decide (x<=y)),rfl,by simp[binOp,Op.intCmp],fun _ _=>rfl⟩
 case gtr=>simp at h;subst h;exact⟨_,.bool (decide (x > y)),rfl,by simp[binOp,Op.intCmp],fun _ _=>rfl⟩
 case geq=>simp at h;subst h;exact⟨_,.bool (decide (x ≥ y)),rfl,by simp[binOp,Op.intCmp],fun _ _=>rfl⟩
 case shl=>cases h
 case shr=>cases h
 all_goals
  simp only[zD] at h;obtain⟨r,hr,rfl⟩:=h;exact⟨_,.int k r,rfl,by simp only[binOp,ne_eq,not_true_eq_false,if_false];exact vF P hr,fun _ _=>rfl⟩
theorem rq (P:Program) (t:TypeId) {op:BinOp}{k k':IntKind}{x y:Int}{v:AV}(hop:op=.shl\/op=.shr) (h:nW op k x y=some v):Ans S w P (binOp op t (.int k x) (.int k' y)) v:=by
 unfold nW at h;split at h
 .cases h
 .rename_i h0;rcases hop with rfl | rfl
  .simp at h;subst h;exact⟨_,.int k (k.wrap (x*2 ^ (min y.toNat k.bits))),rfl,by simp[binOp,Op.shift,h0],fun _ _=>rfl⟩
  .simp at h;subst h;exact⟨_,.int k (x.fdiv (2 ^ (min y.toNat k.bits))),rfl,by simp[binOp,Op.shift,h0],fun _ _=>rfl⟩
theorem toList_mk (s:List UInt8):(⟨s.toArray⟩:ByteArray).toList=s:=by
 rw[ByteArray.toList_eq]
theorem size_mk (s:List UInt8):(⟨s.toArray⟩:ByteArray).size=s.length:=by simp[ByteArray.size]
theorem ES (x y:List UInt8):(x == y)=decide (x=y):=by
 by_cases h:x=y
 .simp[h]
 .simp[h]
theorem Fx (P:Program) (t:TypeId) {op:BinOp}{x y:List UInt8}{v:AV}(h:rA op x y=some v):Ans S w P (binOp op t (.string ⟨x.toArray⟩) (.string ⟨y.toArray⟩)) v:=by
 unfold rA at h;cases op
 case add=>
  simp only at h;split at h
  .rename_i hl;simp at h;subst h;refine⟨_,.string ⟨(x++y).toArray⟩,rfl,?_,fun _ _=>rfl⟩;have h1:¬ ((((⟨x.toArray⟩:ByteArray).size+(⟨y.toArray⟩:ByteArray).size:Nat):Int) > IntKind.i64.max):=by
    rw[size_mk,size_mk];have:IntKind.i64.max=9223372036854775807:=by decide
    rw[this];omega
   simp only[binOp,Op.stringOp,if_neg h1];show Result.ok _ w=_
   congr 2
  .cases h
 case eql=>simp at h;subst h;exact⟨_,.bool (x == y),rfl,by simp[binOp,Op.stringOp,toList_mk],fun _ _=>by simp[aA,ES]⟩
 case neq=>simp at h;subst h;exact⟨_,.bool (!(x == y)),rfl,by simp[binOp,Op.stringOp,toList_mk],fun _ _=>by simp[aA,ES]⟩
 case lss=>simp at h;subst h;exact⟨_,.bool (Op.bytesLess x y),rfl,by simp[binOp,Op.stringOp,toList_mk],fun _ _=>by simp[aA]⟩
 case leq=>simp at h;subst h;exact⟨_,.bool (Op.bytesLess x y||x == y),rfl,by simp[binOp,Op.stringOp,toList_mk],fun _ _=>by simp[aA,ES]⟩
 case gtr=>simp at h;subst h;exact⟨_,.bool (!(Op.bytesLess x y||x == y)),rfl,by simp[binOp,Op.stringOp,toList_mk],fun _ _=>by simp[aA,ES]⟩
 case geq=>simp at h;subst h;exact⟨_,.bool (!Op.bytesLess x y),rfl,by simp[binOp,Op.stringOp,toList_mk],fun _ _=>by simp[aA]⟩
 all_goals cases h
end
end Go.EA
end
section
namespace Go.EA
section
variable {S:SC} {H:Heap} {ρ:Rho} {w:World}
theorem bg {P:Program}{t:TypeId}{d:TypeDesc}(h:P.underlying t=some d):(underlying t).run P w=.ok d w:=by
 unfold underlying;simp[h]
theorem pV {P:Program}{t:TypeId}{i:TypeInfo}(h:P.info? t=some i):(typeInfo t).run P w=.ok i w:=by
 unfold typeInfo;simp[h]
theorem df {P:Program}{t:TypeId}{n:Nat}(h:bM P t=some n):(sizeOf t).run P w=.ok n w:=by
 unfold bM at h;obtain⟨i,hi,rfl⟩:=zD.1 h;unfold sizeOf;simp[pV hi]
theorem iJ {P:Program}{t:TypeId}{g:Bool}(h:dM P t=some g):(isAgg t).run P w=.ok g w:=by
 unfold dM at h;unfold isAgg;split at h <;> rename_i hd <;> simp at h
 .subst h;simp[bg hd]
 .subst h;simp[bg hd]
 .subst h;rename_i d h1 h2;simp[bg hd]
theorem pg {P:Program}{t:TypeId}{z:List Lf}(h:fE P t=some z):∃v,(zeroValue t).run P w=.ok v w/\dI v.cells.toList=some z:=by
 unfold fE at h;split at h
 .rename_i i hi;split at h
  .rename_i v hv;refine⟨v,?_,h⟩;unfold zeroValue;simp[pV hi,hv]
  .cases h
 .cases h
theorem Be {P:Program}{t:TypeId}{k:EqK}(hk:iH P t=some k) {n:Nat}{x y:Lf}{v u:Value}(h1:aA S ρ n x v) (h2:aA S ρ n y u) {r:Bool}(h:EK k x y=some r) :
 (Op.equal t v u).run P w=.ok r w/\(∀k' m,v≠.int k' m)/\(∀s,v≠.string s)/\(∀fk b,v≠.float fk b)/\(∀fk b c,v≠.complex fk b c)/\v≠.nilIface/\(∀c,v≠.agg c):=by
 have hu:∃d,P.underlying t=some d/\(k=.bool->d=.bool)/\(k=.ptr->∃e,d=.pointer e)/\(k=.slc->∃e,d=.slice e)/\(k=.fnc->∃a b c,d=.func a b c)/\(k=.map->∃a b,d=.map a b):=by
  unfold iH at hk;split at hk <;> rename_i hd <;> simp at hk
  all_goals first
   |(subst hk;exact⟨_,hd,by simp,by simp,by simp,by simp,by simp⟩)
   |skip
  obtain⟨m,hm,rfl⟩:=hk;unfold Af at hm;split at hm
  .rename_i fs hf;exact⟨_,hf,by simp,by simp,by simp,by simp,by simp⟩
  .cases hm
 obtain⟨d,hd,hb,hp,hs,hf,hm⟩:=hu;have key:∀(dep:Nat),(Op.equalIn (dep+1) t v u).run P w=.ok r w/\(∀k' m,v≠.int k' m)/\(∀s,v≠.string s)/\(∀fk b,v≠.float fk b)/\(∀fk b c,v≠.complex fk b c)/\v≠.nilIface/\(∀c,v≠.agg c):=by
  intro dep;unfold EK at h;split at h <;> simp at h <;> subst h
  all_goals simp only[aA] at h1 h2
  case h_1=>obtain⟨e,rfl⟩:=hp rfl;subst h1 h2;simp[Op.equalIn,bg hd]
  case h_2=>obtain⟨e,rfl⟩:=hp rfl;obtain⟨_,rfl⟩:=h1;subst h2;simp[Op.equalIn,bg hd]
  case h_3=>obtain⟨e,rfl⟩:=hp rfl;obtain⟨_,rfl⟩:=h2;subst h1;simp[Op.equalIn,bg hd]
  case h_4=>obtain⟨e,rfl⟩:=hs rfl;subst h1 h2;simp[Op.equalIn,bg hd]
  case h_5=>obtain⟨e,rfl⟩:=hs rfl;obtain⟨_,a,c,rfl,_⟩:=h1;subst h2;simp[Op.equalIn,bg hd]
  case h_6=>obtain⟨e,rfl⟩:=hs rfl;obtain⟨_,a,c,rfl,_⟩:=h2;subst h1;simp[Op.equalIn,bg hd]
  case h_7=>obtain⟨e,rfl⟩:=hs rfl;simp only[aV] at h1;obtain⟨a,c,rfl,_,h3⟩:=h1;subst h2;rcases h3 with h3 | ⟨g,o,C,ty,fr,rfl,_⟩;cases h3;simp[Op.equalIn,bg hd]
  case h_8=>obtain⟨e,rfl⟩:=hs rfl;simp only[aV] at h2;obtain⟨a,c,rfl,_,h3⟩:=h2;subst h1;rcases h3 with h3 | ⟨g,o,C,ty,fr,rfl,_⟩;cases h3;simp[Op.equalIn,bg hd]
  case h_9=>obtain⟨e,rfl⟩:=hp rfl;simp only[aV] at h1;obtain⟨g,o,C,ty,fr,rfl,_⟩:=h1;subst h2;simp[Op.equalIn,bg hd]
  case h_10=>obtain⟨e,rfl⟩:=hp rfl;simp only[aV] at h2;obtain⟨g,o,C,ty,fr,rfl,_⟩:=h2;subst h1;simp[Op.equalIn,bg hd]
  case h_11=>obtain⟨a,b,c,rfl⟩:=hf rfl;subst h1 h2;simp[Op.equalIn,bg hd]
  case h_12=>obtain⟨a,b,c,rfl⟩:=hf rfl;obtain⟨_,rfl⟩:=h1;subst h2;simp[Op.equalIn,bg hd]
  case h_13=>obtain⟨a,b,c,rfl⟩:=hf rfl;obtain⟨_,rfl⟩:=h2;subst h1;simp[Op.equalIn,bg hd]
  case h_14=>obtain⟨a,b,rfl⟩:=hm rfl;subst h1 h2;simp[Op.equalIn,bg hd]
  case h_15=>obtain⟨a,b,rfl⟩:=hm rfl;obtain⟨_,rfl⟩:=h1;subst h2;simp[Op.equalIn,bg hd]
  case h_16=>obtain⟨a,b,rfl⟩:=hm rfl;obtain⟨_,rfl⟩:=h2;subst h1;simp[Op.equalIn,bg hd]
  case h_17=>obtain rfl:=hb rfl;subst h1 h2;simp[Op.equalIn,bg hd,BEq.beq]
 exact key 9999
theorem JJ {P:Program}{t:TypeId}{k:PK}(hk:pkT P t=some k) {n:Nat}{x y:Lf}{ks:List PK}{xs ys:List Lf}{v u:Value}(h1:aA S ρ n x v) (h2:aA S ρ n y u)
 (ox:bu (k::ks) (x::xs)=true) (oy:bu (k::ks) (y::ys)=true) (d:Nat) :
 (Op.equalIn (d+1) t v u).run P w=.ok (Lf.same x y) w/\bu ks xs=true/\bu ks ys=true/\dM P t=some false:=by
 unfold pkT at hk;split at hk <;> rename_i hd <;> simp at hk <;> subst hk
 .cases x <;> simp[bu] at ox
  cases y <;> simp[bu] at oy
  simp only[aA] at h1 h2;subst h1 h2;refine⟨?_,ox,oy,by simp[dM,hd]⟩;simp[Op.equalIn,bg hd,BEq.beq,Lf.same]
 .cases x <;> simp[bu] at ox
  cases y <;> simp[bu] at oy
  simp only[aA] at h1 h2;subst h1 h2;obtain⟨rfl,ox⟩:=ox;obtain⟨rfl,oy⟩:=oy;refine⟨?_,ox,oy,by simp[dM,hd]⟩;simp[Op.equalIn,bg hd,BEq.beq,Lf.same]
 .cases x <;> simp[bu] at ox
  cases y <;> simp[bu] at oy
  simp only[aA] at h1 h2;subst h1 h2;refine⟨?_,ox,oy,by simp[dM,hd]⟩;rename_i a b;rw[run_equalIn_string w d t _ _ hd,toList_mk,toList_mk,ES];simp[Lf.same]
theorem ut {P:Program}{t:TypeId}(ht:dM P t=some false) (cs:Array Value) (j:Nat) (v:Value) (h:cs[j]?=some v):(part t cs j).run P w=.ok v w:=by
 unfold part;simp[iJ ht,h]
theorem sQ {P:Program}(d n:Nat) (X Y:Array Value):∀(fs:List Field) (j:Nat) (ks:List PK) (xs ys:List Lf),uV P j fs=some ks->bu ks xs=true->bu ks ys=true->
 (∀i x,xs[i]?=some x->∃v,X[j+i]?=some v/\aA S ρ n x v)->(∀i x,ys[i]?=some x->∃v,Y[j+i]?=some v/\aA S ρ n x v)->
 (Op.eqFields (d+1) X Y fs).run P w=.ok (gu xs ys) w:=by
 intro fs
 induction fs with
 | nil=>
   intro j ks xs ys hf ox oy _ _;simp[uV] at hf;subst hf;cases xs <;> simp[bu] at ox
   cases ys <;> simp[bu] at oy
   simp[Op.eqFields,gu]
 | cons f fs ih=>
   intro j ks xs ys hf ox oy hX hY;simp only[uV] at hf;split at hf
   .rename_i k l hk hl;split at hf
    .rename_i hc;simp at hf;subst hf;cases xs with
     |nil=>cases k <;> simp[bu] at ox
     | cons x xs=>
       cases ys with
       |nil=>cases k <;> simp[bu] at oy
       | cons y ys=>
         obtain⟨v,hv,hv2⟩:=hX 0 x rfl;obtain⟨u,hu,hu2⟩:=hY 0 y rfl;obtain⟨he,ox',oy',ha⟩:=JJ (w:=w) hk hv2 hu2 ox oy d;have hr:=ih (j+1) l xs ys hl ox' oy' (fun i z hz=>by have:=hX (i+1) z (by simpa using hz);rwa [show j+(i+1)=j+1+i by omega] at this)
          (fun i z hz=>by have:=hY (i+1) z (by simpa using hz);rwa [show j+(i+1)=j+1+i by omega] at this)
         rw[Op.eqFields];rw[if_pos hc.2];simp only[Sem.run_bind];rw[hc.1,ut ha X j v (by simpa using hv)];simp only[Result.andThen_ok];rw[ut ha Y j u (by simpa using hu)];simp only[Result.andThen_ok,he,Sem.run_bind];cases hxy:Lf.same x y
         .simp[gu,hxy]
         .simp[gu,hxy,hr]
    .cases hf
   .cases hf
theorem JA {P:Program}{t:TypeId}{k:EqK}(hk:iH P t=some k) {n:Nat}{x y v:AV}{a b:Value}(h1:aN S ρ n x a) (h2:aN S ρ n y b) {neg:Bool}(h:Eb k neg x y=some v)
 (ox oy:Operand) (op:BinOp) (hop:op=.eql\/op=.neq) (hneg:neg=decide (op=.neq)) :
 Ans S w P (do eqGuard op t ox oy a b;binOp op t a b) v:=by
 unfold Eb at h;split at h
 .rename_i ks xs ys;split at h
  .rename_i hok;simp only[zH] at hok;obtain⟨X,rfl,hX⟩:=h1.agg;obtain⟨Y,rfl,hY⟩:=h2.agg;simp at h;subst h;have hfl:Af P t=some ks:=by
    unfold iH at hk;split at hk <;> simp at hk
    exact hk
   unfold Af at hfl;split at hfl
   .rename_i fs hd;split at hfl
    .rename_i hg;have hF:P.fieldsOf t=fs:=by simp[Program.fieldsOf,hd]
     have he:(Op.equalIn 10000 t (.agg X) (.agg Y)).run P w=.ok (gu xs ys) w:=by
      rw[run_equalIn_struct w 9999 t X Y (by rw[hF];exact hd) hg.1,hF];exact sQ 9998 n X Y fs.toList 0 ks xs ys hfl hok.1 hok.2 (fun i z hz=>by obtain⟨v,hv,hr⟩:=hX.get hz;exact⟨v,by simpa using hv,hr⟩) (fun i z hz=>by obtain⟨v,hv,hr⟩:=hY.get hz;exact⟨v,by simpa using hv,hr⟩)
     refine⟨_,.bool (if neg then !gu xs ys else gu xs ys),rfl,?_,fun _ _=>?_⟩
     .rw[Sem.run_bind,run_eqGuard_agg w op t ox oy X Y hg.2];simp only[Result.andThen_ok];rcases hop with rfl | rfl
      .rw[run_eql_struct,he];simp[hneg]
      .rw[run_neq_struct,he];simp[hneg]
     .cases neg <;> simp[aA]
    .cases hfl
   .cases hfl
  .cases h
 .rename_i k' x' y';simp only[zD] at h;obtain⟨r,hr,rfl⟩:=h;obtain⟨he,h3,h4,h5,h6,h7,h8⟩:=Be (w:=w) hk h1.one h2.one hr;refine⟨_,.bool (if neg then !r else r),rfl,?_,fun _ _=>rfl⟩;have hg:(eqGuard op t ox oy a b).run P w=.ok () w:=by
   unfold eqGuard;rcases hop with rfl | rfl <;> (cases a <;> simp_all)
  rw[Sem.run_bind,hg];simp only[Result.andThen_ok];rcases hop with rfl | rfl
  .have:binOp .eql t a b=(do pure (.bool (<- Op.equal t a b))):=by
    unfold binOp;cases a <;> first | rfl | (exfalso; simp_all; done) | (cases b <;> first | rfl | (simp_all; done))
   rw[this,Sem.run_bind,he];simp[hneg]
  .have:binOp .neq t a b=(do pure (.bool (!(<- Op.equal t a b)))):=by
    unfold binOp;cases a <;> first | rfl | (exfalso; simp_all; done) | (cases b <;> first | rfl | (simp_all; done))
   rw[this,Sem.run_bind,he];simp[hneg]
 .cases h
end
end Go.EA
end
section
namespace Go.EA
section
variable {S:SC} {H:Heap} {ρ:Rho} {w:World}
theorem IM {P:Program}{n:Nat}{op:UnOp}{x v:AV}{a:Value}(h1:aN S ρ n x a) (h:Bw op x=some v):Ans S w P (Op.unary op a) v:=by
 unfold Bw at h;split at h
 .rename_i k m;obtain rfl:a=.int k m:=h1;simp at h;subst h;exact⟨_,.int k (k.wrap (0-m)),rfl,by simp[Op.unary,Op.intArith],fun _ _=>by simp[aA]⟩
 .rename_i k m;obtain rfl:a=.int k m:=h1;simp only[zD] at h;obtain⟨r,hr,rfl⟩:=h;exact⟨_,.int k r,rfl,by simp only[Op.unary];exact vF P hr,fun _ _=>rfl⟩
 .rename_i b;obtain rfl:a=.bool b:=h1;simp at h;subst h;exact⟨_,.bool (!b),rfl,by simp[Op.unary],fun _ _=>rfl⟩
 .cases h
theorem GU {P:Program}{n:Nat}{op:BinOp}{t:TypeId}{x y v:AV}{a b:Value}(ox oy:Operand) (h1:aN S ρ n x a) (h2:aN S ρ n y b) (h:di op x y=some v) :
 Ans S w P (do eqGuard op t ox oy a b;binOp op t a b) v:=by
 have hg:∀k k' p q,(eqGuard op t ox oy (.int k p) (.int k' q)).run P w=.ok () w:=by intros; unfold eqGuard; cases op <;> simp
 have hg2:∀p q,(eqGuard op t ox oy (.string p) (.string q)).run P w=.ok () w:=by intros; unfold eqGuard; cases op <;> simp
 unfold di at h;split at h
 .rename_i k p k' q;obtain rfl:a=.int k p:=h1;obtain rfl:b=.int k' q:=h2;have:∀{v},Ans S w P (binOp op t (.int k p) (.int k' q)) v->Ans S w P (do eqGuard op t ox oy (.int k p) (.int k' q);binOp op t (.int k p) (.int k' q)) v:=by
   rintro v ⟨z,u,rfl,hr,hl⟩;exact⟨z,u,rfl,by rw[Sem.run_bind,hg];exact hr,hl⟩
  refine this ?_;split at h
  .exact rq P t (.inl rfl) h
  .exact rq P t (.inr rfl) h
  .split at h
   .rename_i hk;subst hk;exact Gj P t h
   .cases h
 .rename_i p q;obtain rfl:a=.string ⟨p.toArray⟩:=h1;obtain rfl:b=.string ⟨q.toArray⟩:=h2;obtain⟨z,u,rfl,hr,hl⟩:=Fx (S:=S) (w:=w) P t h;exact⟨z,u,rfl,by rw[Sem.run_bind,hg2];exact hr,hl⟩
 .cases h
theorem CE {r:Result Next}{s:Sem Value}{v:AV}(hH:aJ S H ρ w) (h:Ans S w S.C.P s v) (hr:r=((do pure (.value (<- s)):Sem Next).run S.C.P w)):dH S H ρ w v H r:=by
 obtain⟨z,u,rfl,h1,h2⟩:=h;exact dH.same hH (hr.trans (bq _ _ h1)) (h2 ρ H.n)
theorem DL {n:Nat}{els:List (List Lf)}{C:Array Value}{L:Loc}(ho:L.o=0) (hs:∀e∈els,e.length=L.s) (hC:ae (aA S ρ n) els.flatten (C.toList.take els.flatten.length)):sK S ρ n L els C:=by
 intro k e hk;have he:=hs e (zU hk);refine⟨he,fun j x hj=>?_⟩;have hf:∀(els:List (List Lf)) (k:Nat),(∀e∈els,e.length=L.s)->els[k]?=some e->els.flatten[k*L.s+j]?=some x:=by
  intro els
  induction els with
  |nil=>intro k _ h;simp at h
  | cons d ds ih=>
    intro k hl h;cases k with
    | zero=>
      simp at h;subst h;rw[List.flatten_cons,Nat.zero_mul,Nat.zero_add,zV (zI.1 hj).1];exact hj
    | succ k=>
      simp at h;have hd:=hl d (by simp);rw[List.flatten_cons,List.getElem?_append_right (by rw[hd,Nat.succ_mul];omega),hd];have:=ih k (fun e he=>hl e (by simp[he])) h
      rwa [show (k+1)*L.s+j-L.s=k*L.s+j by rw[Nat.succ_mul];omega]
 obtain⟨v,hv,hr⟩:=hC.get (hf els k hs hk);refine⟨v,?_,hr⟩;rw[ho,Nat.zero_add];rw[List.getElem?_take] at hv;split at hv
 .rw[<- Array.getElem?_toList];exact hv
 .cases hv
theorem bQ {s:Nat}:∀{els:List (List Lf)},(∀e∈els,e.length=s)->els.flatten.length=els.length*s
 |[],_=>by simp
 | e::es,h=>by
   rw[List.flatten_cons,zL,bQ (fun e he=>h e (by simp[he])),h e (by simp),zM,Nat.succ_mul];omega
theorem aJ.row (h:aJ S H ρ w) {s:Nat}{els:List (List Lf)}{C:Array Value}{ty:TypeId}(fr:Nat×Nat:=(0,0)) (hs:∀e∈els,e.length=s) (hC:ae (aA S ρ H.n) els.flatten (C.toList.take els.flatten.length)) (hfr:fr.2<=fr.1\/C.size<=fr.1) :
 aJ S (H.push (.blk s els true)) (ρ.put H.n ⟨w.heap.size,0,s,C.size,(ty,fr)⟩) (w.alloc (.cells C ty fr))/\
 Frm H ρ w (H.push (.blk s els true)) (ρ.put H.n ⟨w.heap.size,0,s,C.size,(ty,fr)⟩) (w.alloc (.cells C ty fr)):=by
 refine h.push rfl ⟨rfl,C,ty,fr,rfl,DL rfl hs (hC.mono fun _ _ h=>h.mono (Ext.put ρ H.n _)),fun _=>⟨rfl,?_,hfr,rfl⟩⟩;have h1:=hC.1;rw[zP,bQ hs] at h1;have h2:C.toList.length=C.size:=by simp
 show 0+els.length*s<=C.size;omega
theorem Ez (h:aJ S H ρ w) {cs:List Lf}{v:Value}{ty:TypeId}(hC:ae (aA S ρ H.n) cs v.cells.toList) {r:Result Next}(hr:r=.ok (.value (.pointer (some ⟨w.heap.size,0,none⟩))) (w.alloc (.cells v.cells ty))) :
 dH S H ρ w (.one (.ptr H.n 0 0)) (H.push (.blk cs.length [cs] true)) r:=by
 obtain⟨h1,h2⟩:=h.row (s:=cs.length) (els:=[cs]) (C:=v.cells) (ty:=ty) (0,0) (by simp) (by simpa [List.take_of_length_le (Nat.le_of_eq hC.1.symm)] using hC) (.inl (zJ _));refine⟨_,_,h1,h2,.inl ⟨_,hr,by show H.n<H.n+1;omega,?_⟩⟩;rw[aQ];simp[Loc.addr]
theorem qc (P:Program) (t:TypeId) (v:Value):(newVar t v).run P w=.ok ⟨w.heap.size,0,none⟩ (w.alloc (.cells v.cells t)):=by
 unfold newVar newRow;simp
end
end Go.EA
end
section
namespace Go.EA
section
variable {S:SC} {H:Heap} {ρ:Rho} {w:World}
theorem Dm (h:aJ S H ρ w) {b i j n:Nat}{cs:List Lf}(hb:b<H.n) (hc:H.cells b i j n=some cs) :
 cs.length=n/\∃vs:List Value,ae (aA S ρ H.n) cs vs/\∀q v,vs[q]?=some v->w.cell? (((ρ b).addr i j).add q)=some v:=by
 unfold Heap.cells at hc;split at hc
 .rename_i s els o hx;have ho:=h.obj b hb;rw[hx] at ho;obtain⟨hs,C,ty,fr,h1,h2,h3⟩:=ho;split at hc
  .rename_i e he;split at hc
   .rename_i hl;simp at hc;subst hc;have hlen:((e.drop j).take n).length=n:=by simp;omega
    refine⟨hlen,?_⟩;obtain⟨hel,hcell⟩:=h2 i e he;refine⟨(C.toList.drop ((ρ b).o+i*(ρ b).s+j)).take n,⟨?_,fun q x v hq hv=>?_⟩,fun q v hv=>?_⟩
    .rw[hlen,zP,List.length_drop];rcases Nat.eq_zero_or_pos n with h0 | h0
     .omega
     .obtain⟨v,hv,_⟩:=hcell (j+(n-1)) (e[j+(n-1)]'(by omega)) (zB (by omega));have:=(zQ.1 hv).1;simp;omega
    .rw[List.getElem?_take] at hq hv;split at hq
     .rename_i hqn;rw[if_pos hqn,List.getElem?_drop] at hv;rw[List.getElem?_drop] at hq;obtain⟨u,hu,hr⟩:=hcell (j+q) x hq;rw[Array.getElem?_toList] at hv;rw[show (ρ b).o+i*(ρ b).s+j+q=(ρ b).o+i*(ρ b).s+(j+q) by omega] at hv;rw[hu] at hv;cases hv;exact hr
     .cases hq
    .rw[List.getElem?_take] at hv;split at hv
     .rename_i hqn;rw[List.getElem?_drop,Array.getElem?_toList] at hv;unfold Loc.addr;rw[addr_add];simp[World.cell?,h1,hv]
     .cases hv
   .cases hc
  .cases hc
 .cases hc
theorem cu {P:Program}{a:Addr}{vs:List Value}(h:∀q v,vs[q]?=some v->w.cell? (a.add q)=some v):(loadCells a vs.length).run P w=.ok vs.toArray w:=by
 have:=run_loadCells_list (P:=P) (w:=w) a vs h;exact this
theorem mM {n:Nat}{ag:Bool}{cs:List Lf}{v:AV}(h:iW ag cs=some v) {vs:List Value}(hv:ae (aA S ρ n) cs vs) :
 (ag=true/\aN S ρ n v (.agg vs.toArray))\/(ag=false/\∃u,vs=[u]/\aN S ρ n v u):=by
 unfold iW at h;split at h
 .rename_i hag;simp at h;subst h;exact .inl ⟨by simpa using hag,⟨_,rfl,by simpa using hv⟩⟩
 .rename_i hag;refine .inr ⟨by simpa using hag,?_⟩;split at h
  .rename_i x;simp at h;subst h;obtain⟨u,us,rfl,hu,ht⟩:=hv.cons_inv;obtain rfl:=ht.nil_inv;exact⟨u,rfl,hu⟩
  .cases h
theorem Ab {P:Program}{t:TypeId}{g:Bool}{n:Nat}(hg:dM P t=some g) (hn:bM P t=some n) (h:aJ S H ρ w) {b i j:Nat}{v:AV}(hb:b<H.n)
 (hv:((H.cells b i j (if g then n else 1)).bind (iW g))=some v):∃u,(loadVar t ((ρ b).addr i j)).run P w=.ok u w/\aN S ρ H.n v u:=by
 obtain⟨cs,hc,ha⟩:=Option.bind_eq_some_iff.1 hv;obtain⟨hl,vs,hvs,hcell⟩:=Dm h hb hc;unfold loadVar;rcases mM ha hvs with ⟨rfl,hr⟩ | ⟨rfl,u,rfl,hr⟩
 .refine⟨.agg vs.toArray,?_,hr⟩;simp only[if_true] at hl;have hlv:vs.length=n:=by rw[<- hvs.1,hl]
  simp[iJ hg,df hn];rw[<- hlv,cu hcell]
  rfl
 .refine⟨u,?_,hr⟩;have h0:=hcell 0 u rfl;have h1:((ρ b).addr i j).add 0=(ρ b).addr i j:=by unfold Addr.add;simp
  rw[h1] at h0;simp[iJ hg,run_load,h0]
theorem jq {P:Program}{g o:Nat}{ty:TypeId}{fr:Nat×Nat}:∀(vs:List Value) (k:Nat) (w:World) (C:Array Value),w.heap[g]?=some (.cells C ty fr)->(∀v∈vs,v.oneCell'=true)->o+k+vs.length<=C.size->
 (fr.2<=fr.1\/C.size<=fr.1)->
 ∃w' C',(storeCells ⟨g,o,none⟩ vs k).run P w=.ok () w'/\w'.heap[g]?=some (.cells C' ty fr)/\C'.size=C.size/\(∀q,C'[q]?=if o+k<=q/\q<o+k+vs.length then vs[q-(o+k)]? else C[q]?)/\
  (∀b,b≠g->w'.heap[b]?=w.heap[b]?)/\w'.heap.size=w.heap.size/\w'.os=w.os/\w'.tape=w.tape/\w'.output=w.output/\w'.drawn=w.drawn:=by
 intro vs
 induction vs with
 | nil=>
   intro k w C hC _ _ _;refine⟨w,C,by simp[storeCells],hC,rfl,fun q=>?_,fun _ _=>rfl,rfl,rfl,rfl,rfl,rfl⟩;rw[if_neg (by simp only[List.length_nil];omega)]
 | cons v vs ih=>
   intro k w C hC hv hl hf;have hlen:o+k<C.size:=by simp at hl;omega
   have ha:(⟨g,o,none⟩:Addr).add k=⟨g,o+k,none⟩:=addr_add g o k;have hcell:w.cell? ⟨g,o+k,none⟩=some (C[o+k]):=by simp[World.cell?,hC,hlen]
   have hfz:w.frozen? ⟨g,o+k,none⟩=false:=by simp[World.frozen?,hC];omega
   have hw1:(w.setCell ⟨g,o+k,none⟩ v).heap[g]?=some (.cells (C.setIfInBounds (o+k) v) ty fr):=by
    simp[World.setCell,Array.getElem?_modify,hC]
   have hw2:∀b,b≠g->(w.setCell ⟨g,o+k,none⟩ v).heap[b]?=w.heap[b]?:=fun b hb=>by
    simp[World.setCell,Array.getElem?_modify,Ne.symm hb]
   obtain⟨w',C',h1,h2,h3,h4,h5,h6,h7,h8,h9⟩:=ih (k+1) (w.setCell ⟨g,o+k,none⟩ v) _ hw1 (fun u hu=>hv u (by simp[hu])) (by simp at hl ⊢;omega) (by simpa using hf);refine⟨w',C',?_,h2,by simpa using h3,fun q=>?_,fun b hb=>(h5 b hb).trans (hw2 b hb),by simpa using h6,h7,h8,h9⟩
   .simp only[storeCells,Sem.run_bind];rw[ha,run_store P w _ v _ (hv v (by simp)),hcell];simp only[hfz,Bool.false_eq_true,if_false,Result.andThen_ok];exact h1
   .rw[h4 q];by_cases e:q=o+k
    .subst e;rw[if_neg (by omega),if_pos (by simp)];simp[hlen]
    .by_cases e2:o+(k+1)<=q/\q<o+(k+1)+vs.length
     .rw[if_pos e2,if_pos (by simp;omega)];rw[show q-(o+k)=(q-(o+(k+1)))+1 by omega];simp
     .rw[if_neg e2,if_neg (by simp;omega)];rw[Array.getElem?_setIfInBounds_ne (by omega)]
theorem uX {P:Program}(h:aJ S H ρ w) {b i j:Nat}{p:List Lf}{vs:List Value}(hb:b<H.n) {H':Heap}(hst:H.storeC b i j p=some H') (hp:ae (aA S ρ H.n) p vs) :
 ∃w',(storeCells ((ρ b).addr i j) vs).run P w=.ok () w'/\aJ S H' ρ w'/\Frm H ρ w H' ρ w':=by
 unfold Heap.storeC at hst;split at hst
 .rename_i s els hx;split at hst
  .rename_i e he;split at hst
   .rename_i hl;simp only[zE] at hst;subst hst;have ho:=h.obj b hb;rw[hx] at ho;obtain⟨hs,C,ty,fr,h1,h2,h3⟩:=ho;obtain⟨hz,hroom,hfr⟩:=h3 rfl;obtain⟨hel,hcell⟩:=h2 i e he;have hi:i<els.length:=(zI.1 he).1;have hin:i*(ρ b).s+(ρ b).s<=els.length*(ρ b).s:=by
     have:=Nat.mul_le_mul_right (ρ b).s (show i+1<=els.length by omega)
     rwa [Nat.succ_mul] at this
    have hvl:vs.length=p.length:=hp.1.symm;obtain⟨w',C',r1,r2,r3,r4,r5,r6,r7,r8,r9,r10⟩:=jq (P:=P) (o:=(ρ b).o+i*(ρ b).s+j) vs 0 w C h1 (fun v hv=>by
     obtain⟨q,hq,rfl⟩:=List.getElem_of_mem hv;exact(aA.cells (hp.2 q (p[q]'(by omega)) _ (zB _) (zB _))).2) (by omega) hfr.1
    have hown:own (H.o b)=true:=by rw[hx];rfl
    have hx':kE S ρ H.n (ρ b) (.blk s (els.set i (e.take j++p++e.drop (j+p.length))) true) (w'.heap[(ρ b).g]?):=by
     refine⟨hs,C',ty,fr,r2,?_,fun _=>⟨by rw[r3,hz],by rw[List.length_set,r3];exact hroom,by rw[r3];exact hfr⟩⟩;intro k e' hk;have hskip:∀q,(¬ ((ρ b).o+i*(ρ b).s+j+0<=q/\q<(ρ b).o+i*(ρ b).s+j+0+vs.length))->C'[q]?=C[q]?:=fun q hq=>by rw[r4 q,if_neg hq]
     by_cases hki:k=i
     .subst hki;rw[List.getElem?_set_self hi] at hk;cases hk;refine⟨by simp[hel];omega,fun q x hq=>?_⟩;rcases Nat.lt_or_ge q j with hq1 | hq1
      .rw[zO,zV (by simp;omega),List.getElem?_take,if_pos hq1] at hq;obtain⟨v,hv,hr⟩:=hcell q x hq;exact⟨v,by rw[hskip _ (by omega)];exact hv,hr⟩
      .rcases Nat.lt_or_ge q (j+p.length) with hq2 | hq2
       .rw[zO,List.getElem?_append_right (by simp;omega),zV (by simp;omega)] at hq;simp only[zP] at hq;rw[show q-min j e.length=q-j by omega] at hq;obtain⟨v,hv,hr⟩:=hp.get hq;refine⟨v,?_,hr⟩;rw[r4,if_pos (by omega)];rw[show (ρ b).o+k*(ρ b).s+q-((ρ b).o+k*(ρ b).s+j+0)=q-j by omega];exact hv
       .rw[List.getElem?_append_right (by simp;omega)] at hq;simp only[zL,zP,List.getElem?_drop] at hq;rw[show j+p.length+(q-(min j e.length+p.length))=q by omega] at hq;obtain⟨v,hv,hr⟩:=hcell q x hq;exact⟨v,by rw[hskip _ (by omega)];exact hv,hr⟩
     .rw[List.getElem?_set_ne (by omega)] at hk;obtain⟨hel',hcell'⟩:=h2 k e' hk;refine⟨hel',fun q x hq=>?_⟩;obtain⟨v,hv,hr⟩:=hcell' q x hq;refine⟨v,?_,hr⟩;rw[hskip _ ?_]
      .exact hv
      .have hqs:q<(ρ b).s:=by have:=(zI.1 hq).1;omega
       rcases Nat.lt_or_ge k i with hlt | hge
       .have:=Nat.mul_le_mul_right (ρ b).s (show k+1<=i by omega);rw[Nat.succ_mul] at this;omega
       .have:=Nat.mul_le_mul_right (ρ b).s (show i+1<=k by omega);rw[Nat.succ_mul] at this;omega
    obtain⟨k1,k2⟩:=h.turn hb hown (x:=.blk s (els.set i (e.take j++p++e.drop (j+p.length))) true) (w':=w') hx' rfl r6 r7 r8 r9 r5 (Nat.le_of_eq r10.symm);exact⟨w',r1,k1,k2⟩
   .cases hst
  .cases hst
 .cases hst
end
end Go.EA
end
section
namespace Go.EA
section
variable {S:SC} {H:Heap} {ρ:Rho} {w:World} {fz:Nat->Option Obj}
theorem aV.lrel {n:Nat}{x:Lf}{v:Value}(h:aV S ρ.fz x v):aA S ρ n x v:=by
 cases x <;> simp only[aA] <;> (try simp only[aV] at h) <;> (try simp only[aV]) <;> (first | exact h | (obtain⟨rfl,h⟩:=h; exact⟨by simp,by simpa using h⟩) | exact h.elim)
theorem bz.get {C:Array Value}:∀{cs:List Lf}{o:Nat},bz S fz C o cs->∀{k:Nat}{x:Lf},cs[k]?=some x->∃u,C[o+k]?=some u/\aV S fz x u
 |[],o,h,k,x,hk=>by simp at hk
 | y::r,o,h,k,x,hk=>by
   simp only[bz] at h;cases k with
   |zero=>simp at hk;subst hk;exact h.1
   | succ k=>
     obtain⟨u,h1,h2⟩:=bz.get h.2 (k:=k) (by simpa using hk);exact⟨u,by rw[<- h1];congr 1;omega,h2⟩
theorem bz.of {C:Array Value}:∀{cs:List Lf}{o:Nat},(∀(k:Nat) (x:Lf),cs[k]?=some x->∃u,C[o+k]?=some u/\aV S fz x u)->bz S fz C o cs
 |[],o,h=>by simp only[bz]
 | y::r,o,h=>by
   simp only[bz];refine⟨by simpa using h 0 y rfl,bz.of fun k x hk=>?_⟩;obtain⟨u,h1,h2⟩:=h (k+1) x (by simpa using hk);exact⟨u,by rw[<- h1];congr 1;omega,h2⟩
theorem bz.drop {C:Array Value}{cs:List Lf}{o:Nat}(h:bz S fz C o cs) (k:Nat):bz S fz C (o+k) (cs.drop k):=
 bz.of fun j x hj=>by
  rw[List.getElem?_drop] at hj;obtain⟨u,h1,h2⟩:=h.get hj;exact⟨u,by rw[<- h1];congr 1;omega,h2⟩
theorem bz.take {C:Array Value}{cs:List Lf}{o:Nat}(h:bz S fz C o cs) (k:Nat):bz S fz C o (cs.take k):=
 bz.of fun j x hj=>by
  rw[List.getElem?_take] at hj;split at hj
  .exact h.get hj
  .cases hj
theorem eG.get {C:Array Value}{s:Nat}:∀{els:List (List Lf)}{o:Nat},eG S fz C o s els->∀{k:Nat}{e:List Lf},els[k]?=some e->e.length=s/\bz S fz C (o+k*s) e
 |[],o,h,k,x,hk=>by simp at hk
 | y::r,o,h,k,x,hk=>by
   simp only[eG] at h;cases k with
   |zero=>simp at hk;subst hk;exact⟨h.1,by simpa using h.2.1⟩
   | succ k=>
     have:=eG.get h.2.2 (k:=k) (by simpa using hk);refine⟨this.1,?_⟩;rw[show o+(k+1)*s=o+s+k*s by rw[Nat.succ_mul];omega];exact this.2
theorem eG.of {C:Array Value}{s:Nat}:∀{els:List (List Lf)}{o:Nat},(∀(k:Nat) (e:List Lf),els[k]?=some e->e.length=s/\bz S fz C (o+k*s) e)->eG S fz C o s els
 |[],o,h=>by simp only[eG]
 | y::r,o,h=>by
   simp only[eG];have h0:=h 0 y rfl;refine⟨h0.1,by simpa using h0.2,eG.of fun k e hk=>?_⟩;have:=h (k+1) e (by simpa using hk);refine⟨this.1,?_⟩;rw[show o+s+k*s=o+(k+1)*s by rw[Nat.succ_mul];omega];exact this.2
theorem eG.cut {C:Array Value}{s o:Nat}{els:List (List Lf)}(h:eG S fz C o s els) (l m:Nat):eG S fz C (o+l*s) s ((els.drop l).take m):=
 eG.of fun k e hk=>by
  rw[List.getElem?_take] at hk;split at hk
  .rw[List.getElem?_drop] at hk;have:=h.get hk;refine⟨this.1,?_⟩;rw[show o+l*s+k*s=o+(l+k)*s by rw[Nat.add_mul];omega];exact this.2
  .cases hk
theorem ui (h:aJ S H ρ w) {g o:Nat}{C:Array Value}{ty:TypeId}{fr:Nat×Nat}{cs:List Lf}{n:Nat}(hg:ρ.fz g=some (.cells C ty fr)) (hc:bz S ρ.fz C o cs) :
 ∃vs:List Value,ae (aA S ρ n) cs vs/\∀q v,vs[q]?=some v->w.cell? ((⟨g,o,none⟩:Addr).add q)=some v:=by
 have hw:=(h.fz _ _ hg).2.1;refine⟨(C.toList.drop o).take cs.length,⟨?_,fun q x v hq hv=>?_⟩,fun q v hv=>?_⟩
 .rw[zP,List.length_drop];rcases Nat.eq_zero_or_pos cs.length with h0 | h0
  .omega
  .obtain⟨v,hv,_⟩:=hc.get (k:=cs.length-1) (zB (by omega));have:=(zQ.1 hv).1;simp;omega
 .rw[List.getElem?_take] at hv;split at hv
  .rw[List.getElem?_drop,Array.getElem?_toList] at hv;obtain⟨u,hu,hr⟩:=hc.get hq;rw[hu] at hv;cases hv;exact hr.lrel
  .cases hv
 .rw[List.getElem?_take] at hv;split at hv
  .rw[List.getElem?_drop,Array.getElem?_toList] at hv;rw[addr_add];simp[World.cell?,hw,hv]
  .cases hv
theorem Cj {P:Program}{t:TypeId}{g:Bool}{n:Nat}(hg:dM P t=some g) (hn:bM P t=some n) (h:aJ S H ρ w) {cs:List Lf}{u:Value}{v:AV}(hp:aA S ρ H.n (.vptr cs) u)
 (hl:(if g then n else 1)<=cs.length) (hv:iW g (cs.take (if g then n else 1))=some v):∃ad r,u=.pointer (some ad)/\(loadVar t ad).run P w=.ok r w/\aN S ρ H.n v r:=by
 simp only[aA,aV] at hp;obtain⟨gb,o,C,ty,fr,rfl,hfz,hcc⟩:=hp;have hc2:bz S ρ.fz C o (cs.take (if g then n else 1)):=hcc.take _;obtain⟨vs,hvs,hcell⟩:=ui (n:=H.n) h hfz hc2;have hlen:(cs.take (if g then n else 1)).length=(if g then n else 1):=by rw[zP,Nat.min_eq_left hl]
 refine⟨⟨gb,o,none⟩,?_⟩;unfold loadVar;rcases mM hv hvs with ⟨rfl,hr⟩ | ⟨rfl,u,rfl,hr⟩
 .refine⟨.agg vs.toArray,rfl,?_,hr⟩;have hlv:vs.length=n:=by rw[<- hvs.1,hlen];rfl
  simp[iJ hg,df hn];rw[<- hlv,cu hcell]
  rfl
 .refine⟨u,rfl,?_,hr⟩;have h0:=hcell 0 u rfl;have h1:(⟨gb,o,none⟩:Addr).add 0=⟨gb,o,none⟩:=by unfold Addr.add;simp
  rw[h1] at h0;simp[iJ hg,run_load,h0]
theorem vG {s l hh m cap:Nat}{els:List (List Lf)}{base:Option Addr}{n:Nat}(hx:aA S ρ n (.vrow s els) (.slice base els.length cap)) (h1:l<=hh) (h2:hh<=m) (h3:m<=cap) (h4:hh<=els.length) :
 aA S ρ n (.vrow s ((els.drop l).take (hh-l))) (.slice (if m=l then base else base.map (·.add (l*s))) (hh-l) (m-l)):=by
 have hlen:((els.drop l).take (hh-l)).length=hh-l:=by simp;omega
 simp only[aA,aV] at hx ⊢;obtain⟨a,cap',he,hc,hx⟩:=hx;injection he with e1 e2 e3
 subst e1 e3;refine⟨_,_,by rw[hlen],by omega,?_⟩;rcases hx with rfl | ⟨g,o,C,ty,fr,rfl,hg,hr⟩
 .left;simp
 .by_cases hml:m=l
  .left
   have:hh-l=0:=by omega
   rw[this];simp
  .right
   rw[if_neg hml];exact⟨g,o+l*s,C,ty,fr,by simp[addr_add],hg,hr.cut _ _⟩
end
end Go.EA
end
section
namespace Go.EA
def Heap.Hd (H:Heap):Prop:=∀i,H.n<=i->H.o i=.dead
theorem Hd.push {H:Heap}(h:H.Hd) (x:AO):(H.push x).Hd:=fun i hi=>by
 have hi':H.n+1<=i:=hi;show EA.put H.o H.n x i=.dead;unfold EA.put;rw[if_neg (by omega)];exact h i (by omega)
theorem Hd.set {H:Heap}(h:H.Hd) {b:Nat}(hb:b<H.n) (x:AO):(H.set b x).Hd:=fun i hi=>by
 have hi':H.n<=i:=hi;show EA.put H.o b x i=.dead;unfold EA.put;rw[if_neg (by omega)];exact h i (by omega)
theorem Hd.lt {H:Heap}(h:H.Hd) {b:Nat}(hb:H.o b≠.dead):b<H.n:=by
 apply Decidable.byContradiction
 intro hn;exact hb (h b (by omega))
theorem BB {H H':Heap}{b i j:Nat}{p:List Lf}(h:H.Hd) (hs:H.storeC b i j p=some H'):H'.Hd:=by
 unfold Heap.storeC at hs;split at hs
 .rename_i hb;split at hs
  .split at hs
   .simp only[zE] at hs;rw[<- hs];exact Hd.set h (Hd.lt h (by rw[hb];simp)) _
   .cases hs
  .cases hs
 .cases hs
theorem yC {b:Nat}{z:List Lf}:∀(n i:Nat) {H H':Heap},H.Hd->H.clrC b i z n=some H'->H'.Hd
 |0,i,H,H',h,hs=>by simp only[Heap.clrC,zE] at hs;rw[<- hs];exact h
 | n+1,i,H,H',h,hs=>by
   simp only[Heap.clrC] at hs;split at hs
   .rename_i H1 h1;exact yC n (i+1) (BB h h1) hs
   .cases hs
theorem FI {T:Tm}{H H':Heap}{op:AOp}{v:AV}(h:H.Hd) (he:ah T H op=some (v,H')):H'.Hd:=by
 have same:∀{x:Option AV},x.map (·,H)=some (v,H')->H'.Hd:=fun hx=>by
  obtain⟨_,_,e⟩:=zD.1 hx;simp only[zF] at e;rw[<- e.2];exact h
 cases op with
 | store n a x=>
   simp only[ah] at he;split at he
   .split at he
    .obtain⟨H2,h2,e⟩:=zD.1 he;simp only[zF] at e;rw[<- e.2];unfold Heap.storeC at h2;split at h2
     .rename_i hb;split at h2
      .split at h2
       .simp only[zE] at h2;rw[<- h2];exact Hd.set h (Hd.lt h (by rw[hb];simp)) _
       .cases h2
      .cases h2
     .cases h2
    .cases he
   .cases he
 | app s b x y=>
   simp only[ah,eB] at he;split at he
   .cases he
   .split at he <;> first | (simp only[zE,zF] at he; rw[<- he.2]; exact h) | cases he
   .split at he
    .split at he
     .simp only[zE,zF] at he;rw[<- he.2];exact Hd.push h _
     .cases he
    .split at he
     .simp only[zE,zF] at he;rw[<- he.2];exact Hd.push h _
     .cases he
    .split at he
     .rename_i hb;split at he
      .simp only[zE,zF] at he;rw[<- he.2];exact Hd.push (Hd.set h (Hd.lt h (by rw[hb];simp)) _) _
      .cases he
     .cases he
    .cases he
 | mapset kk m k w=>
   simp only[ah] at he;split at he
   .split at he
    .rename_i hb;split at he
     .simp only[zE,zF] at he;rw[<- he.2];exact Hd.set h (Hd.lt h (by rw[hb];simp)) _
     .cases he
    .cases he
   .cases he
 | nxt x=>
   simp only[ah] at he;split at he
   .split at he
    .rename_i hb;split at he
     .simp only[zE,zF] at he;rw[<- he.2];exact Hd.set h (Hd.lt h (by rw[hb];simp)) _
     .simp only[zE,zF] at he;rw[<- he.2];exact h
    .cases he
   .cases he
 | rowLit s z n parts=>
   simp only[ah] at he;obtain⟨_,_,e⟩:=zD.1 he;simp only[zF] at e;rw[<- e.2];exact Hd.push h _
 |new z=>simp only[ah,zE,zF] at he;rw[<- he.2];exact Hd.push h _
 |mkmap=>simp only[ah,zE,zF] at he;rw[<- he.2];exact Hd.push h _
 |newb=>simp only[ah,zE,zF] at he;rw[<- he.2];exact Hd.push h _
 |mov x=>simp only[ah,zE,zF] at he;rw[<- he.2];exact h
 |bin op x y=>simp only[ah] at he;exact same he
 |eqv k n x y=>simp only[ah] at he;exact same he
 |un op x=>simp only[ah] at he;exact same he
 | build z ps=>
   simp only[ah] at he;obtain⟨_,_,e⟩:=zD.1 he;simp only[zF] at e;rw[<- e.2];exact h
 |slice k s x lo hi mx=>simp only[ah] at he;exact same he
 | mkfn f caps=>
   simp only[ah] at he;obtain⟨_,_,e⟩:=zD.1 he;simp only[zF] at e;rw[<- e.2];exact h
 | b2s x=>
   simp only[ah] at he;split at he
   .obtain⟨_,_,e⟩:=zD.1 he;simp only[zF] at e;rw[<- e.2];exact h
   .cases he
 | clr s z x=>
   simp only[ah] at he;unfold vM at he;split at he
   .split at he
    .split at he
     .obtain⟨_,h1,e⟩:=zD.1 he;simp only[zF] at e;rw[<- e.2];exact yC _ _ h h1
     .cases he
    .cases he
   .simp only[zE,zF] at he;rw[<- he.2];exact h
   .simp only[zE,zF] at he;rw[<- he.2];exact h
   .cases he
 |call f xs=>simp[ah] at he
 | _=>
   simp only[ah] at he
   repeat' split at he
   all_goals first
    |(cases he;done)
    |(simp only[zE,zF] at he;rw[<- he.2];first | exact h | exact Hd.push h _)
    | (obtain ⟨_, _, e⟩ := zD.1 he
       simp only[zF] at e;rw[<- e.2];exact h)
end Go.EA
end
