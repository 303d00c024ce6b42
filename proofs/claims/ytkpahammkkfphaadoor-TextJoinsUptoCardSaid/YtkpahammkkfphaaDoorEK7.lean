/- Texts. Conditions: none. -/
import Derived.Test.YtkpahammkkfphaaDoorEK4
import Derived.Test.YtkpahammkkfphaaDoorEK10
set_option linter.unusedVariables false
set_option linter.unusedSimpArgs false
section
namespace Go.EA
inductive Ty where
 |int (k:IntKind)
 |bool
 |str
 |pair (a b:Ty)
 |row (t:Ty)
@[reducible] def Ty.den:Ty->Type
 |.int _=>Int
 |.bool=>Bool
 |.str=>List UInt8
 |.pair a b=>a.den×b.den
 |.row t=>List t.den
def Ty.size:Ty->Nat
 |.pair a b=>a.size+b.size
 |_=>1
def Ty.dflt:(t:Ty)->t.den
 |.int _=>(0:Int)
 |.bool=>false
 |.str=>[]
 |.pair a b=>(a.dflt,b.dflt)
 |.row _=>[]
def Ty.enc:(t:Ty)->t.den->List Lf
 |.int k,z=>[.int k z]
 |.bool,b=>[.bool b]
 |.str,s=>[.str s]
 |.pair a b,x=>a.enc x.1++b.enc x.2
 |.row t,l=>[.vrow t.size (l.map t.enc)]
def Ty.eq?:(a b:Ty)->Option (PLift (a=b))
 |.int k,.int k'=>if h:k=k' then some ⟨congrArg Ty.int h⟩ else none
 |.bool,.bool=>some ⟨rfl⟩
 |.str,.str=>some ⟨rfl⟩
 |.pair a b,.pair c d=>match a.eq? c,b.eq? d with
  |some h,some h'=>some ⟨by rw[h.down,h'.down]⟩
  |_,_=>none
 |.row a,.row b=>match a.eq? b with
  |some h=>some ⟨congrArg Ty.row h.down⟩
  |none=>none
 |_,_=>none
def dn {a b:Ty}(h:a=b) (l:List a.den):List b.den:=h ▸ l
def rf {a b:Ty}(h:a=b) (x:a.den):b.den:=h ▸ x
inductive SL where
 |int (k:IntKind) (z:Int)
 |lit (k:IntKind) (z:Int)
 |bool (b:Bool)
 |tt
 |ff
 |dec (p:Prop) (d:Decidable p)
 |ndec (p:Prop) (d:Decidable p)
 |str (s:List UInt8)
 |row (t:Ty) (l:List t.den)
 |osl (b:Nat)
 |sl (b i n:Nat)
 |ptr (b i j:Nat)
 |vptr (t:Ty) (x:t.den) (off:Nat)
 |fn (f:Nat) (cap:List (Nat×Nat×Nat))
 |yld (l:Nat)
 |mp (m:Nat)
 |nilp
 |nils
 |slz
 |nilf
 |nilm
 |nili
 |isl (b i:Nat)
 |iptr (b i j off:Nat)
 |junk
inductive S1 where
 |o (x:SL)
 |a (cs:List SL)
inductive SV where
 |one (x:SL)
 |agg (cs:List SL)
 |tup (vs:List S1)
 |junk
 |ite (p:Prop) (d:Decidable p) (a b:SV)
abbrev ST:=List SV
inductive SO where
 |row (t:Ty) (l:List t.den)
 |cell (cs:List SL)
 |dead
 |siter (s:List UInt8) (pos:Nat)
 |loop (st:LSt) (pd:Option Ex)
 |rowh (t:Ty) (l:List (List t.den)) (i:Nat) (x:SL)
 |nilr (n:Nat)
 |nest (t u:Ty) (l:List (List t.den×u.den)) (h:Option Nat)
 |nrow (u:Ty) (us:List u.den)
 |raw (cs:List SL)
 |map0
 |mapo (k v:Ty) (es:List (k.den×v.den))
 |bld (s:List UInt8)
def Ty.isOne:Ty->Bool
 |.int _ | .bool | .str=>true
 |_=>false
def Ty.beq:(t:Ty)->t.den->t.den->Bool
 |.int _,a,b=>decide ((a:Int)=b)
 |.bool,a,b=>decide ((a:Bool)=b)
 |.str,a,b=>decide ((a:List UInt8)=b)
 |_,_,_=>false
def Ty.mget (k:Ty) {β:Type}:List (k.den×β)->k.den->Option β
 |[],_=>none
 |e::r,q=>match k.beq e.1 q with | true=>some e.2 | false=>k.mget r q
def Ty.mput (k:Ty) {β:Type}:List (k.den×β)->k.den->β->List (k.den×β)
 |[],q,v=>[(q,v)]
 |e::r,q,v=>match k.beq e.1 q with | true=>(q,v)::r | false=>e::k.mput r q v
def Lc {a b c d:Ty}(h:a=c) (h':b=d) (es:List (a.den×b.den)):List (c.den×d.den):=h ▸ h' ▸ es
def aW:PK->Ty
 |.int k=>.int k
 |.bool=>.bool
 |.str=>.str
def Ty.cells:(t:Ty)->t.den->List SL
 |.int k,z=>[.int k z]
 |.bool,b=>[.bool b]
 |.str,s=>[.str s]
 |.pair a b,x=>a.cells x.1++b.cells x.2
 |.row t,l=>[.row t l]
def SL.b?:SL->Option Bool
 |.bool b=>some b
 |.tt=>some true
 |.ff=>some false
 |.dec p d=>some (@decide p d)
 |.ndec p d=>some (!@decide p d)
 |_=>none
def SL.i?:SL->Option (IntKind×Int)
 |.int k z=>some (k,z)
 |.lit k z=>some (k,z)
 |_=>none
def Ty.parse:(t:Ty)->List SL->Option (t.den×List SL)
 |.int k,x::r=>match x.i? with
  |some (k',z)=>match decide (k=k') with
   |true=>some (z,r)
   |false=>none
  |none=>none
 |.bool,x::r=>match x.b? with
  |some b=>some (b,r)
  |none=>none
 |.str,.str s::r=>some (s,r)
 |.pair a b,l=>match a.parse l with
  |some (x,r)=>match b.parse r with
   |some (y,r')=>some ((x,y),r')
   |none=>none
  |none=>none
 |.row t,.row t' l::r=>match Ty.eq? t' t with
  |some h=>some (dn h.down l,r)
  |none=>none
 |_,_=>none
def dm:Lf->SL
 |.int k n=>.lit k n
 |.bool true=>.tt
 |.bool false=>.ff
 |.str s=>.str s
 |.nilp=>.nilp
 |.nils=>.nils
 |.slz=>.slz
 |.nilf=>.nilf
 |.nilm=>.nilm
 |.nili=>.nili
 |.fn f []=>.fn f []
 |_=>.junk
def JR:AV->SV
 |.one x=>.one (dm x)
 |.agg cs=>.agg (cs.map dm)
 |.tup []=>.tup []
 |_=>.junk
def opd (T:ST):Opd->SV
 |.t n=>T.getD n .junk
 |.c v=>JR v
def fG (T:ST) (d:Option Nat) (v:SV):ST:=
 match d with
 |some d=>T.set d v
 |none=>T
def aa (L:List SO) (b:Nat):SO:=L.getD b .dead
def SV.cells?:SV->Option (List SL)
 |.one x=>some [x]
 |.agg cs=>some cs
 |_=>none
def iE (b:Nat):SL->Bool
 |.isl c _ | .iptr c _ _ _=>Nat.beq c b||Nat.beq (c+1000000) b
 |.osl c | .sl c _ _ | .ptr c _ _ | .yld c | .mp c=>Nat.beq c b
 |.fn _ cap=>cap.any fun q=>Nat.beq q.1 b
 |_=>false
def jL (b:Nat) (x:SL):SL:=match iE b x with | true=>.junk | false=>x
def jS1 (b:Nat):S1->S1
 |.o x=>.o (jL b x)
 |.a cs=>.a (cs.map (jL b))
def jV (b:Nat):SV->SV
 |.one x=>match iE b x with | true=>.junk | false=>.one x
 |.agg cs=>.agg (cs.map (jL b))
 |.tup vs=>.tup (vs.map (jS1 b))
 |.junk=>.junk
 |.ite _ _ _ _=>.junk
def jO (b:Nat):SO->SO
 |.cell cs=>.cell (cs.map (jL b))
 |.rowh t l i x=>.rowh t l i (jL b x)
 |x=>x
def Io (inv:List Nat) (x:SL):Bool:=inv.any fun b=>iE b x
def jLs (inv:List Nat) (x:SL):SL:=match Io inv x with | true=>.junk | false=>x
def jVs (inv:List Nat):SV->SV
 |.one x=>.one (jLs inv x)
 |.agg cs=>.agg (cs.map (jLs inv))
 |.tup vs=>.tup (vs.map fun x=>match x with | .o x=>.o (jLs inv x) | .a cs=>.a (cs.map (jLs inv)))
 |.junk=>.junk
 |.ite _ _ _ _=>.junk
def lM:List Lf->Option Ty
 |[.int k 0]=>some (.int k)
 |[.bool false]=>some .bool
 |[.str []]=>some .str
 |.int k 0::x::r=>(lM (x::r)).map (.pair (.int k))
 |.bool false::x::r=>(lM (x::r)).map (.pair .bool)
 |.str []::x::r=>(lM (x::r)).map (.pair .str)
 |_=>none
structure qw where
 t:Ty
 l:List t.den
inductive OpR where
 |ok (v:SV) (L:List SO) (inv:Option Nat) (c:List Prop)
 |two (p:Prop) (d:Decidable p) (v1:SV) (L1:List SO) (v2:SV) (L2:List SO)
 |twc (c:List Prop) (p:Prop) (d:Decidable p) (v1 v2:SV)
 |no
def rok (L:List SO) (v:SV) (c:List Prop):OpR:=.ok v L none c
def ro1 (L:List SO) (x:SL) (c:List Prop):OpR:=.ok (.one x) L none c
def Ba (b:Bool):SL:=match b with | true=>.tt | false=>.ff
def JD (op:BinOp) (k:IntKind) (a:Int) (k':IntKind) (b:Int):Option (SL×List Prop):=
 match op with
 |.eql=>match decide (k=k') with | true=>some (.dec (a=b) inferInstance,[]) | false=>none
 |.neq=>match decide (k=k') with | true=>some (.ndec (a=b) inferInstance,[]) | false=>none
 |.lss=>match decide (k=k') with | true=>some (.dec (a<b) inferInstance,[]) | false=>none
 |.leq=>match decide (k=k') with | true=>some (.dec (a<=b) inferInstance,[]) | false=>none
 |.gtr=>match decide (k=k') with | true=>some (.dec (b<a) inferInstance,[]) | false=>none
 |.geq=>match decide (k=k') with | true=>some (.dec (b<=a) inferInstance,[]) | false=>none
 |op=>match BV op k a k' b with
  |some (.one (.int kk z),c)=>some (.int kk z,c)
  |_=>none
def JY (op:BinOp) (k:IntKind) (a:Int) (k':IntKind) (b:Int):Option SL:=
 match di op (.one (.int k a)) (.one (.int k' b)) with
 |some (.one (.int kk z))=>some (.lit kk z)
 |some (.one (.bool b))=>some (Ba b)
 |_=>none
def xS (op:BinOp) (a b:List UInt8):Option (SL×List Prop):=
 match op with
 |.add=>some (.str (a++b),[a.length+b.length<=9223372036854775807])
 |.eql=>some (.dec (a=b) inferInstance,[])
 |.neq=>some (.ndec (a=b) inferInstance,[])
 |.lss=>some (.bool (mW a b),[])
 |.leq=>some (.bool (mW a b||decide (a=b)),[])
 |.gtr=>some (.bool (!(mW a b||decide (a=b))),[])
 |.geq=>some (.bool (!mW a b),[])
 |_=>none
def Ep (L:List SO) (op:BinOp):SV->SV->OpR
 |.one (.lit k a),.one (.lit k' b)=>match JY op k a k' b with
  |some v=>ro1 L v []
  |none=>.no
 |.one (.str a),.one (.str b)=>match xS op a b with
  |some (v,c)=>ro1 L v c
  |none=>.no
 |.one x,.one y=>match x.i?,y.i? with
  |some (k,a),some (k',b)=>match JD op k a k' b with
   |some (v,c)=>ro1 L v c
   |none=>.no
  |_,_=>.no
 |_,_=>.no
def aT:List PK->List SL->Bool
 |[],[]=>true
 |.int k::ks,x::cs=>match x.i? with
  |some (k',_)=>decide (k=k')&&aT ks cs
  |none=>false
 |.bool::ks,x::cs=>match x.b? with
  |some _=>aT ks cs
  |none=>false
 |.str::ks,.str _::cs=>aT ks cs
 |_,_=>false
def gz:List SL->List SL->Bool
 |[],[]=>true
 |x::r,y::l=>(match x.i?,y.i? with
  |some (_,a),some (_,b)=>decide (a=b)
  |_,_=>match x.b?,y.b? with
   |some a,some b=>decide (a=b)
   |_,_=>match x,y with
    |.str a,.str b=>decide (a=b)
    |_,_=>false)&&gz r l
 |_,_=>false
def neB (neg b:Bool):SL:=match neg with | true=>.bool (!b) | false=>.bool b
def neL (neg b:Bool):SL:=Ba (match neg with | true=>!b | false=>b)
def sEq (L:List SO) (k:EqK) (neg:Bool):SV->SV->OpR
 |.agg a,.agg b=>match k with
  |.cells ks=>match aT ks a,aT ks b with
   |true,true=>ro1 L (neB neg (gz a b)) []
   |_,_=>.no
  |_=>.no
 |.one x,.one y=>match k with
  |.bool=>match x.b?,y.b? with
   |some a,some b=>ro1 L (neB neg (decide (a=b))) []
   |_,_=>.no
  |.ptr=>match x,y with
   |.nilp,.nilp=>ro1 L (neL neg true) []
   |.ptr _ _ _,.nilp | .nilp,.ptr _ _ _ | .vptr _ _ _,.nilp | .nilp,.vptr _ _ _=>ro1 L (neL neg false) []
   |_,_=>.no
  |.fnc=>match x,y with
   |.nilf,.nilf=>ro1 L (neL neg true) []
   |.fn _ _,.nilf | .nilf,.fn _ _=>ro1 L (neL neg false) []
   |_,_=>.no
  |.slc=>match x,y with
   |.nils,.nils=>ro1 L (neL neg true) []
   |.row _ l,.nils=>ro1 L (neL neg false) [l≠[]]
   |_,_=>.no
  |_=>.no
 |_,_=>.no
def sUn (L:List SO) (op:UnOp):SV->OpR
 |.one (.lit k n)=>match Bw op (.one (.int k n)) with
  |some (.one (.int kk z))=>ro1 L (.lit kk z) []
  |_=>.no
 |.one (.int k n)=>match op with
  |.neg=>match k with
   |.i64=>ro1 L (.int .i64 (-n)) [aZ (-n)]
   |k=>ro1 L (.int k (k.wrap (0-n))) []
  |op=>match Bw op (.one (.int k n)) with
   |some (.one (.int kk z))=>ro1 L (.int kk z) []
   |_=>.no
 |.one .tt=>match op with | .not=>ro1 L .ff [] | _=>.no
 |.one .ff=>match op with | .not=>ro1 L .tt [] | _=>.no
 |.one (.bool b)=>match op with | .not=>ro1 L (.bool (!b)) [] | _=>.no
 |.one (.dec p d)=>match op with | .not=>ro1 L (.ndec p d) [] | _=>.no
 |.one (.ndec p d)=>match op with | .not=>ro1 L (.dec p d) [] | _=>.no
 |_=>.no
def tO (L:List SO) (k:IntKind):SV->OpR
 |.one (.lit _ n)=>ro1 L (.lit k (k.wrap n)) []
 |.one (.int _ n)=>match k with
  |.i64=>ro1 L (.int .i64 n) [aZ n]
  |k=>ro1 L (.int k (k.wrap n)) []
 |_=>.no
def rowOf (L:List SO):SL->Option (qw×List Prop)
 |.row t l=>some (⟨t,l⟩,[])
 |.osl b=>match aa L b with
  |.row t l=>some (⟨t,l⟩,[])
  |_=>none
 |.sl b i n=>match aa L b with
  |.row t l=>some (⟨t,(l.drop i).take n⟩,[i+n<=l.length,0<n])
  |_=>none
 |.isl b i=>match aa L b with
  |.nest t u l _=>some (⟨t,(l.getD i ([],u.dflt)).1⟩,[i<l.length])
  |_=>none
 |_=>none
def bytesOf:qw->Option (List UInt8)
 |⟨.int .u8,l⟩=>some (l.map fun z=>UInt8.ofNat z.toNat)
 |_=>none
def CW (L:List SO):SV->OpR
 |.one .nils | .one .slz=>ro1 L (.str []) []
 |.one x=>match rowOf L x with
  |some (r,c)=>match bytesOf r with
   |some s=>ro1 L (.str s) c
   |none=>.no
  |none=>.no
 |_=>.no
def sLen (L:List SO) (k:nJ):SV->OpR
 |.one x=>match k,x with
  |.str,.str s=>ro1 L (.int .i64 s.length) []
  |.slc,.row _ l=>ro1 L (.int .i64 l.length) []
  |.slc,.osl b=>match aa L b with
   |.row _ l=>ro1 L (.int .i64 l.length) []
   |.rowh _ l _ _=>ro1 L (.int .i64 l.length) []
   |.nilr n=>ro1 L (.int .i64 n) []
   |.nest _ _ l _=>ro1 L (.int .i64 l.length) []
   |_=>.no
  |.slc,.isl b i=>match aa L b with
   |.nest t u l _=>ro1 L (.int .i64 (l.getD i ([],u.dflt)).1.length) [i<l.length]
   |_=>.no
  |.slc,.sl _ _ n=>ro1 L (.int .i64 n) []
  |.slc,.nils | .slc,.slz=>ro1 L (.lit .i64 0) []
  |.cap,.nils | .cap,.slz=>ro1 L (.lit .i64 0) []
  |.map,.mp m=>match aa L m with
   |.map0=>ro1 L (.lit .i64 0) []
   |.mapo _ _ es=>ro1 L (.int .i64 es.length) []
   |_=>.no
  |_,_=>.no
 |_=>.no
def Jq:SL->Option Ty
 |.int k _ | .lit k _=>some (.int k)
 |.bool _ | .tt | .ff | .dec _ _ | .ndec _ _=>some .bool
 |.str _=>some .str
 |_=>none
def lkp (L:List SO) (ok:Bool) (x b:SL):OpR:=match ok with
 |true=>rok L (.tup [.o x,.o b]) []
 |false=>ro1 L x []
def kY (L:List SO) (kk:PK) (z:Lf) (ok:Bool) (x i:SV):OpR:=
 match x,i with
 |.one (.mp m),.one k=>match (aW kk).parse [k] with
  |some (q,[])=>match aa L m with
   |.map0=>lkp L ok (dm z) .ff
   |.mapo kt vt es=>match Ty.eq? (aW kk) kt,lM [z] with
    |some h,some vt'=>match Ty.eq? vt vt' with
     |some _=>match vt.cells ((kt.mget es (rf h.down q)).getD vt.dflt) with
      |[c]=>lkp L ok c (.bool (kt.mget es (rf h.down q)).isSome)
      |_=>.no
     |none=>.no
    |_,_=>.no
   |_=>.no
  |_=>.no
 |_,_=>.no
def kJ (L:List SO) (kk:PK) (x i y:SV):OpR:=
 match x,i,y with
 |.one (.mp m),.one k,.one v=>match (aW kk).parse [k],Jq v with
  |some (q,[]),some tv=>match tv.parse [v] with
   |some (w,[])=>match aa L m with
    |.map0=>.ok (.tup []) (L.set m (.mapo (aW kk) tv [(q,w)])) none []
    |.mapo kt vt es=>match Ty.eq? (aW kk) kt,Ty.eq? tv vt with
     |some h,some h'=>.ok (.tup []) (L.set m (.mapo kt vt (kt.mput es (rf h.down q) (rf h'.down w)))) none []
     |_,_=>.no
    |_=>.no
   |_=>.no
  |_,_=>.no
 |_,_,_=>.no
def gM (ag:Bool) (cs:List SL):Option SV:=
 match ag with
 |true=>some (.agg cs)
 |false=>match cs with
  |[x]=>some (.one x)
  |_=>none
def qm (cs:List SL) (j n:Nat):Option (List SL):=match Nat.ble (j+n) cs.length with | true=>some ((cs.drop j).take n) | false=>none
def qL (L:List SO) (ag:Bool) (n:Nat):SV->OpR
 |.one (.ptr b i j)=>match aa L b with
  |.row t l=>match qm (t.cells (l.getD i t.dflt)) j n with
   |some cs=>match gM ag cs with
    |some v=>rok L v [i<l.length]
    |none=>.no
   |none=>.no
  |.cell cs=>match i with
   |0=>match qm cs j n with
    |some cs=>match gM ag cs with
     |some v=>rok L v []
     |none=>.no
    |none=>.no
   |_=>.no
  |.rowh t l k x=>match ag,n,j with
   |false,1,0=>.twc [i<l.length] (i=k) inferInstance (.one x) (.one (.row t (l.getD i [])))
   |_,_,_=>.no
  |.nest t u l none=>match qm (.isl b i::u.cells (l.getD i ([],u.dflt)).2) j n with
   |some cs=>match gM ag cs with
    |some v=>rok L v [i<l.length]
    |none=>.no
   |none=>.no
  |_=>.no
 |.one (.iptr b i j off)=>match aa L b with
  |.nest t u l none=>match qm (t.cells ((l.getD i ([],u.dflt)).1.getD j t.dflt)) off n with
   |some cs=>match gM ag cs with
    |some v=>rok L v [i<l.length,j<(l.getD i ([],u.dflt)).1.length]
    |none=>.no
   |none=>.no
  |_=>.no
 |.one (.vptr t x off)=>match qm (t.cells x) off n with
  |some cs=>match gM ag cs with
   |some v=>rok L v []
   |none=>.no
  |none=>.no
 |_=>.no
def oz (cs:List SL) (j:Nat) (p:List SL):Option (List SL):=match Nat.ble (j+p.length) cs.length with | true=>some (cs.take j++(p++cs.drop (j+p.length))) | false=>none
def lC (L:List SO) (n:Nat) (a x:SV):Option OpR:=
 match a,x with
 |.one (.ptr b i j),.one (.osl k)=>match n,j with
  |1,0=>match aa L b with
   |.row (.row t) l=>some (.ok (.tup []) (L.set b (.rowh t l i (.osl k))) none [i<l.length])
   |.rowh t l i' _=>some (.ok (.tup []) (L.set b (.rowh t l i (.osl k))) none [i<l.length,i=i'])
   |_=>none
  |_,_=>none
 |_,_=>none
def kX (L:List SO) (n:Nat) (a x:SV):OpR:=
 match a,x.cells? with
 |.one (.ptr b i j),some p=>match Nat.beq p.length n with
  |true=>match aa L b with
   |.row t l=>match oz (t.cells (l.getD i t.dflt)) j p with
    |some cs=>match t.parse cs with
     |some (e,[])=>.ok (.tup []) (L.set b (.row t (l.set i e))) none [i<l.length]
     |_=>.no
    |none=>.no
   |.cell cs=>match i with
    |0=>match oz cs j p with
     |some cs=>.ok (.tup []) (L.set b (.cell cs)) none []
     |none=>.no
    |_=>.no
   |_=>.no
  |false=>.no
 |_,_=>.no
def lI (L:List SO) (n:Nat) (a x:SV):Option OpR:=
 match a with
 |.one (.ptr b i j)=>match aa L b with
  |.nest t u l h=>match j with
   |0=>match Nat.beq n 1,h,x with
    |true,some i',.one (.osl k)=>match aa L k with
     |.row t' m=>match Ty.eq? t' t with
      |some e=>some (.ok (.tup []) ((L.set k .dead).set b (.nest t u (l.set i (dn e.down m,(l.getD i ([],u.dflt)).2)) none)) none [i<l.length,i=i'])
      |none=>some .no
     |_=>some .no
    |true,some i',.one .nils=>some (.ok (.tup []) (L.set b (.nest t u (l.set i ([],(l.getD i ([],u.dflt)).2)) none)) none [i<l.length,i=i'])
    |_,_,_=>some .no
   |j+1=>match x.cells? with
    |some p=>match Nat.beq p.length n with
     |true=>match oz (u.cells (l.getD i ([],u.dflt)).2) j p with
      |some cs=>match u.parse cs with
       |some (e,[])=>some (.ok (.tup []) (L.set b (.nest t u (l.set i ((l.getD i ([],u.dflt)).1,e)) h)) none [i<l.length])
       |_=>some .no
      |none=>some .no
     |false=>some .no
    |none=>some .no
  |_=>none
 |.one (.iptr b i j off)=>match aa L b with
  |.nest t u l none=>match x.cells? with
   |some p=>match Nat.beq p.length n with
    |true=>match oz (t.cells ((l.getD i ([],u.dflt)).1.getD j t.dflt)) off p with
     |some cs=>match t.parse cs with
      |some (e,[])=>some (.ok (.tup []) (L.set b (.nest t u (l.set i ((l.getD i ([],u.dflt)).1.set j e,(l.getD i ([],u.dflt)).2)) none)) none [i<l.length,j<(l.getD i ([],u.dflt)).1.length])
      |_=>some .no
     |none=>some .no
    |false=>some .no
   |none=>some .no
  |_=>some .no
 |_=>none
def ow (L:List SO) (n:Nat) (a x:SV):OpR:=match lI L n a x with
 |some r=>r
 |none=>match lC L n a x with
  |some r=>r
  |none=>kX L n a x
def uW:SV->Option Int
 |.one (.int _ z)=>some z
 |.one (.lit _ z)=>some z
 |_=>none
def Fj:SV->Option Nat
 |.one (.lit _ (.ofNat n))=>some n
 |_=>none
def pG (L:List SO) (s:Nat) (x i:SV):OpR:=
 match x,uW i with
 |.one (.row t l),some k=>match Nat.beq t.size s with
  |true=>ro1 L (.vptr t (l.getD k.toNat t.dflt) 0) [0<=k/\k<l.length]
  |false=>.no
 |.one (.osl b),some k=>match aa L b with
  |.row t l=>match Nat.beq t.size s with
   |true=>ro1 L (.ptr b k.toNat 0) [0<=k/\k<l.length]
   |false=>.no
  |.rowh t l _ _=>match Nat.beq 1 s with
   |true=>ro1 L (.ptr b k.toNat 0) [0<=k/\k<l.length]
   |false=>.no
  |.nest t u l _=>match Nat.beq (1+u.size) s with
   |true=>ro1 L (.ptr b k.toNat 0) [0<=k/\k<l.length]
   |false=>.no
  |_=>.no
 |.one (.isl b i),some k=>match aa L b with
  |.nest t u l _=>match Nat.beq t.size s with
   |true=>ro1 L (.iptr b i k.toNat 0) [0<=k/\k<(l.getD i ([],u.dflt)).1.length]
   |false=>.no
  |_=>.no
 |.one (.sl b f n),some k=>match aa L b with
  |.row t l=>match Nat.beq t.size s with
   |true=>ro1 L (.ptr b (f+k.toNat) 0) [0<=k/\k<n/\l≠[]]
   |false=>.no
  |_=>.no
 |_,_=>.no
def pE (L:List SO) (len s:Nat) (x i:SV):OpR:=
 match x,Fj i with
 |.one (.ptr b e j),some k=>match Nat.blt k len with
  |true=>ro1 L (.ptr b e (j+k*s)) []
  |false=>.no
 |_,_=>.no
def vR (L:List SO) (x i:SV):OpR:=
 match x,uW i with
 |.one (.str s),some k=>ro1 L (.int .u8 (s.getD k.toNat 0).toNat) [0<=k/\k<s.length]
 |_,_=>.no
def tQ (L:List SO) (ag:Bool) (len s:Nat) (x i:SV):OpR:=
 match x,Fj i with
 |.agg cs,some k=>match Nat.blt k len,qm cs (k*s) s with
  |true,some c=>match gM ag c with
   |some v=>rok L v []
   |none=>.no
  |_,_=>.no
 |_,_=>.no
def Dt (L:List SO) (ag:Bool) (off n:Nat):SV->OpR
 |.agg cs=>match qm cs off n with
  |some c=>match gM ag c with
   |some v=>rok L v []
   |none=>.no
  |none=>.no
 |_=>.no
def pq (L:List SO) (off:Nat):SV->OpR
 |.one (.ptr b i j)=>ro1 L (.ptr b i (j+off)) []
 |.one (.iptr b i j o)=>ro1 L (.iptr b i j (o+off)) []
 |.one (.vptr t x o)=>ro1 L (.vptr t x (o+off)) []
 |_=>.no
def oV (L:List SO) (x:SV):OpR:=
 match x with
 |.one (.ptr _ _ _) | .one (.vptr _ _ _) | .one (.fn _ _) | .one (.yld _) | .one (.iptr _ _ _ _)=>rok L x []
 |_=>.no
def dZ {α:Type}(l:List α) (lo hi:Option Int):List α:=
 match lo,hi with
 |none,none=>l
 |some a,none=>l.drop a.toNat
 |none,some b=>l.take b.toNat
 |some a,some b=>(l.drop a.toNat).take (b.toNat-a.toNat)
def vI (n:Nat) (lo hi:Option Int):List Prop:=
 match lo,hi with
 |none,none=>[]
 |some a,none=>[0<=a/\a<=n]
 |none,some b=>[0<=b/\b<=n]
 |some a,some b=>[0<=a/\a<=b/\b<=n]
def FY (T:ST):Option Opd->Option (Option Int)
 |none=>some none
 |some x=>match uW (opd T x) with
  |some z=>some (some z)
  |none=>none
def toN (x:Option Int) (d:Nat):Nat:=match x with | some z=>z.toNat | none=>d
def ku (T:ST) (L:List SO) (k:nJ) (s:Nat) (x:SV) (lo hi mx:Option Opd):OpR:=
 match k,x,FY T lo,FY T hi,mx with
 |.str,.one (.str s),some a,some b,none=>ro1 L (.str (dZ s a b)) (vI s.length a b)
 |.slc,.one (.row t l),some a,some b,none=>match Nat.beq t.size s with
  |true=>ro1 L (.row t (dZ l a b)) (vI l.length a b)
  |false=>.no
 |.slc,.one (.osl b),some lo,some hi,none=>match aa L b with
  |.row t l=>match Nat.beq t.size s with
   |true=>ro1 L (.sl b (toN lo 0) (toN hi l.length-toN lo 0)) ((0<l.length)::vI l.length lo hi)
   |false=>.no
  |_=>.no
 |.slc,.one (.sl b i n),some lo,some hi,none=>match aa L b with
  |.row t l=>match Nat.beq t.size s with
   |true=>ro1 L (.sl b (i+toN lo 0) (toN hi n-toN lo 0)) ((0<l.length)::vI n lo hi)
   |false=>.no
  |_=>.no
 |.slc,.one (.row t l),some none,some (some h),some m=>match Nat.beq t.size s,uW (opd T m) with
  |true,some z=>.twc [0<=h,h<=z,z<=l.length] (0<z) inferInstance (.one (.row t (l.take h.toNat))) (.one .slz)
  |_,_=>.no
 |_,_,_,_,_=>.no
def cutZ (T:ST) (k:nJ) (lo hi mx:Option Opd):Bool:=match k,lo,hi,mx with
 |.slc,none,some x,none=>match Fj (opd T x) with
  |some 0=>true
  |_=>false
 |_,_,_,_=>false
def qO (L:List SO) (s:Nat) (x:SV):OpR:=match x with
 |.one (.osl b)=>match aa L b with
  |.row t l=>match Nat.beq t.size s with
   |true=>.ok (.one (.osl b)) (L.set b (.row t [])) (some b) [0<l.length]
   |false=>.no
  |_=>.no
 |.one .nils=>rok L x []
 |_=>.no
def Gc (L:List SO):SV->Option (qw×List Prop)
 |.one (.str b)=>some (⟨.int .u8,b.map fun c=>(c.toNat:Int)⟩,[])
 |.one x=>rowOf L x
 |_=>none
def uC (L:List SO) (s bytes:Nat) (x y:SV):Option OpR:=
 match x,y with
 |.one (.osl b),.one (.osl b2)=>match aa L b2,s with
  |.nilr 1,1=>match aa L b with
   |.rowh t l i (.row t' m)=>match Ty.eq? t' t with
    |some h=>some (.ok (.one (.osl b)) (L.set b (.rowh t (l.set i (dn h.down m)++[[]]) l.length .nils)) (some b) [(l.length+1)*bytes<=140737488355328])
    |none=>none
   |_=>none
  |_,_=>none
 |_,_=>none
def um (L:List SO) (s bytes:Nat) (x y:SV):Option OpR:=
 match x,y with
 |.one (.osl b),.one (.osl b2)=>match aa L b,aa L b2 with
  |.nest t u l none,.nrow u' us=>match Ty.eq? u' u with
   |some e=>match Nat.beq (1+u.size) s with
    |true=>some (.ok (.one (.osl b)) (L.set b (.nest t u (l++(dn e.down us).map fun x=>([],x)) none)) (some b) [(l.length+us.length)*bytes<=140737488355328,us≠[]])
    |false=>none
   |none=>none
  |_,_=>none
 |.one (.isl b i),y=>match aa L b with
  |.nest t u l none=>match Gc L y with
   |some (⟨t',m⟩,c)=>match Ty.eq? t' t with
    |some e=>match Nat.beq t.size s with
     |true=>some (.ok (.one (.osl L.length)) (L.set b (.nest t u l (some i))++[.row t ((l.getD i ([],u.dflt)).1++dn e.down m)]) (some (b+1000000)) ((i<l.length)::(m≠[])::(((l.getD i ([],u.dflt)).1.length+m.length)*bytes<=140737488355328)::c))
     |false=>none
    |none=>none
   |none=>none
  |_=>none
 |_,_=>none
def ul (L:List SO) (s bytes:Nat) (x y:SV):OpR:=
 match Gc L y with
 |none=>match x,y with
  |.one (.osl b),.one .nils=>match aa L b with
   |.row _ _=>.ok (.one (.osl b)) L none []
   |_=>.no
  |_,_=>.no
 |some (⟨t,l2⟩,c)=>match Nat.beq t.size s with
  |false=>.no
  |true=>match x with
   |.one .nils | .one .slz=>.ok (.one (.osl L.length)) (L++[.row t l2]) none ((l2.length*bytes<=140737488355328)::c)
   |.one (.osl b)=>match aa L b with
    |.row t1 l1=>match Ty.eq? t t1 with
     |some h=>.ok (.one (.osl b)) (L.set b (.row t1 (l1++dn h.down l2))) (some b) (((l1.length+l2.length)*bytes<=140737488355328)::c)
     |none=>.no
    |_=>.no
   |.one (.sl b i n)=>match aa L b with
    |.row t1 l1=>match Ty.eq? t t1 with
     |some h=>.ok (.one (.osl b)) (L.set b (.row t1 ((l1.drop i).take n++dn h.down l2))) (some b) ((l1≠[])::(l2≠[])::(i+n<=l1.length)::((n+l2.length)*bytes<=140737488355328)::c)
     |none=>.no
    |_=>.no
   |_=>.no
def Dp (L:List SO) (s bytes:Nat) (x y:SV):OpR:=match um L s bytes x y with
 |some r=>r
 |none=>match uC L s bytes x y with
  |some r=>r
  |none=>ul L s bytes x y
def xc (mx:Bool) (x y:SL):Option SL:=
 match x,y with
 |.lit k a,.lit _ b=>some (.lit k (match mx with | true=>(if a<b then b else a) | false=>(if b<a then b else a)))
 |x,y=>match x.i?,y.i? with
  |some (k,a),some (_,b)=>some (.int k (match mx with | true=>(if a<b then b else a) | false=>(if b<a then b else a)))
  |_,_=>none
def oh (mx:Bool):SL->List SV->Option SL
 |x,[]=>some x
 |x,.one y::r=>match xc mx x y with
  |some z=>oh mx z r
  |none=>none
 |_,_=>none
def vW (L:List SO) (mx:Bool):List SV->OpR
 |.one x::r=>match oh mx x r with
  |some z=>match z.i? with
   |some _=>ro1 L z []
   |none=>.no
  |none=>.no
 |_=>.no
def Kr:SV->Option (Nat×Nat×Nat)
 |.one (.ptr b i j)=>some (b,i,j)
 |_=>none
def uB (T:ST):List Opd->Option (List (Nat×Nat×Nat))
 |[]=>some []
 |x::r=>match Kr (opd T x),uB T r with
  |some c,some l=>some (c::l)
  |_,_=>none
def uM (T:ST):List SL->List (Nat×Nat×Opd)->Option (List SL)
 |cs,[]=>some cs
 |cs,(off,n,x)::r=>match (opd T x).cells? with
  |some p=>match Nat.beq p.length n,oz cs off p with
   |true,some cs'=>uM T cs' r
   |_,_=>none
  |none=>none
def uE (T:ST) (t:Ty):List t.den->List (Nat×Opd)->Option (List t.den)
 |es,[]=>some es
 |es,(i,x)::r=>match (opd T x).cells? with
  |some p=>match t.parse p with
   |some (e,[])=>match Nat.blt i es.length with
    |true=>uE T t (es.set i e) r
    |false=>none
   |_=>none
  |none=>none
def wM {α:Type}:Nat->α->List α
 |0,_=>[]
 |n+1,x=>x::wM n x
def lu:SL->Bool
 |.osl _ | .sl _ _ _ | .ptr _ _ _ | .yld _ | .mp _ | .isl _ _ | .iptr _ _ _ _ | .junk=>false
 |.fn _ cap=>cap.isEmpty
 |_=>true
def Ty.parseN:(t:Ty)->List SL->Option (t.den×List SL)
 |.row t,x::r=>match x with
  |.row t' l=>match Ty.eq? t' t with
   |some h=>some (dn h.down l,r)
   |none=>none
  |.nils | .slz=>some ([],r)
  |_=>none
 |.pair a b,l=>match a.parseN l with
  |some (x,r)=>match b.parseN r with
   |some (y,r')=>some ((x,y),r')
   |none=>none
  |none=>none
 |t,l=>t.parse l
def kG (T:ST) (L:List SO) (s:Nat) (z:List Lf) (n:Nat) (ps:List (Nat×Opd)):OpR:=
 match lM z with
 |some t=>match Nat.beq t.size s,uE T t (wM n t.dflt) ps with
  |true,some es=>.ok (.one (.osl L.length)) (L++[.row t es]) none []
  |_,_=>.no
 |none=>match z,ps with
  |[.nils],[(0,x)]=>match s,n,opd T x with
   |1,1,.one .nils=>.ok (.one (.osl L.length)) (L++[.nilr 1]) none []
   |1,1,.one (.row t l)=>.ok (.one (.osl L.length)) (L++[.row (.row t) [l]]) none []
   |_,_,_=>.no
  |[.nils],[(0,x),(1,y)]=>match s,n,opd T x,opd T y with
   |1,2,.one (.row t l),.one (.row t' m)=>match Ty.eq? t' t with
    |some h=>.ok (.one (.osl L.length)) (L++[.row (.row t) [l,dn h.down m]]) none []
    |none=>.no
   |_,_,_,_=>.no
  |.nils::zr,[(0,x)]=>match lM zr,n,opd T x with
   |some u,1,.agg (.nils::cs)=>match Nat.beq (1+u.size) s,u.parse cs with
    |true,some (e,[])=>.ok (.one (.osl L.length)) (L++[.nrow u [e]]) none []
    |_,_=>.no
   |none,1,.agg cs=>match Nat.beq cs.length s,cs.all lu with
    |true,true=>.ok (.one (.osl L.length)) (L++[.raw cs]) none []
    |_,_=>.no
   |_,_,_=>.no
  |_,_=>.no
def uQ (L:List SO) (s:Nat) (z:List Lf) (bytes:Nat) (len cap:SV):OpR:=
 match lM z,uW len,uW cap with
 |some t,some l,some c=>match Nat.beq t.size s with
  |true=>.ok (.one (.osl L.length)) (L++[.row t (List.replicate l.toNat t.dflt)]) none [0<=l/\l<=c/\c*bytes<=140737488355328/\c<=140737488355328]
  |false=>.no
 |none,some l,some c=>match z,s with
  |[.nils],1=>.ok (.one (.osl L.length)) (L++[.nilr l.toNat]) none [0<=l/\l=c/\c*bytes<=140737488355328/\c<=140737488355328]
  |_,_=>.no
 |_,_,_=>.no
def EU (L:List SO) (s:Nat) (z:List Lf) (x:SV):OpR:=
 match x,lM z with
 |.one (.sl b i n),some t=>match Nat.beq t.size s,aa L b with
  |true,.row t' l=>match Ty.eq? t t' with
   |some _=>.ok (.tup []) (L.set b (.row t' (l.take i++(List.replicate n t'.dflt++l.drop (i+n))))) none [0<l.length,i+n<=l.length]
   |none=>.no
  |_,_=>.no
 |_,_=>.no
def EP (L:List SO) (x:SV) (i:Nat):OpR:=
 match x with
 |.tup vs=>match vs[i]? with
  |some (.o x)=>ro1 L x []
  |some (.a cs)=>rok L (.agg cs) []
  |none=>.no
 |_=>.no
def uZ (L:List SO) (c a b:SV):OpR:=
 match c with
 |.one .tt=>rok L a []
 |.one .ff=>rok L b []
 |.one x=>match x.b?,a,b with
  |some t,.one y,.one z=>match y.i?,z.i? with
   |some (k,u),some (k',v)=>match decide (k=k') with
    |true=>ro1 L (.int k (match t with | true=>u | false=>v)) []
    |false=>.no
   |_,_=>.no
  |_,_,_=>.no
 |_=>.no
def FH (L:List SO) (x:SV):OpR:=
 match x with
 |.one (.ptr b 0 0)=>match aa L b with
  |.siter s pos=>.two (pos<s.length) inferInstance
   (.tup [.o .tt,.o (.int .i64 pos),.o (.int .i32 (Utf8.decode ⟨s.toArray⟩ pos).1)]) (L.set b (.siter s (pos+(Utf8.decode ⟨s.toArray⟩ pos).2)))
   (.tup [.o .ff]) L
  |_=>.no
 |_=>.no
def pz (T:ST) (L:List SO) (op:AOp):OpR:=
 let d:=opd T
 match op with
 |.mov x=>rok L (d x) []
 |.bin op x y=>Ep L op (d x) (d y)
 |.eqv k neg x y=>sEq L k neg (d x) (d y)
 |.un op x=>sUn L op (d x)
 |.wrapI k x=>tO L k (d x)
 |.s2b x=>match d x with
  |.one (.str s)=>.ok (.one (.osl L.length)) (L++[.row (.int .u8) (s.map fun c=>(c.toNat:Int))]) none []
  |_=>.no
 |.b2s x=>CW L (d x)
 |.i2s x=>match d x with
  |.one y=>match y.i? with
   |some (_,n)=>ro1 L (.str (Utf8.encode n).toList) []
   |none=>.no
  |_=>.no
 |.s2s x=>match d x with
  |.one (.str s)=>ro1 L (.str s) []
  |_=>.no
 |.pick c a b=>uZ L (d c) (d a) (d b)
 |.new z=>.ok (.one (.ptr L.length 0 0)) (L++[.cell (z.map dm)]) none []
 |.box x=>match (d x).cells? with
  |some p=>.ok (.one (.ptr L.length 0 0)) (L++[.cell p]) none []
  |none=>.no
 |.build z ps=>match uM T (z.map dm) ps with
  |some cs=>rok L (.agg cs) []
  |none=>.no
 |.rowLit s z n ps=>kG T L s z n ps
 |.load ag n a=>qL L ag n (d a)
 |.store n a x=>ow L n (d a) (d x)
 |.nilck x=>oV L (d x)
 |.faddr off x=>pq L off (d x)
 |.fld ag off n x=>Dt L ag off n (d x)
 |.iaddr s x i=>pG L s (d x) (d i)
 |.aaddr len s x i=>pE L len s (d x) (d i)
 |.sidx x i=>vR L (d x) (d i)
 |.aidx ag len s x i=>tQ L ag len s (d x) (d i)
 |.slice k s x lo hi mx=>match cutZ T k lo hi mx with
  |true=>qO L s (d x)
  |false=>ku T L k s (d x) lo hi mx
 |.mksl s z b len cap=>uQ L s z b (d len) (d cap)
 |.mkfn f caps=>match uB T caps with
  |some l=>ro1 L (.fn f l) []
  |none=>.no
 |.rng x=>match d x with
  |.one (.str s)=>.ok (.one (.ptr L.length 0 0)) (L++[.siter s 0]) none []
  |_=>.no
 |.nxt x=>FH L (d x)
 |.ext x i=>EP L (d x) i
 |.len k x=>sLen L k (d x)
 |.app s b x y=>Dp L s b (d x) (d y)
 |.best mx xs=>vW L mx (xs.map d)
 |.clr s z x=>EU L s z (d x)
 |.mkmap=>.ok (.one (.mp L.length)) (L++[.map0]) none []
 |.newb=>.ok (.one (.ptr L.length 0 0)) (L++[.bld []]) none []
 |.lookup kk z x k ok=>kY L kk z ok (d x) (d k)
 |.mapset kk m k v=>kJ L kk (d m) (d k) (d v)
 |_=>.no
end Go.EA
end
section
namespace Go.EA
inductive VC:Type 1 where
 |tt
 |ff
 |prop (p:Prop)
 |and (a b:VC)
 |imp (p:Prop) (v:VC)
 |all (α:Type) (f:α->VC)
 |ex (α:Type) (f:α->VC)
def VC.den:VC->Prop
 |.tt=>True
 |.ff=>False
 |.prop p=>p
 |.and a b=>a.den/\b.den
 |.imp p v=>p->v.den
 |.all α f=>∀x:α,(f x).den
 |.ex α f=>∃x:α,(f x).den
def Ch:List Prop->VC
 |[]=>.tt
 |[p]=>.prop p
 |p::r=>.and (.prop p) (Ch r)
def Jr:List VC->VC
 |[]=>.tt
 |[v]=>v
 |v::r=>.and v (Jr r)
def uw:List Prop->VC->VC
 |[],v=>v
 |p::r,v=>.and (.prop p) (uw r v)
def JS:List Prop->VC->VC
 |[],v=>v
 |p::r,v=>.imp p (JS r v)
def Cf (n:Nat):Nat:=Nat.shiftLeft 1 n
def rdO:Opd->Nat
 |.t n=>Cf n
 |.c _=>0
def Gb:List Opd->Nat
 |[]=>0
 |x::r=>Nat.lor (rdO x) (Gb r)
def rdM:Option Opd->Nat
 |some x=>rdO x
 |none=>0
def rdP:List (Nat×Nat×Opd)->Nat
 |[]=>0
 |(_,_,x)::r=>Nat.lor (rdO x) (rdP r)
def rdE:List (Nat×Opd)->Nat
 |[]=>0
 |(_,x)::r=>Nat.lor (rdO x) (rdE r)
def Mj:AOp->Nat
 |.mov x | .un _ x | .wrapI _ x | .s2b x | .b2s x | .i2s x | .s2s x | .box x | .load _ _ x | .nilck x | .faddr _ x | .fld _ _ _ x | .rng x | .nxt x | .ext x _ | .len _ x=>rdO x
 |.bin _ x y | .eqv _ _ x y | .store _ x y | .iaddr _ x y | .aaddr _ _ x y | .sidx x y | .aidx _ _ _ x y | .app _ _ x y | .mksl _ _ _ x y | .lookup _ _ x y _=>Nat.lor (rdO x) (rdO y)
 |.pick a b c | .mapset _ a b c=>Nat.lor (rdO a) (Nat.lor (rdO b) (rdO c))
 |.new _ | .mkmap | .newb=>0
 |.build _ ps=>rdP ps
 |.rowLit _ _ _ ps=>rdE ps
 |.slice _ _ x a b c=>Nat.lor (rdO x) (Nat.lor (rdM a) (Nat.lor (rdM b) (rdM c)))
 |.mkfn _ cs=>Gb cs
 |.best _ xs=>Gb xs
 |.clr _ _ x=>rdO x
 |.call f xs=>Nat.lor (rdO f) (Gb xs)
def clr (m n:Nat):Nat:=Nat.sub m (Nat.land m (Cf n))
def tX:List AI->Nat->Nat
 |[],o=>o
 | i::r,o=>
   let o1:=tX r o
   let o2:=match i.dst with | some d=>clr o1 d | none=>o1
   let o3:=Nat.lor o2 (Mj i.op)
   match i.gd with | some (d,_)=>Nat.lor o3 (Cf d) | none=>o3
def hdL:List (List AI)->List AI
 |l::_=>l
 |[]=>[]
def xA:List (List AI)->Nat->Nat
 |[],_=>0
 |l::r,o=>Nat.lor (tX l o) (xA r o)
def KC (l:List (Nat×Nat)) (id:Nat):Nat:=match l with
 |[]=>0
 |(i,m)::r=>match Nat.beq i id with | true=>m | false=>KC r id
def lvC:AC->Nat->List (Nat×Nat)->Nat->Nat
 |.skip,o,_,_=>o
 |.dead,_,_,_=>0
 |.reg l,o,_,_ | .dreg l,o,_,_=>tX l o
 |.dalt ls,o,_,_=>xA ls o
 |.dtl ls tl,o,_,_=>xA ls (tX tl o)
 |.seq a b,o,ex,rt=>lvC a (lvC b o ex rt) ex rt
 |.cond c a b,o,ex,rt=>Nat.lor (rdO c) (Nat.lor (lvC a o ex rt) (lvC b o ex rt))
 |.block id b,o,ex,rt=>lvC b o ((id,o)::ex) rt
 |.loop b,_,ex,rt=>lvC b (lvC b 0 ex rt) ex rt
 |.rangeF f _ as bd,o,ex,rt=>Nat.lor (rdO f) (Nat.lor o (lvC as (lvC bd 0 ex rt) [] 0))
 |.exit id,_,ex,_=>KC ex id
 |.ret,_,_,rt=>rt
def ja:List dV->Nat
 |[]=>0
 |.t n::r=>Nat.lor (Cf n) (ja r)
 |.cell n _ _::r=>Nat.lor (Cf n) (ja r)
def gq:Nat->ST->ST
 |_,[]=>[]
 |m,v::r=>(match Nat.beq (Nat.land m 1) 1 with | true=>v | false=>.junk)::gq (Nat.shiftRight m 1) r
inductive SK:Type 1 where
 |code (c:AC)
 |ops (l:List AI)
 |dops (l:List AI)
 |blk (id:Nat)
 |stop (chk:ST->List SO->VC) (lv:Nat)
 |rnd (x:AC) (n:Nat)
inductive Fr:Type 1 where
 |call (f:Nat) (res rs:List dV) (k:List SK) (T:ST) (dst:Option Nat)
 |range (f l:Nat) (rs:List dV) (ps:List Nat) (as bd:AC) (k:List SK) (T:ST)
 |yas (f l:Nat) (rs:List dV) (bd:AC) (k:List SK) (T:ST) (dst:Option Nat)
 |ybd (f l:Nat) (rs:List dV) (k:List SK) (T:ST) (dst:Option Nat)
structure SS:Type 1 where
 e:Ex
 f:Nat
 rs:List dV
 k:List SK
 T:ST
 L:List SO
 fr:List Fr
structure Con where
 sc:Bool
 sig:List (Option Ty)
 g:List SV->Option (SV×List Prop)
structure KP:Type 1 where
 pre:List Prop
 β:Type
 post:β->List Prop
 v:β->SV
 L:β->List SO
 inv:List Nat
structure mP:Type 1 where
 g:List SV->List SO->Option KP
inductive LA:Type 1 where
 |inv (α:Type) (I:α->List (Nat×SV)×List (Nat×SO)) (μ:α->Nat)
 |rnd (n:Nat)
 |cut (α:Type) (I:α->List (Nat×SV)×List (Nat×SO))
structure Env:Type 1 where
 CD:Nat->Option AF
 KT:Nat->Option Con
 AN:Nat->Nat->ST->List SO->Option LA
 top:ST->List SO->VC
 MT:Nat->Option mP
def lvK:List SK->Nat->Nat×List (Nat×Nat)
 |[],rt=>(rt,[])
 |.code c::k,rt=>match lvK k rt with | (o,ex)=>(lvC c o ex rt,ex)
 |.ops l::k,rt | .dops l::k,rt=>match lvK k rt with | (o,ex)=>(tX l o,ex)
 |.blk id::k,rt=>match lvK k rt with | (o,ex)=>(o,(id,o)::ex)
 |.stop _ m::k,rt=>match lvK k rt with | (_,ex)=>(m,ex)
 |.rnd x _::k,rt=>match lvK k rt with | (_,ex)=>(lvC (.loop x) 0 ex rt,ex)
def jR (k:List SK) (rs:List dV):Nat:=match lvK k (ja rs) with | (o,_)=>o
def GM (b:Nat):SV->Bool
 |.one x=>iE b x
 |.agg cs=>cs.any (iE b)
 |.tup vs=>vs.any fun x=>match x with | .o x=>iE b x | .a cs=>cs.any (iE b)
 |.junk=>false
 |.ite _ _ _ _=>false
def qp (b:Nat) (T:ST):Bool:=T.any (GM b)
def bV (b:Nat):List Fr->Bool
 |[]=>false
 |.call _ _ _ _ T _::r=>qp b T||bV b r
 |.range _ l _ _ _ _ _ T::r=>Nat.beq l b||qp b T||bV b r
 |.yas _ l _ _ _ T _::r=>Nat.beq l b||qp b T||bV b r
 |.ybd _ l _ _ T _::r=>Nat.beq l b||qp b T||bV b r
abbrev MR':=Option (List Prop×List Nat)
def mr (p:List Prop):MR':=some (p,[])
def mr2 (a b:MR'):MR':=match a with
 |some (p,f)=>match b with
  |some (q,g)=>some (su p q,f++g)
  |none=>none
 |none=>none
def qE:List (Nat×Nat×Nat)->List (Nat×Nat×Nat)->Bool
 |[],[]=>true
 |(a,b,c)::r,(a',b',c')::r'=>Nat.beq a a'&&Nat.beq b b'&&Nat.beq c c'&&qE r r'
 |_,_=>false
def bK (b:Bool) (p:List Prop):MR':=match b with | true=>mr p | false=>none
def dE:SO->Bool
 |.dead=>true
 |_=>false
def isRow:SO->Bool
 |.row _ _=>true
 |_=>false
def bP:SO->Bool
 |.nest _ _ _ _ | .bld _=>true
 |_=>false
def jI:SO->Bool
 |.row _ _ | .rowh _ _ _ _ | .nilr _ | .nest _ _ _ _ | .nrow _ _ | .raw _=>true
 |_=>false
def yn (n:Nat):List (Nat×Nat×Nat)->Bool
 |[]=>true
 |c::r=>Nat.blt c.1 n&&yn n r
def mL (L L1:List SO) (x y:SL):MR':=
 match y with
 |.junk=>mr []
 |.int k b | .lit k b=>match x.i? with
  |some (k',a)=>bK (decide (k'=k)) [a=b]
  |none=>none
 |.bool b=>match x.b? with | some a=>mr [a=b] | none=>none
 |.tt=>match x with | .tt=>mr [] | x=>match x.b? with | some a=>mr [a=true] | none=>none
 |.ff=>match x with | .ff=>mr [] | x=>match x.b? with | some a=>mr [a=false] | none=>none
 |.dec p d=>match x.b? with | some a=>mr [a=@decide p d] | none=>none
 |.ndec p d=>match x.b? with | some a=>mr [a=!@decide p d] | none=>none
 |.str b=>match x with | .str a=>mr [a=b] | _=>none
 |.row t l'=>match x with
  |.row t0 l=>match Ty.eq? t0 t with | some h=>mr [dn h.down l=l'] | none=>none
  |.nils | .slz=>mr [l'=[]]
  |.osl b=>match aa L b with
   |.row t0 l=>match Ty.eq? t0 t with | some h=>some ([dn h.down l=l'],[b]) | none=>none
   |_=>none
  |.sl b i n=>match aa L b with
   |.row t0 l=>match Ty.eq? t0 t with | some h=>some ([dn h.down ((l.drop i).take n)=l',i+n<=l.length],[b]) | none=>none
   |_=>none
  |_=>none
 |.osl b'=>match x with
  |.osl b=>bK (Nat.beq b b'&&Nat.blt b' L1.length&&(!jI (aa L1 b')||jI (aa L b'))) []
  |.nils | .slz=>match aa L1 b' with
   |.row _ l1=>bK (Nat.blt b' L1.length&&dE (aa L b')) [l1=[]]
   |.rowh _ l1 _ _=>bK (Nat.blt b' L1.length&&dE (aa L b')) [l1=[]]
   |.nest _ _ l1 _=>bK (Nat.blt b' L1.length&&dE (aa L b')) [l1=[]]
   |_=>none
  |_=>none
 |.isl _ _=>none
 |.iptr _ _ _ _=>none
 |.sl b' i' n'=>match x with
  |.sl b i n=>bK (Nat.beq b b'&&Nat.blt b' L1.length) [i=i',n=n']
  |.osl b=>match aa L b with
   |.row _ l=>bK (Nat.beq b b'&&Nat.blt b' L1.length) [l≠[],i'=0,n'=l.length]
   |_=>none
  |_=>none
 |.ptr b' i' j'=>match x with
  |.ptr b i j=>bK (Nat.beq b b'&&Nat.beq j j'&&Nat.blt b' L1.length) (match i,i' with | 0,0=>[] | i,i'=>[i=i'])
  |_=>none
 |.vptr t' x' o'=>match x with
  |.vptr t x o=>match Ty.eq? t t' with | some h=>bK (Nat.beq o o') [rf h.down x=x'] | none=>none
  |_=>none
 |.fn f' cap'=>match x with | .fn f cap=>bK (Nat.beq f f'&&qE cap cap'&&yn L1.length cap') [] | _=>none
 |.yld l'=>match x with | .yld l=>bK (Nat.beq l l'&&Nat.blt l' L1.length) [] | _=>none
 |.mp l'=>match x with | .mp l=>bK (Nat.beq l l'&&Nat.blt l' L1.length) [] | _=>none
 |.nilp=>match x with | .nilp=>mr [] | _=>none
 |.nils=>match x with | .nils=>mr [] | _=>none
 |.slz=>match x with | .slz=>mr [] | _=>none
 |.nilf=>match x with | .nilf=>mr [] | _=>none
 |.nilm=>match x with | .nilm=>mr [] | _=>none
 |.nili=>match x with | .nili=>mr [] | _=>none
def mLs (L L1:List SO):List SL->List SL->MR'
 |[],[]=>mr []
 |x::r,y::l=>mr2 (mL L L1 x y) (mLs L L1 r l)
 |_,_=>none
def mS1 (L L1:List SO):List S1->List S1->MR'
 |[],[]=>mr []
 |.o x::r,.o y::l=>mr2 (mL L L1 x y) (mS1 L L1 r l)
 |.a x::r,.a y::l=>mr2 (mLs L L1 x y) (mS1 L L1 r l)
 |_,_=>none
def mV (L L1:List SO) (x y:SV):MR':=
 match y with
 |.junk=>mr []
 |.one y=>match x with | .one x=>mL L L1 x y | _=>none
 |.agg y=>match x with | .agg x=>mLs L L1 x y | _=>none
 |.tup y=>match x with | .tup x=>mS1 L L1 x y | _=>none
 |.ite _ _ _ _=>none
def mTs (L L1:List SO):ST->ST->MR'
 |_,[]=>mr []
 |[],y::l=>mr2 (mV L L1 .junk y) (mTs L L1 [] l)
 |x::r,y::l=>mr2 (mV L L1 x y) (mTs L L1 r l)
def BS (a b:LSt):Bool:=decide (a=b)
def LY (a b:Option Ex):Bool:=decide (a=b)
def rR (L:List SO) (t:Ty) (s:SL):Option (List t.den×List Nat):=match s with
 |.row t' m=>match Ty.eq? t' t with | some h=>some (dn h.down m,[]) | none=>none
 |.osl k=>match aa L k with
  |.row t' m=>match Ty.eq? t' t with | some h=>some (dn h.down m,[k]) | none=>none
  |_=>none
 |.nils | .slz=>some ([],[])
 |_=>none
def xZ (n:Nat):(t:Ty)->List t.den->MR'
 |.row t,l=>mr [l=List.replicate n []]
 |_,_=>none
def mO (L L1:List SO) (x y:SO):MR':=
 match y with
 |.dead=>mr []
 |.row t1 l1=>match x with
  |.row t l=>match Ty.eq? t1 t with | some h=>mr [l=dn h.down l1] | none=>none
  |.dead=>mr [l1=[]]
  |.rowh t l i s=>match Ty.eq? t1 (.row t) with
   |some h=>match rR L t s with
    |some (m,f)=>some ([l.set i m=dn h.down l1],f)
    |none=>none
   |none=>none
  |.nilr n=>xZ n t1 l1
  |_=>none
 |.rowh t1 l1 i1 x1=>match x with
  |.rowh t l i s=>match Ty.eq? t t1 with
   |some h=>mr2 (mr [dn (congrArg Ty.row h.down) l=l1,i=i1]) (mL L L1 s x1)
   |none=>none
  |.dead=>mr [l1=[]]
  |_=>none
 |.nest t1 u1 l1 h1=>match x with
  |.nest t u l h=>match Ty.eq? (.pair (.row t) u) (.pair (.row t1) u1) with
   |some e=>match h,h1 with
    |none,none=>mr [dn e.down l=l1]
    |some i,some i1=>mr [dn e.down l=l1,i=i1]
    |_,_=>none
   |none=>none
  |.nrow u us=>match Ty.eq? u u1,h1 with
   |some e,none=>mr [((dn e.down us).map fun x=>([],x))=l1]
   |_,_=>none
  |.dead=>match h1 with | none=>mr [l1=[]] | some _=>none
  |_=>none
 |.nrow _ _=>none
 |.raw _=>none
 |.nilr _=>none
 |.map0=>match x with | .map0=>mr [] | _=>none
 |.mapo k1 v1 es1=>match x with
  |.map0=>bK (k1.isOne&&v1.isOne) [es1=[]]
  |.mapo k v es=>match Ty.eq? k k1,Ty.eq? v v1 with
   |some h,some h'=>mr [Lc h.down h'.down es=es1]
   |_,_=>none
  |_=>none
 |.cell cs1=>match x with | .cell cs=>mLs L L1 cs cs1 | _=>none
 |.bld s1=>match x with | .bld s=>mr [s=s1] | _=>none
 |.siter s1 p1=>match x with | .siter s p=>mr [s=s1,p=p1] | _=>none
 |.loop st1 pd1=>match x with | .loop st pd=>bK (BS st st1&&LY pd pd1) [] | _=>none
def mOs (L L1:List SO):List SO->List SO->MR'
 |_,[]=>mr []
 |[],y::l=>mr2 (mO L L1 .dead y) (mOs L L1 [] l)
 |x::r,y::l=>mr2 (mO L L1 x y) (mOs L L1 r l)
def Hr (L L1:List SO):List Nat->Bool
 |[]=>true
 |b::r=>isRow (aa L b)&&dE (aa L1 b)&&Hr L L1 r
def FO (fr:List Fr) (L L1:List SO):Nat->Bool
 |0=>true
 |b+1=>(!bV b fr||(Nat.blt b L1.length&&(!jI (aa L1 b)||jI (aa L b))&&(!bP (aa L b)||bP (aa L1 b))))&&FO fr L L1 b
def mS (T:ST) (L:List SO) (T1:ST) (L1:List SO) (fr:List Fr):Option (List Prop):=
 match mr2 (mTs L L1 T T1) (mOs L L1 L L1) with
 |some (p,fz)=>match Hr L L1 fz&&FO fr L L1 L.length with
  |true=>some p
  |false=>none
 |none=>none
def mvV (b b':Nat):SV->SV
 |.one (.osl d)=>match Nat.beq d b with | true=>.one (.osl b') | false=>jV b (jV b' (.one (.osl d)))
 |v=>jV b (jV b' v)
def mvT (b b':Nat) (T:ST) (L:List SO) (fr:List Fr):Option (ST×List SO):=match aa L b with
 |.row t l=>match Nat.beq b b'||!Nat.blt b' L.length||bV b fr||bV b' fr with
  |true=>none
  |false=>some (T.map (mvV b b'),(((L.set b' (.row t l)).map (jO b')).set b .dead).map (jO b))
 |_=>none
def sP:ST->ST->Option (Nat×Nat)
 |x::T,y::T1=>match y with
  |.one (.osl b')=>match x with
   |.one (.osl b)=>match Nat.beq b b' with | true=>sP T T1 | false=>some (b,b')
   |_=>sP T T1
  |_=>sP T T1
 |_,_=>none
def mvP (b b':Nat):SV->SV
 |.one (.ptr d i j)=>match Nat.beq d b with | true=>.one (.ptr b' i j) | false=>jV b (jV b' (.one (.ptr d i j)))
 |v=>jV b (jV b' v)
def mvC (b b':Nat) (T:ST) (L:List SO) (fr:List Fr):Option (ST×List SO):=match aa L b with
 |.cell cs=>match Nat.beq b b'||!Nat.blt b' L.length||bV b fr||bV b' fr with
  |true=>none
  |false=>some (T.map (mvP b b'),(((L.set b' (.cell cs)).map (jO b')).set b .dead).map (jO b))
 |_=>none
def rY:ST->ST->Option (Nat×Nat)
 |x::T,y::T1=>match y with
  |.one (.ptr b' 0 0)=>match x with
   |.one (.ptr b 0 0)=>match Nat.beq b b' with | true=>rY T T1 | false=>some (b,b')
   |_=>rY T T1
  |_=>rY T T1
 |_,_=>none
def mVC (T:ST) (L:List SO) (T1:ST) (L1:List SO) (fr:List Fr):VC:=match mS T L T1 L1 fr with
 |some p=>Ch p
 |none=>match sP T T1 with
  |some (b,b')=>match mvT b b' T L fr with
   |some (T',L')=>match mS T' L' T1 L1 fr with
    |some p=>Ch p
    |none=>.ff
   |none=>.ff
  |none=>match rY T T1 with
   |some (b,b')=>match mvC b b' T L fr with
    |some (T',L')=>match mS T' L' T1 L1 fr with
     |some p=>Ch p
     |none=>.ff
    |none=>.ff
   |none=>.ff
def Ah (T:ST) (L:List SO):dV->Option SV
 |.t n=>some (T.getD n .junk)
 |.cell a ag n=>match T.getD a .junk with
  |.one (.ptr b 0 j)=>match aa L b with
   |.cell cs=>match qm cs j n with
    |some c=>gM ag c
    |none=>none
   |_=>none
  |_=>none
def JZ:SV->Option S1
 |.one x=>some (.o x)
 |.agg cs=>some (.a cs)
 |_=>none
def yj (T:ST) (L:List SO):List dV->Option (List S1)
 |[]=>some []
 |r::rs=>match Ah T L r with
  |some v=>match JZ v,yj T L rs with
   |some x,some l=>some (x::l)
   |_,_=>none
  |none=>none
def BL (T:ST) (L:List SO):List dV->Option SV
 |[r]=>Ah T L r
 |rs=>(yj T L rs).map .tup
def wh (res:List dV) (v:SV) (T:ST) (L:List SO):VC:=match BL T L res with
 |some v0=>mVC [v0] L [v] [] []
 |none=>.ff
inductive StR:Type 1 where
 |next (s:SS) (c:List Prop)
 |two (p:Prop) (d:Decidable p) (s1 s2:SS)
 |fin (v:VC)
 |loop (b:AC)
 |all (l:List SS)
 |opt (p:Prop) (s1 s2:SS)
 |twc (c:List Prop) (p:Prop) (d:Decidable p) (s1 s2:SS)
 |rel (c:List Prop) (α:Type) (p:α->List Prop) (s:α->SS)
def unw (id:Nat):List SK->Option (List SK)
 |[]=>none
 |.blk id'::k=>match Nat.beq id id' with | true=>some k | false=>unw id k
 |_::k=>unw id k
def vT (E:Env) (e:Ex) (T:ST) (L:List SO):List Fr->StR
 |[]=>match e with
  |.exit _=>.fin .ff
  |_=>.fin (E.top T L)
 |.call f res rs k T0 dst::fr=>match e with
  |.exit _=>.fin .ff
  |_=>match BL T L res with
   |some v=>.next ⟨.normal,f,rs,k,fG T0 dst v,L,fr⟩ []
   |none=>.fin .ff
 |.range f l rs ps as bd k T0::fr=>match e with
  |.exit _=>.fin .ff
  |_=>match aa L l with
   |.loop st pd=>match BS st .busy with
    |true=>.fin .ff
    |false=>.next ⟨match pd with | some e'=>e' | none=>.normal,f,rs,k,T0,L.set l .dead,fr⟩ []
   |_=>.fin .ff
 |.yas f l rs bd k T0 dst::fr=>match e with
  |.normal=>match aa L l with
   |.loop .ready pd=>.next ⟨.normal,f,rs,[.code bd],T,L.set l (.loop .busy pd),.ybd f l rs k T0 dst::fr⟩ []
   |_=>.fin .ff
  |_=>.fin .ff
 |.ybd f l rs k T0 dst::fr=>match aa L l with
  |.loop .busy _=>match e with
   |.normal=>.next ⟨.normal,f,rs,k,fG T0 dst (.one .tt),L.set l (.loop .ready none),fr⟩ []
   |e=>.next ⟨.normal,f,rs,k,fG T0 dst (.one .ff),L.set l (.loop .done (some e)),fr⟩ []
  |_=>.fin .ff
def fzL (b:Nat) (t:Ty) (l:List t.den) (x:SL):SL:=match x with
 |.osl c=>match Nat.beq c b with | true=>.row t l | false=>x
 |x=>jL b x
def fzV (b:Nat) (t:Ty) (l:List t.den):SV->SV
 |.one x=>.one (fzL b t l x)
 |.agg cs=>.agg (cs.map (fzL b t l))
 |.tup vs=>.tup (vs.map fun x=>match x with | .o x=>.o (fzL b t l x) | .a cs=>.a (cs.map (fzL b t l)))
 |.junk=>.junk
 |.ite _ _ _ _=>.junk
def fzO (b:Nat) (t:Ty) (l:List t.den):SO->SO
 |.cell cs=>.cell (cs.map (fzL b t l))
 |.rowh t' l' i x=>.rowh t' l' i (fzL b t l x)
 |x=>x
def xL:List SV->Option Nat
 |[]=>none
 |.one (.osl b)::_=>some b
 |_::r=>xL r
def nrm (x:SL):SL:=match x with
 |.lit k z=>.int k z
 |.tt=>.bool true
 |.ff=>.bool false
 |.dec p d=>.bool (@decide p d)
 |.ndec p d=>.bool (!@decide p d)
 |x=>x
def xG:SV->SV
 |.one x=>.one (nrm x)
 |.agg cs=>.agg (cs.map nrm)
 |x=>x
def clL:SL->Bool
 |.osl _ | .sl _ _ _ | .ptr _ _ _ | .yld _ | .mp _ | .isl _ _ | .iptr _ _ _ _ | .junk=>false
 |.fn _ cap=>cap.isEmpty
 |_=>true
def clV:SV->Bool
 |.one x=>clL x
 |.agg cs=>cs.all clL
 |.tup vs=>vs.all fun x=>match x with | .o x=>clL x | .a cs=>cs.all clL
 |.junk=>false
 |.ite _ _ _ _=>false
def nZ (nil:Bool) (s:Option Ty) (x:SV):SV:=match s with
 |none=>xG x
 |some t=>match x with
  |.one .nils | .one .slz=>match nil with | true=>.one (.row t []) | false=>.junk
  |x=>xG x
def rX (nil:Bool):List (Option Ty)->List SV->List SV
 |_,[]=>[]
 |[],x::r=>xG x::rX nil [] r
 |s::sg,x::r=>nZ nil s x::rX nil sg r
def bi:SL->Lf
 |.int k z=>.int k z
 |.lit k z=>.int k z
 |.bool b=>.bool b
 |.tt=>.bool true
 |.ff=>.bool false
 |.dec p d=>.bool (@decide p d)
 |.ndec p d=>.bool (!@decide p d)
 |.str s=>.str s
 |.row t l=>.vrow t.size (l.map t.enc)
 |.vptr t x off=>.vptr ((t.enc x).drop off)
 |.fn f _=>.fn f []
 |.nilp=>.nilp
 |.nils=>.nils
 |.slz=>.slz
 |.nilf=>.nilf
 |.nilm=>.nilm
 |_=>.nili
def CX:S1->AV
 |.o x=>.one (bi x)
 |.a cs=>.agg (cs.map bi)
def aF:SV->AV
 |.one x=>.one (bi x)
 |.agg cs=>.agg (cs.map bi)
 |.tup vs=>.tup (vs.map CX)
 |.junk=>.tup []
 |.ite p d a b=>@_root_.ite _ p d (aF a) (aF b)
def CQ (L:List SO) (x:SL):Option (qw×List Prop):=match x with
 |.osl b=>match aa L b with
  |.nest t u l none=>some (⟨.pair (.row t) u,l⟩,[])
  |_=>rowOf L (.osl b)
 |x=>rowOf L x
def yt (L:List SO) (t:Ty) (x:SL):Option (List t.den×List Prop):=match x with
 |.nils | .slz=>some ([],[])
 |x=>match CQ L x with
  |some (⟨t',l'⟩,c)=>match Ty.eq? t' t with
   |some h=>some (dn h.down l',c)
   |none=>none
  |none=>none
def Ty.parseL (L:List SO):(t:Ty)->List SL->Option (t.den×List SL×List Prop)
 |.row t,x::r=>match yt L t x with
  |some (l,c)=>some (l,r,c)
  |none=>none
 |.pair a b,l=>match a.parseL L l with
  |some (x,r,c)=>match b.parseL L r with
   |some (y,r',c')=>some ((x,y),r',su c c')
   |none=>none
  |none=>none
 |t,l=>match t.parse l with
  |some (x,r)=>some (x,r,[])
  |none=>none
def Df (L:List SO) (t:Ty) (b i:Nat):Option (t.den×List Prop):=match aa L b with
 |.cell cs=>match i with
  |0=>match t.parseL L cs with
   |some (e,_,c)=>some (e,c)
   |none=>none
  |_=>none
 |.row t' l=>match Ty.eq? t' t with
  |some h=>some (rf h.down (l.getD i t'.dflt),[i<l.length])
  |none=>none
 |_=>none
def Kc (L:List SO) (s:Option Ty) (x:SL):Option (SL×List Prop):=match s with
 |none=>some (nrm x,[])
 |some t=>match x with
  |.ptr b i j=>match j with
   |0=>match Df L t b i with
    |some (e,c)=>some (.vptr t e 0,c)
    |none=>none
   |_=>none
  |.osl _ | .sl _ _ _ | .isl _ _ | .nils | .slz=>match yt L t x with
   |some (l,c)=>some (.row t l,c)
   |none=>none
  |x=>some (nrm x,[])
def IK (L:List SO) (x:SL):Option (SL×List Prop):=match x with
 |.osl _ | .sl _ _ _ | .isl _ _=>match rowOf L x with
  |some (⟨t',l'⟩,c)=>some (.row t' l',c)
  |none=>none
 |x=>some (nrm x,[])
def yX (L:List SO):List SL->Option (List SL×List Prop)
 |[]=>some ([],[])
 |x::r=>match IK L x with
  |some (y,c)=>match yX L r with
   |some (l,c')=>some (y::l,su c c')
   |none=>none
  |none=>none
def xq (L:List SO) (s:Option Ty):SV->Option (SV×List Prop)
 |.one x=>match Kc L s x with
  |some (y,c)=>some (.one y,c)
  |none=>none
 |.agg cs=>match yX L cs with
  |some (l,c)=>some (.agg l,c)
  |none=>none
 |_=>none
def qD (L:List SO):List (Option Ty)->List SV->Option (List SV×List Prop)
 |_,[]=>some ([],[])
 |sg,x::r=>match xq L (match sg with | []=>none | s::_=>s) x with
  |some (y,c)=>match qD L sg.tail r with
   |some (l,c')=>some (y::l,su c c')
   |none=>none
  |none=>none
def frz (b:Nat) (T:ST) (L:List SO) (fr:List Fr):Option (ST×List SO):=
 match aa L b with
 |.row t l=>match bV b fr with
  |true=>none
  |false=>some (T.map (fzV b t l),(L.map (fzO b t l)).set b .dead)
 |_=>none
def looksAt (KT:Nat->Option Con) (T:ST) (fo:Opd):Bool:=match opd T fo with
 |.one (.fn i [])=>match KT i with
  |some con=>con.sc
  |none=>false
 |_=>false
def iR (KT:Nat->Option Con) (T:ST):List AI->Option Nat
 |[]=>none
 |⟨_,.call fo xs,_⟩::r=>match looksAt KT T fo with
  |true=>iR KT T r
  |false=>match xL (xs.map (opd T)) with
   |some b=>some b
   |none=>iR KT T r
 |_::r=>iR KT T r
def sS:ST->List Nat->List SV->ST
 |T,p::ps,v::vs=>sS (T.set p v) ps vs
 |T,_,_=>T
def vX (l:Nat):List Fr->Option (Nat×List dV×List Nat×AC×AC×ST)
 |[]=>none
 |.range f l' rs ps as bd _ T::fr=>match Nat.beq l l' with | true=>some (f,rs,ps,as,bd,T) | false=>vX l fr
 |_::fr=>vX l fr
def qj (af:AF) (xs:List SV) (cap:List (Nat×Nat×Nat)):ST:=
 xs++((cap.map fun c=>SV.one (.ptr c.1 c.2.1 c.2.2))++wM (af.nt-af.np) (.tup []))
def fork (v:SV) (mk:SV->SS) (chk:SV->Bool) (c:List Prop):StR:=match v with
 |.ite p d a b=>match chk a&&chk b with
  |true=>.twc c p d (mk a) (mk b)
  |false=>.fin .ff
 |v=>match chk v with
  |true=>.next (mk v) c
  |false=>.fin .ff
def jh (E:Env) (d:Bool) (s:SS) (dst:Option Nat) (fo:Opd) (xs:List Opd) (k:List SK):StR:=
 match s with
 | ⟨_,f,rs,k0,T,L,fr⟩=>
   match opd T fo with
   |.one (.fn i cap)=>match (match cap with | []=>E.KT i | _=>none) with
    |some con => match con.sc with
     |true => match qD L con.sig (xs.map (opd T)) with
      |some (ys,c0)=>match ys.all clV with
       |true=>match con.g ys with
        |some (v,c)=>fork v (fun v=>⟨.normal,f,rs,k,fG T dst v,L,fr⟩) (fun v=>clV v&&scA (aF v)) (su c0 c)
        |none=>.fin .ff
       |false=>.fin .ff
      |none=>.fin .ff
     |false => match xL (xs.map (opd T)) with
      |some b=>match d,frz b T L fr with
       |false,some (T',L')=>.next ⟨.normal,f,rs,k0,T',L',fr⟩ []
       |_,_=>.fin .ff
      |none=>match rX (!d) con.sig (xs.map (opd T)) with
       |ys=>match ys.all clV with
        |true=>match con.g ys with
         |some (v,c)=>fork v (fun v=>⟨.normal,f,rs,k,fG T dst v,L,fr⟩) clV c
         |none=>.fin .ff
        |false=>.fin .ff
    |none => match (match cap with | [] => (match d with | false => E.MT i | true => none) | _ => none) with
     |some mc => match mc.g (xs.map (opd T)) L with
      |some r=>match r.inv.any fun b=>bV b fr with
       |true=>.fin .ff
       |false=>match (match r.inv with | []=>T | inv=>T.map (jVs inv)) with
        |T'=>.rel r.pre r.β r.post fun x=>⟨.normal,f,rs,k,fG T' dst (r.v x),r.L x,fr⟩
      |none=>.fin .ff
     |none => match d, E.CD i with
      |false,some af=>match Nat.beq (xs.length+cap.length) af.np with
       |true=>.next ⟨.normal,i,af.res,[.code af.body],qj af (xs.map (opd T)) cap,L,.call f af.res rs k (gq (jR k rs) T) dst::fr⟩ []
       |false=>.fin .ff
      |_,_=>.fin .ff
   |.one (.yld l)=>match d,aa L l,vX l fr with
    |false,.loop .ready _,some (f',rs',ps,as,bd,T0)=>match Nat.beq xs.length ps.length with
     |true=>.next ⟨.normal,f',rs',[.code as],sS T0 ps (xs.map (opd T)),L,.yas f l rs bd k (gq (jR k rs) T) dst::fr⟩ []
     |false=>.fin .ff
    |_,_,_=>.fin .ff
   |_=>.fin .ff
def Ld (T:ST):AOp->Option (Prop×Bool)
 |.eqv .slc neg x (.c (.one .nils))=>match opd T x with
  |.one (.row _ l)=>some (l=[],neg)
  |_=>none
 |_=>none
def KW (T:ST) (L:List SO):AOp->Option Nat
 |.app _ _ x _=>match opd T x with
  |.one (.osl b)=>match aa L b with
   |.rowh _ _ _ (.osl k)=>some k
   |_=>none
  |_=>none
 |.store _ a x=>match opd T x with
  |.one (.osl k)=>match opd T a with
   |.one (.ptr b _ _)=>match aa L b with
    |.row (.pair _ _) _=>some k
    |_=>none
   |_=>none
  |_=>none
 |_=>none
def Ei (T:ST) (L:List SO):AOp->Option (Nat×SO)
 |.app _ _ x y=>match opd T x with
  |.one (.osl b)=>match aa L b with
   |.row t _=>match opd T y with
    |.one (.osl b2)=>match aa L b2 with
     |.raw cs=>match t.parseN cs with
      |some (e,[])=>some (b2,.row t [e])
      |_=>none
     |_=>none
    |_=>none
   |_=>none
  |_=>none
 |_=>none
def Ce (T:ST) (L:List SO):AOp->Option (Nat×SO)
 |.store n a _=>match n,opd T a with
  |1,.one (.ptr b i 0)=>match aa L b with
   |.nest t u l none=>some (b,.nest t u l (some i))
   |_=>none
  |_,_=>none
 |_=>none
def GH (k b i:Nat):SV->SV
 |.one (.osl k')=>match Nat.beq k' k with | true=>.one (.isl b i) | false=>.one (.osl k')
 |v=>v
def sD (T:ST) (L:List SO):AOp->Option ((Nat×Nat×Nat)×List SO×List Prop)
 |.store n a x=>match Nat.beq n 1,opd T a,opd T x with
  |true,.one (.ptr b i 0),.one (.osl k)=>match aa L b,aa L k with
   |.nest t u l (some i'),.row t' m=>match Ty.eq? t' t with
    |some e=>some ((k,b,i),(L.set k .dead).set b (.nest t u (l.set i (dn e.down m,(l.getD i ([],u.dflt)).2)) none),[i<l.length,i=i'])
    |none=>none
   |_,_=>none
  |_,_,_=>none
 |_=>none
def Lu (E:Env) (f:Nat) (dst:Option Nat) (T:ST) (L:List SO):Option Nat:=match dst with
 |some d=>match E.AN f (6000+d) T L with
  |some (.rnd b)=>match aa L b with
   |.nest _ _ _ none=>some b
   |.row _ _=>some b
   |_=>none
  |_=>none
 |none=>none
def Kb (b:Nat) (T:ST) (L:List SO) (fr:List Fr):Option (ST×List SO):=match aa L b with
 |.nest t u l none=>match bV (b+1000000) fr with
  |false=>some (T.map (jV (b+1000000)),(L.set b (.row (.pair (.row t) u) l)).map (jO (b+1000000)))
  |true=>none
 |_=>frz b T L fr
def KF (E:Env) (f:Nat) (dst:Option Nat) (T:ST) (L:List SO):Option Bool:=match dst with
 |some d=>match E.AN f (2000+d) T L with
  |some (.rnd n)=>match n with
   |0=>some false
   |_=>some true
  |_=>none
 |none=>none
def Iq (E:Env) (f g:Nat) (T:ST) (L:List SO):Option Bool:=match E.AN f (3000+g) T L with
 |some (.rnd n)=>match n with
  |0=>some false
  |_=>some true
 |_=>none
def rz (E:Env) (d:Bool) (s:SS) (i:AI) (k:List SK):StR:=
 match s with
 | ⟨_,f,rs,k0,T,L,fr⟩=>
   match (match i.gd with
    |none=>some true
    |some (g,b)=>match T.getD g .junk with
     |.one .tt=>some (match b with | true=>true | false=>false)
     |.one .ff=>some (match b with | true=>false | false=>true)
     |.tup []=>some false
     |_=>none) with
   |some false=>.next ⟨.normal,f,rs,k,fG T i.dst (.tup []),L,fr⟩ []
   |some true=>match i.op with
    |.call fo xs=>jh E d s i.dst fo xs k
    |op=>match (match d with | true=>none | false=>Ld T op) with
     |some (p,neg)=>.opt p ⟨.normal,f,rs,k,fG T i.dst (.one (Ba (match neg with | true=>false | false=>true))),L,fr⟩ ⟨.normal,f,rs,k,fG T i.dst (.one (Ba neg)),L,fr⟩
     |none => match (match d with | true => none | false => KW T L op) with
      |some b => match frz b T L fr with
       |some (T',L')=>.next ⟨.normal,f,rs,k0,T',L',fr⟩ []
       |none=>.fin .ff
      |none=>match (match d with | true=>none | false=>Lu E f i.dst T L) with
      |some b => match Kb b T L fr with
       |some (T',L')=>.next ⟨.normal,f,rs,k0,T',L',fr⟩ []
       |none=>.fin .ff
      |none=>match (match d with | true=>none | false=>Ei T L op) with
      |some (b2,o)=>.next ⟨.normal,f,rs,k0,T,L.set b2 o,fr⟩ []
      |none=>match Ce T L op with
      |some (b, o) => match bV (b + 1000000) fr with
       |false=>.next ⟨.normal,f,rs,k0,T.map (jV (b+1000000)),(L.set b o).map (jO (b+1000000)),fr⟩ []
       |true=>.fin .ff
      |none=>match sD T L op with
      |some ((k1,b1,i1),L',c)=>.next ⟨.normal,f,rs,k,fG (T.map (GH k1 b1 i1)) i.dst (.tup []),L',fr⟩ c
      |none => match pz T L op with
       |.ok v L' inv c=>match inv with
        |none=>.next ⟨.normal,f,rs,k,fG T i.dst v,L',fr⟩ c
        |some b=>match bV b fr with
         |false=>.next ⟨.normal,f,rs,k,fG (T.map (jV b)) i.dst v,L'.map (jO b),fr⟩ c
         |true=>.fin .ff
       |.two p dp v1 L1 v2 L2=>match d with
        |false=>.two p dp ⟨.normal,f,rs,k,fG T i.dst v1,L1,fr⟩ ⟨.normal,f,rs,k,fG T i.dst v2,L2,fr⟩
        |true=>.fin .ff
       |.twc c p dp v1 v2=>match KF E f i.dst T L with
        |some true=>.next ⟨.normal,f,rs,k,fG T i.dst v1,L,fr⟩ (p::c)
        |some false=>.next ⟨.normal,f,rs,k,fG T i.dst v2,L,fr⟩ ((¬ p)::c)
        |none=>.twc c p dp ⟨.normal,f,rs,k,fG T i.dst v1,L,fr⟩ ⟨.normal,f,rs,k,fG T i.dst v2,L,fr⟩
       |.no=>.fin .ff
   |none=>match i.gd with
    |some (g,_)=>match T.getD g .junk with
     |.one (.dec p dp)=>match Iq E f g T L with
      |some true=>.next ⟨.normal,f,rs,k0,T.set g (.one .tt),L,fr⟩ [p]
      |some false=>.next ⟨.normal,f,rs,k0,T.set g (.one .ff),L,fr⟩ [¬ p]
      |none=>.two p dp ⟨.normal,f,rs,k0,T.set g (.one .tt),L,fr⟩ ⟨.normal,f,rs,k0,T.set g (.one .ff),L,fr⟩
     |.one (.ndec p dp)=>match Iq E f g T L with
      |some true=>.next ⟨.normal,f,rs,k0,T.set g (.one .tt),L,fr⟩ [¬ p]
      |some false=>.next ⟨.normal,f,rs,k0,T.set g (.one .ff),L,fr⟩ [p]
      |none=>.two p dp ⟨.normal,f,rs,k0,T.set g (.one .ff),L,fr⟩ ⟨.normal,f,rs,k0,T.set g (.one .tt),L,fr⟩
     |.one (.bool b)=>.two (b=true) inferInstance ⟨.normal,f,rs,k0,T.set g (.one .tt),L,fr⟩ ⟨.normal,f,rs,k0,T.set g (.one .ff),L,fr⟩
     |_=>.fin .ff
    |none=>.fin .ff
def step (E:Env) (s:SS):StR:=
 match s with
 | ⟨e,f,rs,k,T,L,fr⟩=>
   match e with
   |.ret=>vT E .ret T L fr
   |.exit id=>match unw id k with
    |some k'=>.next ⟨.normal,f,rs,k',T,L,fr⟩ []
    |none=>vT E (.exit id) T L fr
   |.normal=>match k with
    |[]=>vT E .normal T L fr
    |.ops []::k=>.next ⟨.normal,f,rs,k,T,L,fr⟩ []
    |.ops (i::r)::k=>rz E false s i (.ops r::k)
    |.dops []::k=>.next ⟨.normal,f,rs,k,T,L,fr⟩ []
    |.dops (i::r)::k=>rz E true s i (.dops r::k)
    |.blk _::k=>.next ⟨.normal,f,rs,k,T,L,fr⟩ []
    |.rnd x n::k=>match n with
     |0=>.fin .ff
     |n+1=>.next ⟨.normal,f,rs,.code x::.rnd x n::k,T,L,fr⟩ []
    |.stop chk _::_=>.fin (chk T L)
    |.code c::k=>match c with
     |.skip=>.next ⟨.normal,f,rs,k,T,L,fr⟩ []
     |.dead=>.fin .ff
     |.reg l=>.next ⟨.normal,f,rs,.ops l::k,T,L,fr⟩ []
     |.dreg l=>match iR E.KT T l with
      |none=>.next ⟨.normal,f,rs,.dops l::k,T,L,fr⟩ []
      |some b=>match frz b T L fr with
       |some (T',L')=>.next ⟨.normal,f,rs,.code (.dreg l)::k,T',L',fr⟩ []
       |none=>.fin .ff
     |.dalt ls=>match iR E.KT T (hdL ls) with
      |none=>.all (ls.map fun l=>⟨.normal,f,rs,.dops l::k,T,L,fr⟩)
      |some b=>match frz b T L fr with
       |some (T',L')=>.next ⟨.normal,f,rs,.code (.dalt ls)::k,T',L',fr⟩ []
       |none=>.fin .ff
     |.dtl ls tl=>match iR E.KT T (hdL ls) with
      |none=>.all (ls.map fun l=>⟨.normal,f,rs,.dops l::.ops (tl.take 1)::.dops (tl.drop 1)::k,T,L,fr⟩)
      |some b=>match frz b T L fr with
       |some (T',L')=>.next ⟨.normal,f,rs,.code (.dtl ls tl)::k,T',L',fr⟩ []
       |none=>.fin .ff
     |.seq a b=>match a with
      |.skip=>.next ⟨.normal,f,rs,.code b::k,T,L,fr⟩ []
      |a=>.next ⟨.normal,f,rs,.code a::.code b::k,T,L,fr⟩ []
     |.cond c a b=>match opd T c with
      |.one .tt=>.next ⟨.normal,f,rs,.code a::k,T,L,fr⟩ []
      |.one .ff=>.next ⟨.normal,f,rs,.code b::k,T,L,fr⟩ []
      |.one (.dec p dp)=>.two p dp ⟨.normal,f,rs,.code a::k,T,L,fr⟩ ⟨.normal,f,rs,.code b::k,T,L,fr⟩
      |.one (.ndec p dp)=>.two p dp ⟨.normal,f,rs,.code b::k,T,L,fr⟩ ⟨.normal,f,rs,.code a::k,T,L,fr⟩
      |.one (.bool x)=>.two (x=true) inferInstance ⟨.normal,f,rs,.code a::k,T,L,fr⟩ ⟨.normal,f,rs,.code b::k,T,L,fr⟩
      |_=>.fin .ff
     |.block id b=>.next ⟨.normal,f,rs,.code b::.blk id::k,T,L,fr⟩ []
     |.loop b=>.loop b
     |.rangeF fo ps as bd=>match opd T fo with
      |.one (.fn i cap)=>match E.CD i with
       |some af=>match Nat.beq (1+cap.length) af.np,af.res with
        |true,[]=>match gq (Nat.lor (jR k rs) (lvC as (lvC bd 0 (match lvK k (ja rs) with | (_,ex)=>ex) (ja rs)) [] 0)) T with
         |T0=>.next ⟨.normal,i,[],[.code af.body],qj af [.one (.yld L.length)] cap,L++[.loop .ready none],.range f L.length rs ps as bd k T0::fr⟩ []
        |_,_=>.fin .ff
       |none=>.fin .ff
      |_=>.fin .ff
     |.exit id=>.next ⟨.exit id,f,rs,k,T,L,fr⟩ []
     |.ret=>.next ⟨.ret,f,rs,k,T,L,fr⟩ []
def oo:ST->List (Nat×SV)->ST
 |T,[]=>T
 |T,(i,v)::r=>oo (T.set i v) r
def gY:List SO->List (Nat×SO)->List SO
 |L,[]=>L
 |L,(i,o)::r=>gY (match Nat.blt i L.length with | true=>L.set i o | false=>L++[o]) r
def Kl:List SK->Nat
 |.blk id::_=>id
 |_=>0
def fV {α:Type}{β:Type 1}:List α->(List α->β)->β
 |[],k=>k []
 |x::r,k=>fV r fun r'=>k (x::r')
structure KX:Type 1 where
 id:Nat
 b:AC
 k:List SK
 α:Type
 I:α->List (Nat×SV)×List (Nat×SO)
def Dy (E:Env) (s:SS):Option KX:=match s with
 |⟨.normal,f,_,.code (.block id b)::k,T,L,_⟩=>match E.AN f id T L with
  |some (.cut α I)=>some ⟨id,b,k,α,I⟩
  |_=>none
 |_=>none
structure LC:Type 1 where
 i:AI
 r:List AI
 k:List SK
 α:Type
 I:α->List (Nat×SV)×List (Nat×SO)
def xg (E:Env) (s:SS):Option LC:=match s with
 |⟨.normal,f,_,.ops (i::x::r)::k,T,L,_⟩=>match i.dst with
  |some d=>match E.AN f (1000+d) T L with
   |some (.cut α I)=>some ⟨i,x::r,k,α,I⟩
   |_=>none
  |none=>none
 |_=>none
def Kj:AC->Option Nat
 |.reg (i::_) | .dreg (i::_)=>i.dst
 |.dalt ((i::_)::_) | .dtl ((i::_)::_) _=>i.dst
 |.seq a _=>Kj a
 |_=>none
def xR (E:Env) (s:SS):Option (AC×KX):=match s with
 |⟨.normal,f,_,.code (.seq a b)::k,T,L,_⟩=>match a,Kj b with
  |.skip,_=>none
  |_,some d=>match E.AN f (4000+d) T L with
   |some (.cut α I)=>some (a,⟨0,b,k,α,I⟩)
   |_=>none
  |_,none=>none
 |_=>none
def wp (E:Env):Nat->SS->VC
 |0,_=>.ff
 |n + 1, s => match Dy E s with
  |some ⟨id, b, k, α, I⟩ => match s with
   |⟨_,f,rs,_,T,L,fr⟩=>match jR k rs with
    | lv=>fV     (gq    lv T) fun T0=>
      .and (wp E n ⟨.normal,f,rs,.code b::.blk id::.stop (fun T' L'=>.ex α fun x=>mVC T' L' (oo T0 (I x).1) (gY L (I x).2) fr) lv::k,T,L,fr⟩)
       (.all α fun x=>wp E n ⟨.normal,f,rs,k,oo T0 (I x).1,gY L (I x).2,fr⟩)
  |none=>match xg E s with
  |some ⟨i, r, k, α, I⟩ => match s with
   |⟨_,f,rs,_,T,L,fr⟩=>match jR (.ops r::k) rs with
    | lv=>fV     (gq    lv T) fun T0=>
      .and (wp E n ⟨.normal,f,rs,.ops [i]::.stop (fun T' L'=>.ex α fun x=>mVC T' L' (oo T0 (I x).1) (gY L (I x).2) fr) lv::.ops r::k,T,L,fr⟩)
       (.all α fun x=>wp E n ⟨.normal,f,rs,.ops r::k,oo T0 (I x).1,gY L (I x).2,fr⟩)
  |none=>match xR E s with
  |some (a, ⟨_, b, k, α, I⟩) => match s with
   |⟨_,f,rs,_,T,L,fr⟩=>match jR (.code b::k) rs with
    | lv=>fV     (gq    lv T) fun T0=>
      .and (wp E n ⟨.normal,f,rs,.code a::.stop (fun T' L'=>.ex α fun x=>mVC T' L' (oo T0 (I x).1) (gY L (I x).2) fr) lv::.code b::k,T,L,fr⟩)
       (.all α fun x=>wp E n ⟨.normal,f,rs,.code b::k,oo T0 (I x).1,gY L (I x).2,fr⟩)
  |none => match step E s with
   |.next s' c=>match s' with
    |⟨e,f,rs,k,T,L,fr⟩=>uw c (fV T fun T=>fV L fun L=>wp E n ⟨e,f,rs,k,T,L,fr⟩)
   |.two p _ s1 s2=>.and (.imp p (wp E n s1)) (.imp (¬ p) (wp E n s2))
   |.fin v=>v
   |.all l=>Jr (l.map (wp E n))
   |.opt p s1 s2=>.and (.imp p (wp E n s1)) (wp E n s2)
   |.twc c p _ s1 s2=>uw c (.and (.imp p (wp E n s1)) (.imp (¬ p) (wp E n s2)))
   |.rel c α p s'=>uw c (.all α fun x=>JS (p x) (match s' x with
    |⟨e,f,rs,k,T,L,fr⟩=>fV T fun T=>fV L fun L=>wp E n ⟨e,f,rs,k,T,L,fr⟩))
   |.loop b=>match s with
    |⟨_,f,rs,k,T,L,fr⟩=>match k with
     |[]=>.ff
     |_::k=>match E.AN f (Kl k) T L with
      |none=>.ff
      |some (.cut _ _)=>.ff
      |some (.rnd r)=>wp E n ⟨.normal,f,rs,.rnd b r::k,T,L,fr⟩
      |some (.inv α I μ)=>match lvK k (ja rs) with
       |(_,ex)=>match lvC (.loop b) 0 ex (ja rs) with
        | lv=>fV     (gq    lv T) fun T0=>
          .and (.ex α fun x=>mVC T L (oo T0 (I x).1) (gY L (I x).2) fr)
           (.all α fun x=>wp E n ⟨.normal,f,rs,.code b::.stop (fun T' L'=>.ex α fun x'=>.and (.prop (μ x'<μ x)) (mVC T' L' (oo T0 (I x').1) (gY L (I x').2) fr)) lv::k,oo T0 (I x).1,gY L (I x).2,fr⟩)
end Go.EA
end
section
namespace Go.EA
structure LD where
 T:Tm
 ps:List Nat
 as:AC
 bd:AC
structure Cn where
 π:Nat->Nat
 nz:Nat->Bool
 Z:Nat->LD
 ν:Nat->Nat->Option Nat
def bS:SO->Option qw
 |.row t l=>some ⟨t,l⟩
 |.rowh t l _ _=>some ⟨.row t,l⟩
 |.nilr n=>some ⟨.row .bool,List.replicate n []⟩
 |.nest t u l _=>some ⟨.pair (.row t) u,l⟩
 |.nrow u us=>some ⟨u,us⟩
 |.raw _=>some ⟨.row .bool,[[]]⟩
 |_=>none
theorem asR {o:SO}{t:Ty}{l:List t.den}(h:o=.row t l):bS o=some ⟨t,l⟩:=by rw[h];rfl
def Ty.lf:(t:Ty)->t.den->Lf
 |.int k,z=>.int k z
 |.bool,b=>.bool b
 |.str,s=>.str s
 |_,_=>.nili
def InS (k:Option Nat) (n:Nat) (x:Lf):Prop:=match k with
 |none=>n=0/\(x=.nils\/x=.slz)
 |some k=>x=.sl k 0 n
section
variable (c:Cn) (L:List SO)
def RIs (b i:Nat) (x:Lf):Prop:=∃t u l,aa L b=.nest t u l none/\∃e,l[i]?=some e/\InS (c.ν b i) e.1.length x
def RIp (b i k:Nat):Prop:=∃t u l,aa L b=.nest t u l none/\i<l.length/\c.ν b i=some k
structure Kk where
 t:Ty
 u:Ty
 l:List (List t.den×u.den)
 h:Option Nat
def bts (s:List UInt8):List Int:=s.map fun b=>(b.toNat:Int)
def Iu:SO->Option Kk
 |.nest t u l h=>some ⟨t,u,l,h⟩
 |.bld s=>some ⟨.int .u8,.bool,[(bts s,false)],none⟩
 |_=>none
def Inn (b i k:Nat) (r:(t:Ty)×List t.den):Prop:=∃u l h,Iu (aa L b)=some ⟨r.1,u,l,h⟩/\h≠some i/\c.ν b i=some k/\∃y,l[i]?=some (r.2,y)
def RL':SL->Lf->Prop
 |.int k z,x=>x=.int k z
 |.lit k z,x=>x=.int k z
 |.bool b,x=>x=.bool b
 |.tt,x=>x=.bool true
 |.ff,x=>x=.bool false
 |.dec p d,x=>x=.bool (@decide p d)
 |.ndec p d,x=>x=.bool (!@decide p d)
 |.str s,x=>x=.str s
 |.row t l,x=>x=.vrow t.size (l.map t.enc)
 |.osl b,x=>b<L.length/\∀t l,bS (aa L b)=some ⟨t,l⟩->(c.nz b=false/\l=[]/\(x=.nils\/x=.slz))\/(c.nz b=true/\x=.sl (c.π b) 0 l.length)
 |.sl b i n,x=>b<L.length/\x=.sl (c.π b) i n
 |.ptr b i j,x=>b<L.length/\x=.ptr (c.π b) i j
 |.vptr t a off,x=>x=.vptr ((t.enc a).drop off)
 |.fn f cap,x=>(∀q∈cap,q.1<L.length)/\x=.fn f (cap.map fun q=>(c.π q.1,q.2))
 |.yld l,x=>l<L.length/\x=.yld (c.π l)
 |.mp m,x=>m<L.length/\x=.mp (c.π m)
 |.isl b i,x=>b<L.length/\RIs c L b i x
 |.iptr b i j off,x=>b<L.length/\∃k,RIp c L b i k/\x=.ptr k j off
 |.nilp,x=>x=.nilp
 |.nils,x=>x=.nils
 |.slz,x=>x=.slz
 |.nilf,x=>x=.nilf
 |.nilm,x=>x=.nilm
 |.nili,x=>x=.nili
 |.junk,_=>True
def RS1:S1->AV->Prop
 |.o x,v=>∃y,v=.one y/\RL' c L x y
 |.a cs,v=>∃ys,v=.agg ys/\ae (RL' c L) cs ys
def RVS:SV->AV->Prop
 |.one x,v=>∃y,v=.one y/\RL' c L x y
 |.agg cs,v=>∃ys,v=.agg ys/\ae (RL' c L) cs ys
 |.tup vs,v=>∃l,v=.tup l/\ae (RS1 c L) vs l
 |.junk,_=>True
 |.ite _ _ _ _,_=>False
def qY (t:Ty) (l:List (List t.den)) (i:Nat) (s:SL) (els:List (List Lf)):Prop:=
 i<l.length/\∃x,RL' c L s x/\aD (els.set i [.nils])=true/\els.take l.length=(l.map (Ty.row t).enc).set i [x]
theorem nv {L:List SO}{b:Nat}{t u:Ty}{l:List (List t.den×u.den)}{h:Option Nat}(e:aa L b=.nest t u l h):Iu (aa L b)=some ⟨t,u,l,h⟩:=by rw[e];rfl
def Gx (k:Option Nat) (s:List UInt8) (x:Option (Nat×Nat)):Prop:=match k with
 |none=>s=[]/\x=none
 |some k=>s≠[]/\x=some (k,s.length)
def ROS:SO->Nat->AO->Prop
 |.row t l,b,y=>(c.nz b=false/\l=[])\/(c.nz b=true/\∃els,y=.blk t.size els true/\aD els=true/\els.take l.length=l.map t.enc)
 |.cell cs,_,y=>∃ls,y=.blk cs.length [ls] true/\ae (RL' c L) cs ls
 |.dead,_,_=>True
 |.siter s p,_,y=>y=.siter s p
 |.bld s,b,y=>∃u x,y=.bld u x/\Gx (c.ν b 0) s x
 |.map0,_,y=>y=.map []
 |.mapo k v es,_,y=>k.isOne=true/\v.isOne=true/\y=.map (es.map fun p=>(k.lf p.1,v.lf p.2))
 |.loop st pd,b,y=>y=.loop st pd (c.Z b).T (c.Z b).ps (c.Z b).as (c.Z b).bd
 |.rowh t l i s,b,y=>(c.nz b=false/\l=[])\/(c.nz b=true/\∃els,y=.blk 1 els true/\qY c L t l i s els)
 |.nilr n,b,y=>c.nz b=true/\y=.blk 1 (List.replicate n [.nils]) true
 |.nest t u l h,b,y=>(c.nz b=false/\l=[])\/(c.nz b=true/\∃els,y=.blk (1+u.size) els true/\els.length=l.length/\∀i e,l[i]?=some e->∃x,els[i]?=some (x::u.enc e.2)/\(h≠some i->InS (c.ν b i) e.1.length x))
 |.nrow u us,b,y=>c.nz b=true/\y=.blk (1+u.size) (us.map fun x=>.nils::u.enc x) true
 |.raw cs,b,y=>c.nz b=true/\cs.all lu=true/\∃ls,y=.blk cs.length [ls] true/\ae (RL' c L) cs ls
def az:SO->Nat->Prop
 |.row _ _,b | .rowh _ _ _ _,b | .nest _ _ _ _,b=>c.nz b=true
 |.dead,_=>False
 |_,_=>True
structure RN (H:Heap):Prop where
 ob:∀b i k r,b<L.length->Inn c L b i k r->k<H.n/\∃els,H.o k=.blk r.1.size els true/\aD els=true/\els.take r.2.length=r.2.map r.1.enc
 pi:∀b i k r,b<L.length->Inn c L b i k r->∀b',b'<L.length->az c (aa L b') b'->c.π b'≠k
 inj:∀b i k r b' i' r',b<L.length->b'<L.length->Inn c L b i k r->Inn c L b' i' k r'->b=b'/\i=i'
structure RH (H:Heap):Prop where
 lt:∀b,b<L.length->az c (aa L b) b->c.π b<H.n
 inj:∀b b',b<L.length->b'<L.length->az c (aa L b) b->az c (aa L b') b'->c.π b=c.π b'->b=b'
 ob:∀b,b<L.length->ROS c L (aa L b) b (H.o (c.π b))
 hd:H.Hd
 ns:RN c L H
def RT (T:ST) (Tm:Tm):Prop:=∀k,RVS c L (T.getD k .junk) (Tm k)
end
section
variable {c:Cn} {L:List SO} {H:Heap} {T:ST} {Tm:Tm}
theorem RL'.int {x:SL}{y:Lf}{k:IntKind}{z:Int}(h:x.i?=some (k,z)) (r:RL' c L x y):y=.int k z:=by
 cases x <;> simp only[SL.i?,zE,zF,reduceCtorEq] at h
 all_goals obtain⟨rfl,rfl⟩:=h;exact r
theorem RL'.bool {x:SL}{y:Lf}{b:Bool}(h:x.b?=some b) (r:RL' c L x y):y=.bool b:=by
 cases x <;> simp only[SL.b?,zE,reduceCtorEq] at h
 all_goals subst h;exact r
theorem oP (x:Lf):RL' c L (dm x) x:=by
 unfold dm;split <;> first | trivial | rfl | skip
 exact⟨by simp,rfl⟩
theorem mi (l:List Lf):ae (RL' c L) (l.map dm) l:=⟨by simp,fun i x y hx hy=>by
 rw[List.getElem?_map,hy] at hx;cases hx;exact oP y⟩
theorem Cb (v:AV):RVS c L (JR v) v:=by
 unfold JR;split
 .exact⟨_,rfl,oP _⟩
 .exact⟨_,rfl,mi _⟩
 .exact⟨_,rfl,ae.nil⟩
 .trivial
theorem RT.opd (h:RT c L T Tm) (x:Opd):RVS c L (opd T x) (x.ev Tm):=by
 cases x with
 |t n=>exact h n
 |c v=>exact Cb v
theorem RVS.one {x:SL}{v:AV}(h:RVS c L (.one x) v):∃y,v=.one y/\RL' c L x y:=h
theorem RVS.agg {x:List SL}{v:AV}(h:RVS c L (.agg x) v):∃y,v=.agg y/\ae (RL' c L) x y:=h
theorem RVS.lit {k:IntKind}{z:Int}{v:AV}(h:RVS c L (.one (.lit k z)) v):v=.one (.int k z):=by obtain⟨y,rfl,h⟩:=h;cases h;rfl
theorem RVS.int {k:IntKind}{z:Int}{v:AV}(h:RVS c L (.one (.int k z)) v):v=.one (.int k z):=by obtain⟨y,rfl,h⟩:=h;cases h;rfl
theorem RVS.str {s:List UInt8}{v:AV}(h:RVS c L (.one (.str s)) v):v=.one (.str s):=by obtain⟨y,rfl,h⟩:=h;cases h;rfl
theorem RVS.cells {x:SV}{v:AV}{p:List SL}(h:RVS c L x v) (hp:x.cells?=some p):∃q,v.cells?=some q/\ae (RL' c L) p q:=by
 cases x <;> simp only[SV.cells?,zE,reduceCtorEq] at hp
 .subst hp;obtain⟨y,rfl,h⟩:=h;exact⟨[y],rfl,ae.cons h ae.nil⟩
 .subst hp;obtain⟨y,rfl,h⟩:=h;exact⟨y,rfl,h⟩
theorem dG {x:SV}{v:AV}{z:Int}(h:uW x=some z) (r:RVS c L x v):∃k,v=.one (.int k z):=by
 unfold uW at h;split at h <;> cases h
 .exact⟨_,r.int⟩
 .exact⟨_,r.lit⟩
theorem pJ {x:SV}{v:AV}{n:Nat}(h:Fj x=some n) (r:RVS c L x v):iF v=some n:=by
 unfold Fj at h;split at h <;> cases h
 rw[r.lit];simp[iF]
theorem fQ {k:IntKind}{z:Int}(h:0<=z):iF (.one (.int k z))=some z.toNat:=by simp[iF,h]
theorem Ty.cells_rel:∀(t:Ty) (x:t.den),ae (RL' c L) (t.cells x) (t.enc x)
 |.int k,x=>ae.cons rfl ae.nil
 |.bool,x=>ae.cons rfl ae.nil
 |.str,x=>ae.cons rfl ae.nil
 |.pair a b,x=>(Ty.cells_rel a x.1).append (Ty.cells_rel b x.2)
 |.row t,x=>ae.cons rfl ae.nil
theorem Ty.enc_len:∀(t:Ty) (x:t.den),(t.enc x).length=t.size
 |.int k,x=>rfl
 |.bool,x=>rfl
 |.str,x=>rfl
 |.pair a b,x=>by simp[Ty.enc,Ty.size,Ty.enc_len a x.1,Ty.enc_len b x.2]
 |.row t,x=>rfl
mutual
theorem Lf.closed_row:∀(t:Ty) (x:t.den),(t.enc x).all Lf.closed=true
 |.int k,x=>rfl
 |.bool,x=>rfl
 |.str,x=>rfl
 |.pair a b,x=>by simp only[Ty.enc,List.all_append,Lf.closed_row a x.1,Lf.closed_row b x.2,Bool.and_self]
 |.row t,x=>rfl
end
theorem AA {a b:Ty}(h:a=b) (l:List a.den):(dn h l).length=l.length:=by subst h;rfl
theorem Ty.parse_rel:∀(t:Ty) {cs r:List SL}{ys:List Lf}{x:t.den},t.parse cs=some (x,r)->ae (RL' c L) cs ys->∃zs,ys=t.enc x++zs/\ae (RL' c L) r zs
 | .int k,cs,r,ys,x,h,hr=>by
   cases cs with
   |nil=>simp[Ty.parse] at h
   | cons e cs=>
     simp only[Ty.parse] at h;split at h
     .rename_i k' z hi;split at h
      .rename_i hk;obtain⟨y,ys,rfl,h1,h2⟩:=hr.cons_inv;simp only[zE,zF] at h;obtain⟨rfl,rfl⟩:=h;have hk:=of_decide_eq_true hk;subst hk;rw[h1.int hi];exact⟨ys,rfl,h2⟩
      .cases h
     .cases h
 | .bool,cs,r,ys,x,h,hr=>by
   cases cs with
   |nil=>simp[Ty.parse] at h
   | cons e cs=>
     simp only[Ty.parse] at h;split at h
     .rename_i b hi;obtain⟨y,ys,rfl,h1,h2⟩:=hr.cons_inv;simp only[zE,zF] at h;obtain⟨rfl,rfl⟩:=h;rw[h1.bool hi];exact⟨ys,rfl,h2⟩
     .cases h
 | .str,cs,r,ys,x,h,hr=>by
   cases cs with
   |nil=>simp[Ty.parse] at h
   | cons e cs=>
     cases e <;> simp only[Ty.parse,reduceCtorEq] at h
     obtain⟨y,ys,rfl,h1,h2⟩:=hr.cons_inv;simp only[zE,zF] at h;obtain⟨rfl,rfl⟩:=h;cases h1;exact⟨ys,rfl,h2⟩
 | .pair a b,cs,r,ys,x,h,hr=>by
   simp only[Ty.parse] at h;split at h
   .rename_i x1 r1 h1;split at h
    .rename_i x2 r2 h2;simp only[zE,zF] at h;obtain⟨rfl,rfl⟩:=h;obtain⟨zs,rfl,k1⟩:=Ty.parse_rel a h1 hr;obtain⟨zs2,rfl,k2⟩:=Ty.parse_rel b h2 k1;exact⟨zs2,by simp[Ty.enc],k2⟩
    .cases h
   .cases h
 | .row t,cs,r,ys,x,h,hr=>by
   cases cs with
   |nil=>simp[Ty.parse] at h
   | cons e cs=>
     cases e <;> simp only[Ty.parse,reduceCtorEq] at h
     split at h
     .rename_i hh _;obtain⟨y,ys,rfl,h1,h2⟩:=hr.cons_inv;simp only[zE,zF] at h;obtain⟨rfl,rfl⟩:=h;obtain⟨hd⟩:=hh;subst hd;cases h1;exact⟨ys,rfl,h2⟩
     .cases h
end
end Go.EA
end
section
namespace Go.EA
section
variable {c:Cn} {L L':List SO} {H:Heap} {T:ST} {Tm:Tm} {v x y:SV} {a b:AV} {inv:Option Nat} {cs:List Prop}
def VOk (c:Cn) (L:List SO) (v:SV) (L':List SO) (inv:Option Nat) (w:Option AV):Prop:=L'=L/\inv=none/\∃u,w=some u/\RVS c L v u
theorem bB {x:SL}{w:Option AV}{cs':List Prop}(h:ro1 L x cs'=.ok v L' inv cs) (k:aK cs'->∃y,w=some (.one y)/\RL' c L x y) (hc:aK cs):VOk c L v L' inv w:=by
 simp only[ro1,OpR.ok.injEq] at h;obtain⟨rfl,rfl,rfl,rfl⟩:=h;obtain⟨y,h1,h2⟩:=k hc;exact⟨rfl,rfl,_,h1,y,rfl,h2⟩
theorem iY {z:SV}{w:Option AV}{cs':List Prop}(h:rok L z cs'=.ok v L' inv cs) (k:aK cs'->∃u,w=some u/\RVS c L z u) (hc:aK cs):VOk c L v L' inv w:=by
 simp only[rok,OpR.ok.injEq] at h;obtain⟨rfl,rfl,rfl,rfl⟩:=h;exact⟨rfl,rfl,k hc⟩
theorem Ih {op:BinOp}{k k':IntKind}{m n:Int}{s:SL}{ps:List Prop}(h:JD op k m k' n=some (s,ps)) (hc:aK ps):∃y,di op (.one (.int k m)) (.one (.int k' n))=some (.one y)/\RL' c L s y:=by
 have dflt:(match BV op k m k' n with | some (.one (.int kk z),c)=>some (SL.int kk z,c) | _=>none)=some (s,ps)->∃y,di op (.one (.int k m)) (.one (.int k' n))=some (.one y)/\RL' c L s y:=fun h=>by
  split at h
  .rename_i kk z cc hb;cases h;exact⟨_,Ia hb hc,rfl⟩
  .cases h
 unfold JD at h;cases op <;> simp only at h <;> first
  |exact dflt h
  |skip
 all_goals
  split at h
  .rename_i hk;have hk:=of_decide_eq_true hk;cases h;subst hk;refine⟨_,by simp only[di,jK,if_true];rfl,?_⟩
   first
    |rfl
    |(show _=Lf.bool (!decide _);simp)
  .cases h
theorem uL (b:Bool):RL' c L (Ba b) (.bool b):=by cases b <;> rfl
theorem GI {op:BinOp}{k k':IntKind}{m n:Int}{s:SL}(h:JY op k m k' n=some s):∃y,di op (.one (.int k m)) (.one (.int k' n))=some (.one y)/\RL' c L s y:=by
 unfold JY at h;split at h
 .rename_i hb;cases h;exact⟨_,hb,rfl⟩
 .rename_i hb;cases h;exact⟨_,hb,uL _⟩
 .cases h
theorem Aq {op:BinOp}{m n:List UInt8}{s:SL}{ps:List Prop}(h:xS op m n=some (s,ps)) (hc:aK ps):∃y,di op (.one (.str m)) (.one (.str n))=some (.one y)/\RL' c L s y:=by
 unfold xS at h;cases op <;> simp only at h <;> cases h
 .exact⟨_,by simp only[di,rA,if_pos hc.1],rfl⟩
 all_goals
  refine⟨_,by simp only[di,rA];rfl,?_⟩
  first
   |rfl
   |(show _=Lf.bool (!decide _);simp)
theorem Ht {op:BinOp}(h:Ep L op x y=.ok v L' inv cs) (hc:aK cs) (hx:RVS c L x a) (hy:RVS c L y b):VOk c L v L' inv (di op a b):=by
 unfold Ep at h;split at h
 .split at h
  .rename_i hb;rw[hx.lit,hy.lit];exact bB h (fun _=>GI hb) hc
  .cases h
 .split at h
  .rename_i hb;rw[hx.str,hy.str];exact bB h (fun hc=>Aq hb hc) hc
  .cases h
 .split at h
  .rename_i h1 h2;split at h
   .rename_i hb;obtain⟨p,rfl,hp⟩:=hx;obtain⟨q,rfl,hq⟩:=hy;rw[hp.int h1,hq.int h2];exact bB h (fun hc=>Ih hb hc) hc
   .cases h
  .cases h
 .cases h
theorem ek:∀{ks:List PK}{p:List SL}{q:List Lf},aT ks p=true->ae (RL' c L) p q->bu ks q=true
 |[],[],q,_,hr=>by rw[hr.nil_inv];rfl
 | .int k::ks,e::p,q,h,hr=>by
   obtain⟨y,q,rfl,h1,h2⟩:=hr.cons_inv;simp only[aT] at h;split at h
   .rename_i k' z hi;simp only[zH,decide_eq_true_eq] at h;rw[h1.int hi];simp only[bu,ek h.2 h2,Bool.and_true,h.1,BEq.rfl]
   .cases h
 | .bool::ks,e::p,q,h,hr=>by
   obtain⟨y,q,rfl,h1,h2⟩:=hr.cons_inv;simp only[aT] at h;split at h
   .rename_i b hi;rw[h1.bool hi];simp only[bu,ek h h2]
   .cases h
 | .str::ks,e::p,q,h,hr=>by
   obtain⟨y,q,rfl,h1,h2⟩:=hr.cons_inv;cases e <;> simp only[aT,Bool.false_eq_true] at h
   cases h1;simp only[bu,ek h h2]
 |[],_::_,q,h,hr=>by simp[aT] at h
 |.int _::_,[],q,h,hr=>by simp[aT] at h
 |.bool::_,[],q,h,hr=>by simp[aT] at h
 |.str::_,[],q,h,hr=>by simp[aT] at h
theorem jC:∀{ks:List PK}{p p':List SL}{q q':List Lf},aT ks p=true->aT ks p'=true->ae (RL' c L) p q->ae (RL' c L) p' q'->gz p p'=gu q q'
 |[],[],[],q,q',_,_,hr,hr'=>by rw[hr.nil_inv,hr'.nil_inv];rfl
 | .int k::ks,e::p,e'::p',q,q',h,h',hr,hr'=>by
   obtain⟨y,q,rfl,h1,h2⟩:=hr.cons_inv;obtain⟨y',q',rfl,h1',h2'⟩:=hr'.cons_inv;simp only[aT] at h h';split at h
   .rename_i k1 z hi;split at h'
    .rename_i k2 z' hi';simp only[zH,decide_eq_true_eq] at h h';rw[h1.int hi,h1'.int hi'];simp only[gz,hi,hi',gu,Lf.same,jC h.2 h'.2 h2 h2',<- h.1,<- h'.1,decide_true,Bool.true_and]
    .cases h'
   .cases h
 | .bool::ks,e::p,e'::p',q,q',h,h',hr,hr'=>by
   obtain⟨y,q,rfl,h1,h2⟩:=hr.cons_inv;obtain⟨y',q',rfl,h1',h2'⟩:=hr'.cons_inv;simp only[aT] at h h';split at h
   .rename_i b hi;split at h'
    .rename_i b' hi';rw[h1.bool hi,h1'.bool hi'];have n1:e.i?=none:=by cases e <;> simp_all [SL.b?,SL.i?]
     have n2:e'.i?=none:=by cases e' <;> simp_all [SL.b?,SL.i?]
     simp only[gz,n1,n2,hi,hi',gu,Lf.same,jC h h' h2 h2']
    .cases h'
   .cases h
 | .str::ks,e::p,e'::p',q,q',h,h',hr,hr'=>by
   obtain⟨y,q,rfl,h1,h2⟩:=hr.cons_inv;obtain⟨y',q',rfl,h1',h2'⟩:=hr'.cons_inv;cases e <;> simp only[aT,Bool.false_eq_true] at h
   cases e' <;> simp only[aT,Bool.false_eq_true] at h'
   cases h1;cases h1';simp only[gz,SL.i?,SL.b?,gu,Lf.same,jC h h' h2 h2']
 |[],_::_,_,q,q',h,_,hr,hr'=>by simp[aT] at h
 |[],[],_::_,q,q',_,h,hr,hr'=>by simp[aT] at h
 |.int _::_,[],_,q,q',h,_,hr,hr'=>by simp[aT] at h
 |.bool::_,[],_,q,q',h,_,hr,hr'=>by simp[aT] at h
 |.str::_,[],_,q,q',h,_,hr,hr'=>by simp[aT] at h
 |.int _::_,_::_,[],q,q',_,h,hr,hr'=>by simp[aT] at h
 |.bool::_,_::_,[],q,q',_,h,hr,hr'=>by simp[aT] at h
 |.str::_,_::_,[],q,q',_,h,hr,hr'=>by simp[aT] at h
theorem Ak (neg t:Bool):RL' c L (neB neg t) (.bool (if neg then !t else t)):=by cases neg <;> rfl
theorem gD (neg t:Bool):RL' c L (neL neg t) (.bool (if neg then !t else t)):=by cases neg <;> cases t <;> rfl
theorem JQ {k:EqK}{neg:Bool}(h:sEq L k neg x y=.ok v L' inv cs) (hc:aK cs) (hx:RVS c L x a) (hy:RVS c L y b):VOk c L v L' inv (Eb k neg a b):=by
 unfold sEq at h;split at h
 .rename_i p q;split at h
  .rename_i ks;split at h
   .rename_i h1 h2;obtain⟨p',rfl,hp⟩:=hx;obtain⟨q',rfl,hq⟩:=hy;refine bB h (fun _=>⟨_,?_,Ak _ _⟩) hc;simp only[Eb,ek h1 hp,ek h2 hq,Bool.and_self,if_true,jC h1 h2 hp hq]
   .cases h
  .cases h
 .rename_i p q;obtain⟨p',rfl,hp⟩:=hx;obtain⟨q',rfl,hq⟩:=hy;split at h
  .split at h
   .rename_i h1 h2;rw[hp.bool h1,hq.bool h2];exact bB h (fun _=>⟨_,rfl,Ak _ _⟩) hc
   .cases h
  .split at h <;> first
    |(cases h;done)
    |(first
     |(cases hp;cases hq;exact bB h (fun _=>⟨_,rfl,gD _ _⟩) hc)
     |(obtain⟨_,rfl⟩:=hp;cases hq;exact bB h (fun _=>⟨_,rfl,gD _ _⟩) hc)
     |(obtain⟨_,rfl⟩:=hq;cases hp;exact bB h (fun _=>⟨_,rfl,gD _ _⟩) hc))
  .split at h <;> first
    |(cases h;done)
    |(first
     |(cases hp;cases hq;exact bB h (fun _=>⟨_,rfl,gD _ _⟩) hc)
     |(obtain⟨_,rfl⟩:=hp;cases hq;exact bB h (fun _=>⟨_,rfl,gD _ _⟩) hc)
     |(obtain⟨_,rfl⟩:=hq;cases hp;exact bB h (fun _=>⟨_,rfl,gD _ _⟩) hc))
  .split at h
   .cases hp;cases hq;exact bB h (fun _=>⟨_,rfl,gD _ _⟩) hc
   .rename_i t l;cases hp;cases hq;refine bB h (fun hl=>?_) hc;cases l with
    |nil=>exact absurd rfl hl.1
    |cons e l=>exact⟨_,rfl,gD _ _⟩
   .cases h
  .cases h
 .cases h
theorem JH {op:UnOp}(h:sUn L op x=.ok v L' inv cs) (hc:aK cs) (hx:RVS c L x a):VOk c L v L' inv (Bw op a):=by
 unfold sUn at h;split at h
 .rw[hx.lit];split at h
  .rename_i hb;exact bB h (fun _=>⟨_,hb,rfl⟩) hc
  .cases h
 .rw[hx.int];split at h
  .split at h
   .refine bB h (fun hl=>⟨_,rfl,?_⟩) hc;rw[show ∀n:Int,0-n = -n from fun n=>by omega,wrap64 hl.1];rfl
   .exact bB h (fun _=>⟨_,rfl,rfl⟩) hc
  .split at h
   .rename_i hb;exact bB h (fun _=>⟨_,hb,rfl⟩) hc
   .cases h
 all_goals first
  | (split at h
     .obtain⟨z,rfl,hz⟩:=hx;cases hz;exact bB h (fun _=>⟨_,rfl,by first | rfl | (show Lf.bool _=Lf.bool _;simp)⟩) hc
     .cases h)
  |(cases h;done)
theorem Cr {k:IntKind}{o:Opd}(h:tO L k x=.ok v L' inv cs) (hc:aK cs) (hx:RVS c L x (o.ev Tm)):VOk c L v L' inv ((ah Tm H (.wrapI k o)).map (·.1)):=by
 unfold tO at h;split at h
 .exact bB h (fun _=>⟨_,by simp only[ah,hx.lit];rfl,rfl⟩) hc
 .split at h
  .exact bB h (fun hl=>⟨_,by simp only[ah,hx.int];rfl,by rw[wrap64 hl.1];rfl⟩) hc
  .exact bB h (fun _=>⟨_,by simp only[ah,hx.int];rfl,rfl⟩) hc
 .cases h
end
end Go.EA
end
section
namespace Go.EA
section
variable {c:Cn} {L L':List SO} {H:Heap} {T:ST} {Tm:Tm} {v x y:SV} {a b:AV} {inv:Option Nat} {cs:List Prop}
theorem aI {b:Nat}(h:aa L b≠.dead):b<L.length:=by
 apply Decidable.byContradiction
 intro hn
 apply h
 unfold aa;rw[zA,List.getElem?_eq_none (by omega)];rfl
theorem RH.rowAt (hH:RH c L H) {b:Nat}{t:Ty}{l:List t.den}(hb:aa L b=.row t l) :
 (c.nz b=false/\l=[])\/(c.nz b=true/\c.π b<H.n/\∃els,H.o (c.π b)=.blk t.size els true/\aD els=true/\els.take l.length=l.map t.enc/\l.length<=els.length):=by
 have hlt:b<L.length:=aI (by rw[hb];simp);have:=hH.ob b hlt;rw[hb] at this;rcases this with h | ⟨h1,els,h2,h3,h4⟩
 .exact .inl h
 .refine .inr ⟨h1,hH.lt b hlt (by rw[hb];exact h1),els,h2,h3,h4,?_⟩;have:=congrArg List.length h4;simp at this;omega
theorem kZ {α:Type}{els:List α}{l:List α}{n:Nat}(h:els.take n=l) {i:Nat}(hi:i<l.length):els[i]?=l[i]?:=by
 subst h;rw[List.getElem?_take];rw[if_pos (by simp at hi;omega)]
theorem getD_map {t:Ty}{l:List t.den}{i:Nat}(hi:i<l.length):(l.map t.enc)[i]?=some (t.enc (l.getD i t.dflt)):=by
 rw[List.getElem?_map,zA,zB hi];rfl
theorem RH.elemAt (hH:RH c L H) {b:Nat}{t:Ty}{l:List t.den}(hb:aa L b=.row t l) {i:Nat}(hi:i<l.length) :
 ∃els,H.o (c.π b)=.blk t.size els true/\aD els=true/\els.take l.length=l.map t.enc/\l.length<=els.length/\els[i]?=some (t.enc (l.getD i t.dflt)):=by
 rcases hH.rowAt hb with ⟨_,rfl⟩ | ⟨_,_,els,h1,h2,h3,h4⟩
 .simp at hi
 .exact⟨els,h1,h2,h3,h4,by rw[kZ h3 (by simpa using hi),getD_map hi]⟩
theorem RH.rowhAt (hH:RH c L H) {b i:Nat}{t:Ty}{l:List (List t.den)}{s:SL}(hb:aa L b=.rowh t l i s) :
 (c.nz b=false/\l=[])\/(c.nz b=true/\c.π b<H.n/\∃els,H.o (c.π b)=.blk 1 els true/\qY c L t l i s els):=by
 have hlt:b<L.length:=aI (by rw[hb];simp);have:=hH.ob b hlt;rw[hb] at this;rcases this with h | ⟨h1,els,h2,h3⟩
 .exact .inl h
 .exact .inr ⟨h1,hH.lt b hlt (by rw[hb];exact h1),els,h2,h3⟩
theorem qY.len {t:Ty}{l:List (List t.den)}{i:Nat}{s:SL}{els:List (List Lf)}(h:qY c L t l i s els):l.length<=els.length:=by
 obtain⟨_,_,_,_,h4⟩:=h;have:=congrArg List.length h4;simp at this;omega
theorem qY.at {t:Ty}{l:List (List t.den)}{i:Nat}{s:SL}{els:List (List Lf)}(h:qY c L t l i s els) {j:Nat}(hj:j<l.length) :
 ∃x,els[j]?=some [x]/\(j=i->RL' c L s x)/\(j≠i->RL' c L (.row t (l.getD j [])) x):=by
 obtain⟨h1,x,h2,h3,h4⟩:=h;have e:els[j]?=((l.map (Ty.row t).enc).set i [x])[j]?:=by rw[<- h4,List.getElem?_take,if_pos hj]
 by_cases hji:j=i
 .subst hji;exact⟨x,by rw[e,List.getElem?_set_self (by simpa using hj)],fun _=>h2,fun h=>absurd rfl h⟩
 .refine⟨.vrow t.size ((l.getD j []).map t.enc),?_,fun h=>absurd h hji,fun _=>rfl⟩;rw[e,List.getElem?_set_ne (Ne.symm hji),List.getElem?_map,zB hj,zA,zB hj];rfl
theorem RH.nestAt (hH:RH c L H) {b:Nat}{t u:Ty}{l:List (List t.den×u.den)}{h0:Option Nat}(hb:aa L b=.nest t u l h0) {i:Nat}(hi:i<l.length) :
 c.nz b=true/\∃els r y0 x0,H.o (c.π b)=.blk (1+u.size) els true/\els.length=l.length/\l[i]?=some (r,y0)/\els[i]?=some (x0::u.enc y0)/\l.getD i ([],u.dflt)=(r,y0)/\(h0≠some i->InS (c.ν b i) r.length x0):=by
 have hlt:b<L.length:=aI (by rw[hb];simp);have h0b:=hH.ob b hlt;rw[hb] at h0b;rcases h0b with ⟨_,h1⟩ | ⟨h1,els,h2,h3,h4⟩
 .rw[h1] at hi;simp at hi
 .obtain⟨x0,q1,q2⟩:=h4 i l[i] (zB hi);exact⟨h1,els,l[i].1,l[i].2,x0,h2,h3,zB hi,q1,by rw[zA,zB hi];rfl,q2⟩
theorem RH.ownRow (hH:RH c L H) {b i k:Nat}{t u:Ty}{l:List (List t.den×u.den)}(hb:aa L b=.nest t u l none) {r:List t.den}{y0:u.den}(hi:l[i]?=some (r,y0)) (hν:c.ν b i=some k) :
 ∃els,H.o k=.blk t.size els true/\aD els=true/\els.take r.length=r.map t.enc/\r.length<=els.length:=by
 obtain⟨_,els,h1,h2,h3⟩:=hH.ns.ob b i k ⟨t,r⟩ (aI (by rw[hb];simp)) ⟨u,l,none,nv hb,by simp,hν,y0,hi⟩;refine⟨els,h1,h2,h3,?_⟩;have:=congrArg List.length h3;simp at this;omega
theorem Bf {ag:Bool}{n:Nat}{o:Opd}{p:Prop}{d:Decidable p}{v1 v2:SV}(hH:RH c L H) (h:qL L ag n x=.twc cs p d v1 v2) (hc:aK cs) (hx:RVS c L x (o.ev Tm)) :
 (p->VOk c L v1 L none ((ah Tm H (.load ag n o)).map (·.1)))/\(¬ p->VOk c L v2 L none ((ah Tm H (.load ag n o)).map (·.1))):=by
 unfold qL at h;split at h
 .rename_i b i j;obtain⟨y,hy,hlt,rfl⟩:=hx;split at h
  .repeat' split at h
   all_goals first
    |(cases h;done)
    |(simp only[rok,reduceCtorEq] at h)
  .repeat' split at h
   all_goals first
    |(cases h;done)
    |(simp only[rok,reduceCtorEq] at h)
  .rename_i t l k s hb;split at h
   .simp only[OpR.twc.injEq] at h;obtain⟨rfl,rfl,_,rfl,rfl⟩:=h;have hi:i<l.length:=hc.1;rcases hH.rowhAt hb with ⟨_,h0⟩ | ⟨_,_,els,k1,k2⟩
    .rw[h0] at hi;simp at hi
    ·obtain⟨w,e1,e2,e3⟩:=k2.at hi;have ev:(ah Tm H (.load false 1 o)).map (·.1)=some (.one w):=by
      simp only[ah,hy,Heap.cells,k1,e1,Option.bind_some]
      rfl
     exact⟨fun hp=>⟨rfl,rfl,_,ev,_,rfl,e2 hp⟩,fun hp=>⟨rfl,rfl,_,ev,_,rfl,e3 hp⟩⟩
   .cases h
  all_goals
   repeat' split at h
   all_goals first
    |(cases h;done)
    |(simp only[rok,reduceCtorEq] at h)
 all_goals
  repeat' split at h
  all_goals first
   |(cases h;done)
   |(simp only[rok,reduceCtorEq] at h)
theorem ug (hH:RH c L H) {z:SL}{r:qw}{w:Lf}(h:rowOf L z=some (r,cs)) (hc:aK cs) (hz:RL' c L z w):H.row r.t.size w=some (r.l.map r.t.enc):=by
 unfold rowOf at h;split at h
 .cases h;cases hz;simp[Heap.row]
 .rename_i b;split at h
  .rename_i t l hb;cases h;obtain⟨_,hz⟩:=hz;rcases hz t l (asR hb) with ⟨_,rfl,rfl | rfl⟩ | ⟨h1,rfl⟩
   .rfl
   .rfl
   .rcases hH.rowAt hb with ⟨h2,_⟩ | ⟨_,_,els,k1,k2,k3,k4⟩
    .rw[h1] at h2;cases h2
    .simp only[Heap.row,k1,Nat.zero_add,k4,and_self,if_true,List.drop_zero,k3]
  .cases h
 .rename_i b i n;split at h
  .rename_i t l hb;cases h;obtain⟨h1,h2,_⟩:=hc;obtain⟨_,rfl⟩:=hz;rcases hH.rowAt hb with ⟨_,rfl⟩ | ⟨_,_,els,k1,k2,k3,k4⟩
   .simp at h1;omega
   .have hle:i+n<=els.length:=by omega
    simp only[Heap.row,k1,hle,and_self,if_true,zE];rw[List.map_take,List.map_drop,<- k3,List.drop_take,List.take_take]
    congr 1
    omega
  .cases h
 .rename_i b i;split at h
  .rename_i t u l h0 hb;cases h;obtain⟨_,t2,u2,l2,hb',e,hei,hin⟩:=hz;rw[hb] at hb';cases hb';obtain⟨r,y0⟩:=e;have hg:l.getD i ([],u.dflt)=(r,y0):=by rw[zA,hei];rfl
   rw[hg];show H.row t.size w=some (r.map t.enc);cases hq:c.ν b i with
   | none=>
     rw[hq] at hin;obtain⟨hr0,hzn⟩:=hin;have hr0:r=[]:=zT hr0;subst hr0;rcases hzn with rfl | rfl <;> rfl
   | some k=>
     rw[hq] at hin;have hin:w=.sl k 0 r.length:=hin;subst hin;obtain⟨els,k1,k2,k3,k4⟩:=hH.ownRow hb hei hq;simp only[Heap.row,k1,Nat.zero_add,k4,and_self,if_true,List.drop_zero,k3]
  .cases h
 .cases h
theorem uK (l:List (Ty.int .u8).den):iM (l.map (Ty.int .u8).enc)=some (l.map fun z:Int=>UInt8.ofNat z.toNat):=by
 induction l with
 |nil=>rfl
 | cons z l ih=>
   show (iM (l.map (Ty.int .u8).enc)).map _=_;rw[ih];rfl
theorem Fw {o:Opd}(hH:RH c L H) (h:CW L x=.ok v L' inv cs) (hc:aK cs) (hx:RVS c L x (o.ev Tm)):VOk c L v L' inv ((ah Tm H (.b2s o)).map (·.1)):=by
 unfold CW at h;split at h
 .obtain⟨y,hy,hz⟩:=hx;cases hz;exact bB h (fun _=>⟨_,by simp only[ah,hy];rfl,rfl⟩) hc
 .obtain⟨y,hy,hz⟩:=hx;cases hz;exact bB h (fun _=>⟨_,by simp only[ah,hy];rfl,rfl⟩) hc
 .rename_i z;split at h
  .rename_i r c' hr;split at h
   .rename_i s hs;obtain⟨y,hy,hz⟩:=hx;refine bB h (fun hc'=>?_) hc;have:=ug hH hr hc' hz;unfold bytesOf at hs;split at hs
    .rename_i l;cases hs;have h1:H.row 1 y=some (l.map (Ty.int .u8).enc):=this;exact⟨_,by simp only[ah,hy,h1,Option.bind_some];rw[uK l];rfl,rfl⟩
    .cases hs
   .cases h
  .cases h
 .cases h
theorem Gh (hH:RH c L H) {k:nJ}{o:Opd}(h:sLen L k x=.ok v L' inv cs) (hc:aK cs) (hx:RVS c L x (o.ev Tm)):VOk c L v L' inv ((ah Tm H (.len k o)).map (·.1)):=by
 unfold sLen at h;split at h
 .obtain⟨y,hy,hz⟩:=hx;split at h
  .cases hz;exact bB h (fun _=>⟨_,by simp only[ah,hy];rfl,rfl⟩) hc
  .cases hz;exact bB h (fun _=>⟨_,by simp only[ah,hy];rfl,by simp;rfl⟩) hc
  .rename_i b;split at h
   .rename_i t l hb;obtain⟨_,hz⟩:=hz;refine bB h (fun _=>?_) hc;rcases hz t l (asR hb) with ⟨_,rfl,rfl | rfl⟩ | ⟨_,rfl⟩
    .exact⟨_,by simp only[ah,hy];rfl,rfl⟩
    .exact⟨_,by simp only[ah,hy];rfl,rfl⟩
    .exact⟨_,by simp only[ah,hy];rfl,rfl⟩
   .rename_i t l i s hb;obtain⟨_,hz⟩:=hz;refine bB h (fun _=>?_) hc;rcases hz (.row t) l (by rw[hb];rfl) with ⟨_,rfl,rfl | rfl⟩ | ⟨_,rfl⟩
    .exact⟨_,by simp only[ah,hy];rfl,rfl⟩
    .exact⟨_,by simp only[ah,hy];rfl,rfl⟩
    .exact⟨_,by simp only[ah,hy];rfl,rfl⟩
   .rename_i n hb;obtain⟨_,hz⟩:=hz;refine bB h (fun _=>?_) hc;rcases hz (.row .bool) (List.replicate n []) (by rw[hb];rfl) with ⟨_,h0,h1⟩ | ⟨_,rfl⟩
    .have h0:=congrArg List.length h0;rw[List.length_replicate] at h0;obtain rfl:n=0:=h0;rcases h1 with rfl | rfl
     .exact⟨_,by simp only[ah,hy];rfl,rfl⟩
     .exact⟨_,by simp only[ah,hy];rfl,rfl⟩
    .exact⟨.int .i64 n,by simp only[ah,hy];simp,rfl⟩
   .rename_i t u l h0 hb;obtain⟨_,hz⟩:=hz;refine bB h (fun _=>?_) hc;rcases hz (.pair (.row t) u) l (by rw[hb];rfl) with ⟨_,rfl,rfl | rfl⟩ | ⟨_,rfl⟩
    .exact⟨_,by simp only[ah,hy];rfl,rfl⟩
    .exact⟨_,by simp only[ah,hy];rfl,rfl⟩
    .exact⟨_,by simp only[ah,hy];rfl,rfl⟩
   .cases h
  .rename_i b i;split at h
   .rename_i t u l h0 hb;obtain⟨_,t2,u2,l2,hb',e,hei,hin⟩:=hz;rw[hb] at hb';cases hb';have hg:l.getD i ([],u.dflt)=e:=by rw[zA,hei];rfl
    rw[hg] at h;refine bB h (fun _=>?_) hc;cases hq:c.ν b i with
    | none=>
      rw[hq] at hin;obtain⟨hr0,rfl | rfl⟩:=hin
      .exact⟨.int .i64 0,by simp only[ah,hy];rfl,by rw[hr0];rfl⟩
      .exact⟨.int .i64 0,by simp only[ah,hy];rfl,by rw[hr0];rfl⟩
    | some k=>
      rw[hq] at hin;have hin:_=Lf.sl k 0 e.1.length:=hin;subst hin;exact⟨_,by simp only[ah,hy];rfl,rfl⟩
   .cases h
  .obtain⟨_,rfl⟩:=hz;exact bB h (fun _=>⟨_,by simp only[ah,hy];rfl,rfl⟩) hc
  .cases hz;exact bB h (fun _=>⟨_,by simp only[ah,hy];rfl,rfl⟩) hc
  .cases hz;exact bB h (fun _=>⟨_,by simp only[ah,hy];rfl,rfl⟩) hc
  .cases hz;exact bB h (fun _=>⟨_,by simp only[ah,hy];rfl,rfl⟩) hc
  .obtain⟨_,rfl⟩:∃_u:Unit,_=Lf.slz:=⟨(),hz⟩;exact bB h (fun _=>⟨_,by simp only[ah,hy];rfl,rfl⟩) hc
  .rename_i m;obtain⟨hml,rfl⟩:=hz;have hob:=hH.ob m hml;split at h
   .rename_i ho;rw[ho] at hob;have hob:H.o (c.π m)=.map []:=hob;exact bB h (fun _=>⟨_,by simp only[ah,hy,hob];rfl,rfl⟩) hc
   .rename_i kt vt es ho;rw[ho] at hob;obtain⟨_,_,hob⟩:=hob;exact bB h (fun _=>⟨.int .i64 es.length,by simp only[ah,hy,hob,zR];rfl,rfl⟩) hc
   .cases h
  .cases h
 .cases h
theorem dR {ag:Bool}{p:List SL}{q:List Lf}(h:gM ag p=some v) (hr:ae (RL' c L) p q):∃u,iW ag q=some u/\RVS c L v u:=by
 unfold gM at h;cases ag with
 |true=>cases h;exact⟨_,rfl,_,rfl,hr⟩
 | false=>
   simp only at h;split at h
   .cases h;obtain⟨y,q,rfl,h1,h2⟩:=hr.cons_inv;have:=h2.nil_inv;subst this;exact⟨_,rfl,_,rfl,h1⟩
   .cases h
theorem gB {p p':List SL}{q:List Lf}{j n:Nat}(h:qm p j n=some p') (hr:ae (RL' c L) p q):j+n<=q.length/\ae (RL' c L) p' ((q.drop j).take n):=by
 unfold qm at h;split at h
 .rename_i hb;cases h;have:=zW hb;exact⟨by rw[<- hr.1];exact this,(hr.drop j).take n⟩
 .cases h
theorem BH {ag:Bool}{n:Nat}{o:Opd}(hH:RH c L H) (h:qL L ag n x=.ok v L' inv cs) (hc:aK cs) (hx:RVS c L x (o.ev Tm)):VOk c L v L' inv ((ah Tm H (.load ag n o)).map (·.1)):=by
 unfold qL at h;split at h
 .rename_i b i j;obtain⟨y,hy,hlt,rfl⟩:=hx;split at h
  .rename_i t l hb;split at h
   .rename_i p hp;split at h
    .rename_i w hw;refine iY h (fun hi=>?_) hc;obtain⟨els,k1,k2,k3,k4,k5⟩:=hH.elemAt hb hi.1;obtain⟨g1,g2⟩:=gB hp (Ty.cells_rel (c:=c) (L:=L) t (l.getD i t.dflt));obtain⟨u,u1,u2⟩:=dR hw g2;exact⟨u,by simp only[ah,hy,Heap.cells,k1,k5,g1,if_true,Option.bind_some,u1,Option.map_some],u2⟩
    .cases h
   .cases h
  .rename_i p0 hb;split at h
   .split at h
    .rename_i p hp;split at h
     .rename_i w hw;refine iY h (fun _=>?_) hc;have:=hH.ob b hlt;rw[hb] at this;obtain⟨ls,k1,k2⟩:=this;obtain⟨g1,g2⟩:=gB hp k2;obtain⟨u,u1,u2⟩:=dR hw g2;exact⟨u,by simp only[ah,hy,Heap.cells,k1,List.getElem?_cons_zero,g1,if_true,Option.bind_some,u1,Option.map_some],u2⟩
     .cases h
    .cases h
   .cases h
  .split at h <;> cases h
  .rename_i t u l hb;split at h
   .rename_i p hp;split at h
    .rename_i w hw;refine iY h (fun hi=>?_) hc;obtain⟨_,els,r,y0,x0,k1,k2,k3,k4,k5,k6⟩:=hH.nestAt hb hi.1;rw[k5] at hp;have hrel:ae (RL' c L) (.isl b i::u.cells y0) (x0::u.enc y0):=ae.cons ⟨hlt,t,u,l,hb,_,k3,k6 (by simp)⟩ (Ty.cells_rel u y0);obtain⟨g1,g2⟩:=gB hp hrel;obtain⟨u',u1,u2⟩:=dR hw g2;exact⟨u',by simp only[ah,hy,Heap.cells,k1,k4,g1,if_true,Option.bind_some,u1,Option.map_some],u2⟩
    .cases h
   .cases h
  .cases h
 .rename_i b i j off;split at h
  .rename_i t u l hb;split at h
   .rename_i p hp;split at h
    .rename_i w hw;obtain⟨y,hy,hlt,k,⟨t2,u2,l2,hb',hi2,hν⟩,rfl⟩:=hx;rw[hb] at hb';cases hb';refine iY h (fun hij=>?_) hc;obtain⟨hi,hj,_⟩:=hij;obtain⟨_,_,r,y0,x0,_,_,k3,_,k5,_⟩:=hH.nestAt hb hi;rw[k5] at hp hj;have hj:j<r.length:=hj;obtain⟨els,q1,q2,q3,q4⟩:=hH.ownRow hb k3 hν;have q5:els[j]?=some (t.enc (r.getD j t.dflt)):=by rw[kZ q3 (by simpa using hj),getD_map hj]
     obtain⟨g1,g2⟩:=gB hp (Ty.cells_rel (c:=c) (L:=L) t (r.getD j t.dflt));obtain⟨u',u1,u2⟩:=dR hw g2;exact⟨u',by simp only[ah,hy,Heap.cells,q1,q5,g1,if_true,Option.bind_some,u1,Option.map_some],u2⟩
    .cases h
   .cases h
  .cases h
 .rename_i t e off;obtain⟨y,hy,rfl⟩:=hx;split at h
  .rename_i p hp;split at h
   .rename_i w hw;refine iY h (fun _=>?_) hc;obtain⟨g1,g2⟩:=gB hp (Ty.cells_rel (c:=c) (L:=L) t e);obtain⟨u,u1,u2⟩:=dR hw g2;refine⟨u,?_,u2⟩;simp only[ah,hy,List.length_drop];rw[if_pos (by omega),u1];rfl
   .cases h
  .cases h
 .cases h
theorem AJ {o:Opd}(h:oV L x=.ok v L' inv cs) (hc:aK cs) (hx:RVS c L x (o.ev Tm)):VOk c L v L' inv ((ah Tm H (.nilck o)).map (·.1)):=by
 unfold oV at h;split at h <;> first
  |(cases h;done)
  |skip
 .obtain⟨y,hy,h1,rfl⟩:=hx;exact iY h (fun _=>⟨_,by simp only[ah,hy];rfl,_,rfl,h1,rfl⟩) hc
 .obtain⟨y,hy,rfl⟩:=hx;exact iY h (fun _=>⟨_,by simp only[ah,hy];rfl,_,rfl,rfl⟩) hc
 .obtain⟨y,hy,h1,rfl⟩:=hx;exact iY h (fun _=>⟨_,by simp only[ah,hy];rfl,_,rfl,h1,rfl⟩) hc
 .obtain⟨y,hy,h1,rfl⟩:=hx;exact iY h (fun _=>⟨_,by simp only[ah,hy];rfl,_,rfl,h1,rfl⟩) hc
 .obtain⟨y,hy,h1,k,h2,rfl⟩:=hx;exact iY h (fun _=>⟨_,by simp only[ah,hy];rfl,_,rfl,h1,k,h2,rfl⟩) hc
theorem AU {off:Nat}{o:Opd}(h:pq L off x=.ok v L' inv cs) (hc:aK cs) (hx:RVS c L x (o.ev Tm)):VOk c L v L' inv ((ah Tm H (.faddr off o)).map (·.1)):=by
 unfold pq at h;split at h
 .obtain⟨y,hy,h1,rfl⟩:=hx;exact bB h (fun _=>⟨_,by simp only[ah,hy];rfl,h1,rfl⟩) hc
 .obtain⟨y,hy,h1,k,h2,rfl⟩:=hx;exact bB h (fun _=>⟨_,by simp only[ah,hy];rfl,h1,k,h2,rfl⟩) hc
 .obtain⟨y,hy,rfl⟩:=hx;exact bB h (fun _=>⟨_,by simp only[ah,hy];rfl,by simp[RL',List.drop_drop]⟩) hc
 .cases h
theorem FM {ag:Bool}{off n:Nat}{o:Opd}(h:Dt L ag off n x=.ok v L' inv cs) (hc:aK cs) (hx:RVS c L x (o.ev Tm)):VOk c L v L' inv ((ah Tm H (.fld ag off n o)).map (·.1)):=by
 unfold Dt at h;split at h
 .split at h
  .rename_i p hp;split at h
   .rename_i w hw;obtain⟨y,hy,hz⟩:=hx;obtain⟨g1,g2⟩:=gB hp hz;obtain⟨u,u1,u2⟩:=dR hw g2;exact iY h (fun _=>⟨u,by simp only[ah,hy,g1,if_true,u1,Option.map_some],u2⟩) hc
   .cases h
  .cases h
 .cases h
theorem gW (hH:RH c L H) {b:Nat}{t:Ty}{l:List t.den}(hb:aa L b=.row t l) (hl:l≠[]):H.isBlk t.size (c.π b)=true:=by
 rcases hH.rowAt hb with ⟨_,h⟩ | ⟨_,_,els,k1,_⟩
 .exact absurd h hl
 .simp[Heap.isBlk,k1]
theorem Bp {s:Nat}{o p:Opd}(hH:RH c L H) (h:pG L s x y=.ok v L' inv cs) (hc:aK cs) (hx:RVS c L x (o.ev Tm)) (hy:RVS c L y (p.ev Tm)):VOk c L v L' inv ((ah Tm H (.iaddr s o p)).map (·.1)):=by
 unfold pG at h;split at h
 .rename_i t l k hk;obtain⟨kd,hk'⟩:=dG hk hy;split at h
  .rename_i hb;have hb:=zC hb;obtain⟨w,hw,rfl⟩:=hx;refine bB h (fun hi=>?_) hc;refine⟨.vptr (t.enc (l.getD k.toNat t.dflt)),?_,by simp[RL']⟩;have hk3:0<=k/\k<l.length:=hi.1;have:=getD_map (t:=t) (l:=l) (i:=k.toNat) (by omega);simp only[ah,hw,hk',fQ hi.1.1,hb,if_true,this,Option.map_some]
  .cases h
 .rename_i b k hk;obtain⟨kd,hk'⟩:=dG hk hy;split at h
  .rename_i t l hb;split at h
   .rename_i hs;have hs:=zC hs;obtain⟨w,hw,hlt,hz⟩:=hx;refine bB h (fun hi=>?_) hc;have hl:l≠[]:=by rintro rfl;simp at hi;have:=hi.1;omega
    rcases hz t l (asR hb) with ⟨_,h0,_⟩ | ⟨_,rfl⟩
    .exact absurd h0 hl
    .refine⟨_,?_,hlt,rfl⟩;simp only[ah,hw,hk',fQ hi.1.1];rw[if_pos ⟨by rw[<- hs];exact gW hH hb hl,by have:=hi.1;omega⟩];simp
   .cases h
  .rename_i t l i0 s0 hb;split at h
   .rename_i hs;have hs:=zC hs;obtain⟨w,hw,hlt,hz⟩:=hx;refine bB h (fun hi=>?_) hc;have hl:l≠[]:=by rintro rfl;simp at hi;have:=hi.1;omega
    rcases hz (.row t) l (by rw[hb];rfl) with ⟨_,h0,_⟩ | ⟨hnz,rfl⟩
    .exact absurd h0 hl
    .refine⟨_,?_,hlt,rfl⟩;have hbk:H.isBlk s (c.π b)=true:=by
      rcases hH.rowhAt hb with ⟨h0,_⟩ | ⟨_,_,els,k1,_⟩
      .rw[hnz] at h0;cases h0
      .simp[Heap.isBlk,k1,hs]
     simp only[ah,hw,hk',fQ hi.1.1];rw[if_pos ⟨hbk,by have:=hi.1;omega⟩];simp
   .cases h
  .rename_i t u l h0 hb;split at h
   .rename_i hs;have hs:=zC hs;obtain⟨w,hw,hlt,hz⟩:=hx;refine bB h (fun hi=>?_) hc;have hk0:=hi.1;obtain⟨hnz,els,r,y0,x0,k1,_⟩:=hH.nestAt hb (i:=k.toNat) (by omega);rcases hz (.pair (.row t) u) l (by rw[hb];rfl) with ⟨h0,_⟩ | ⟨_,rfl⟩
    .rw[hnz] at h0;cases h0
    .refine⟨_,?_,hlt,rfl⟩;simp only[ah,hw,hk',fQ hi.1.1];rw[if_pos ⟨by simp[Heap.isBlk,k1,hs],by omega⟩];simp
   .cases h
  .cases h
 .rename_i b i k hk;obtain⟨kd,hk'⟩:=dG hk hy;split at h
  .rename_i t u l h0 hb;split at h
   .rename_i hs;have hs:=zC hs;obtain⟨w,hw,hlt,t2,u2,l2,hb',e,hei,hin⟩:=hx;rw[hb] at hb';cases hb';have hg:l.getD i ([],u.dflt)=e:=by rw[zA,hei];rfl
    rw[hg] at h;refine bB h (fun hi=>?_) hc;have hk0:=hi.1;cases hq:c.ν b i with
    | none=>
      rw[hq] at hin;have:=hin.1;omega
    | some q=>
      rw[hq] at hin;have hin:w=.sl q 0 e.1.length:=hin;subst hin;obtain⟨els,k1,_⟩:=hH.ownRow hb hei hq;refine⟨_,?_,hlt,q,⟨t,u,l,hb,(zI.1 hei).1,hq⟩,rfl⟩;simp only[ah,hw,hk',fQ hi.1.1];rw[if_pos ⟨by simp[Heap.isBlk,k1,hs],by omega⟩];simp
   .cases h
  .cases h
 .rename_i b f n k hk;obtain⟨kd,hk'⟩:=dG hk hy;split at h
  .rename_i t l hb;split at h
   .rename_i hs;have hs:=zC hs;obtain⟨w,hw,hlt,rfl⟩:=hx;refine bB h (fun hi=>?_) hc;refine⟨_,?_,hlt,rfl⟩;simp only[ah,hw,hk',fQ hi.1.1];rw[if_pos ⟨by rw[<- hs];exact gW hH hb hi.1.2.2,by have:=hi.1;omega⟩]
    rfl
   .cases h
  .cases h
 .cases h
theorem AZ {len s:Nat}{o p:Opd}(h:pE L len s x y=.ok v L' inv cs) (hc:aK cs) (hx:RVS c L x (o.ev Tm)) (hy:RVS c L y (p.ev Tm)):VOk c L v L' inv ((ah Tm H (.aaddr len s o p)).map (·.1)):=by
 unfold pE at h;split at h
 .rename_i b e j k hk;have hk':=pJ hk hy;split at h
  .rename_i hb;have hb:k<len:=zW hb;obtain⟨w,hw,hlt,rfl⟩:=hx;exact bB h (fun _=>⟨_,by simp only[ah,hw,hk',hb,if_true];rfl,hlt,rfl⟩) hc
  .cases h
 .cases h
theorem Ev {o p:Opd}(h:vR L x y=.ok v L' inv cs) (hc:aK cs) (hx:RVS c L x (o.ev Tm)) (hy:RVS c L y (p.ev Tm)):VOk c L v L' inv ((ah Tm H (.sidx o p)).map (·.1)):=by
 unfold vR at h;split at h
 .rename_i s k hk;obtain⟨kd,hk'⟩:=dG hk hy;refine bB h (fun hi=>⟨_,?_,rfl⟩) hc;have hlt:k.toNat<s.length:=by have:=hi.1;omega
  simp only[ah,hx.str,hk',fQ hi.1.1,zB hlt,zA,Option.getD_some,Option.map_some]
 .cases h
theorem Ff {ag:Bool}{len s:Nat}{o p:Opd}(h:tQ L ag len s x y=.ok v L' inv cs) (hc:aK cs) (hx:RVS c L x (o.ev Tm)) (hy:RVS c L y (p.ev Tm)):VOk c L v L' inv ((ah Tm H (.aidx ag len s o p)).map (·.1)):=by
 unfold tQ at h;split at h
 .rename_i k hk;have hk':=pJ hk hy;split at h
  .rename_i q hb hq;have hb:k<len:=zW hb;split at h
   .rename_i w hw;obtain⟨z,hz,hr⟩:=hx;obtain⟨g1,g2⟩:=gB hq hr;obtain⟨u,u1,u2⟩:=dR hw g2;exact iY h (fun _=>⟨u,by simp only[ah,hz,hk',hb,g1,and_self,if_true,u1,Option.map_some],u2⟩) hc
   .cases h
  .cases h
 .cases h
end
end Go.EA
end
section
namespace Go.EA
section
variable {c:Cn} {L L':List SO} {H:Heap} {T:ST} {Tm:Tm} {v x y:SV} {a b:AV} {inv:Option Nat} {cs:List Prop}
theorem cB (hT:RT c L T Tm) {d:Nat}{o:Option Opd}{r:Option Int}(h:FY T o=some r) (h0:∀z,r=some z->0<=z):bound Tm d o=some (toN r d):=by
 cases o with
 |none=>cases h;rfl
 | some x=>
   simp only[FY] at h;split at h
   .rename_i z hz;cases h;obtain⟨k,hk⟩:=dG hz (hT.opd x);simp only[bound,hk,fQ (h0 z rfl),toN]
   .cases h
theorem nX {n:Nat}{lo hi:Option Int}(h:aK (vI n lo hi)):(∀z,lo=some z->0<=z)/\(∀z,hi=some z->0<=z)/\toN lo 0<=toN hi n/\toN hi n<=n:=by
 unfold vI at h;split at h
 .exact⟨by simp,by simp,by simp[toN],by simp[toN]⟩
 .have:=h.1;exact⟨by simp;omega,by simp,by simp only[toN];omega,by simp[toN]⟩
 .have:=h.1;exact⟨by simp,by simp;omega,by simp only[toN];omega,by simp only[toN];omega⟩
 .have:=h.1;exact⟨by simp;omega,by simp;omega,by simp only[toN];omega,by simp only[toN];omega⟩
theorem yY {α:Type}(l:List α) {lo hi:Option Int}(h:aK (vI l.length lo hi)):(l.drop (toN lo 0)).take (toN hi l.length-toN lo 0)=dZ l lo hi:=by
 unfold vI at h;unfold dZ;split at h
 .simp[toN]
 .simp only[toN];exact List.take_of_length_le (by simp)
 .simp[toN]
 .rfl
theorem Az {k:nJ}{s:Nat}{o:Opd}{lo hi mx:Option Opd}(hT:RT c L T Tm) (hH:RH c L H) (h:ku T L k s x lo hi mx=.ok v L' inv cs) (hc:aK cs) (hx:RVS c L x (o.ev Tm)):VOk c L v L' inv ((ah Tm H (.slice k s o lo hi mx)).map (·.1)):=by
 unfold ku at h;split at h
 .rename_i s' p q h1 h2;refine bB h (fun hcc=>⟨_,?_,rfl⟩) hc;obtain⟨n1,n2,n3,n4⟩:=nX hcc;simp only[ah,dh,hx.str,cB hT h1 n1,cB hT h2 n2,n3,n4,and_self,if_true,Option.map_some,yY s' hcc]
 .rename_i t l p q h1 h2;split at h
  .rename_i hb;have hb:=zC hb;obtain⟨w,hw,rfl⟩:=hx;refine bB h (fun hcc=>⟨_,?_,rfl⟩) hc;obtain⟨n1,n2,n3,n4⟩:=nX hcc;simp only[ah,dh,hw,hb,if_true,zR,cB hT h1 n1,cB hT h2 n2,n3,n4,and_self,Option.map_some];rw[<- yY l hcc,List.map_take,List.map_drop]
  .cases h
 .rename_i b p q h1 h2;split at h
  .rename_i t l hb;split at h
   .rename_i hs;have hs:=zC hs;obtain⟨w,hw,hlt,hz⟩:=hx;refine bB h (fun hcc=>?_) hc;obtain⟨h0,hcc⟩:=hcc;obtain⟨n1,n2,n3,n4⟩:=nX hcc;rcases hz t l (asR hb) with ⟨_,rfl,_⟩ | ⟨_,rfl⟩
    .simp at h0
    .refine⟨_,?_,hlt,rfl⟩;have hl:l≠[]:=by rintro rfl;simp at h0
     have hblk:=gW hH hb hl;rw[hs] at hblk;simp only[ah,dh,hw,hblk,if_true,cB hT h1 n1,cB hT h2 n2,n3,n4,and_self,Option.map_some,Nat.zero_add]
   .cases h
  .cases h
 .rename_i b i n p q h1 h2;split at h
  .rename_i t l hb;split at h
   .rename_i hs;have hs:=zC hs;obtain⟨w,hw,hlt,rfl⟩:=hx;refine bB h (fun hcc=>?_) hc;obtain⟨h0,hcc⟩:=hcc;obtain⟨n1,n2,n3,n4⟩:=nX hcc;refine⟨_,?_,hlt,rfl⟩;have hl:l≠[]:=by rintro rfl;simp at h0
    have hblk:=gW hH hb hl;rw[hs] at hblk;simp only[ah,dh,hw,hblk,if_true,cB hT h1 n1,cB hT h2 n2,n3,n4,and_self,Option.map_some]
   .cases h
  .cases h
 .split at h <;> cases h
 .cases h
theorem wE {k:nJ}{s:Nat}{o:Opd}{lo hi mx:Option Opd}{p:Prop}{d:Decidable p}{v1 v2:SV}(hT:RT c L T Tm) (h:ku T L k s x lo hi mx=.twc cs p d v1 v2) (hc:aK cs) (hx:RVS c L x (o.ev Tm)) :
 (p->VOk c L v1 L none ((ah Tm H (.slice k s o lo hi mx)).map (·.1)))/\(¬ p->VOk c L v2 L none ((ah Tm H (.slice k s o lo hi mx)).map (·.1))):=by
 unfold ku at h;split at h
 .simp only[ro1,reduceCtorEq] at h
 .split at h
  .simp only[ro1,reduceCtorEq] at h
  .cases h
 .split at h
  .split at h
   .simp only[ro1,reduceCtorEq] at h
   .cases h
  .cases h
 .split at h
  .split at h
   .simp only[ro1,reduceCtorEq] at h
   .cases h
  .cases h
 .rename_i t l q m h1 h2;split at h
  .rename_i z hb hz;have hb:=zC hb;simp only[OpR.twc.injEq] at h;obtain⟨rfl,rfl,_,rfl,rfl⟩:=h;obtain⟨c1,c2,c3,_⟩:=hc;obtain⟨w,hw,rfl⟩:=hx;obtain⟨kk,hm⟩:=dG hz (hT.opd m);have hm':iF (m.ev Tm)=some z.toNat:=by rw[hm];show (if 0<=z then some z.toNat else none)=_;rw[if_pos (by omega)]
   have e1:=cB hT h1 (d:=0) (fun z h=>by cases h);have e2:=cB hT h2 (d:=l.length) (fun z h=>by cases h;exact c1);simp only[ah,dh,hw,hb,if_true,zR,e1,e2,hm',toN,Nat.zero_le,true_and];rw[if_pos ⟨by omega,by omega⟩];refine⟨fun hp=>?_,fun hp=>?_⟩
   .rw[if_neg (by omega)];refine⟨rfl,rfl,_,rfl,_,rfl,?_⟩;show _=Lf.vrow t.size _;rw[hb];simp
   .rw[if_pos (by omega)];exact⟨rfl,rfl,_,rfl,_,rfl,rfl⟩
  .cases h
 .cases h
theorem Ay {mx:Bool}{p q r:SL}{u w:Lf}(h:xc mx p q=some r) (hp:RL' c L p u) (hq:RL' c L q w):∃z,xW mx (.one u) (.one w)=some (.one z)/\RL' c L r z:=by
 unfold xc at h;split at h
 .cases h;cases hp;cases hq;refine⟨_,rfl,?_⟩;cases mx <;> rfl
 .split at h
  .rename_i h1 h2;cases h;rw[hp.int h1,hq.int h2];refine⟨_,rfl,?_⟩;cases mx <;> rfl
  .cases h
theorem qJ (hT:RT c L T Tm) {mx:Bool}:∀{xs:List Opd}{p r:SL}{u:Lf},oh mx p (xs.map (opd T))=some r->RL' c L p u->∃z,oK mx (.one u) (xs.map (·.ev Tm))=some (.one z)/\RL' c L r z
 |[],p,r,u,h,hp=>by simp only[List.map_nil,oh,zE] at h;subst h;exact⟨u,rfl,hp⟩
 | x::xs,p,r,u,h,hp=>by
   have hx:=hT.opd x;simp only[zK] at h;cases hv:opd T x <;> rw[hv] at h <;> simp only[oh,reduceCtorEq] at h
   rw[hv] at hx;split at h
   .rename_i z hz;obtain⟨w,hw,hr⟩:=hx;obtain⟨z',k1,k2⟩:=Ay hz hp hr;obtain⟨z2,k3,k4⟩:=qJ hT h k2;exact⟨z2,by simp only[zK,oK,hw,k1,Option.bind_some,k3],k4⟩
   .cases h
theorem Eo (hT:RT c L T Tm) {mx:Bool}{xs:List Opd}(h:vW L mx (xs.map (opd T))=.ok v L' inv cs) (hc:aK cs):VOk c L v L' inv ((ah Tm H (.best mx xs)).map (·.1)):=by
 unfold vW at h;split at h
 .rename_i p r heq;split at h
  .rename_i z hz;split at h
   .cases xs with
    |nil=>simp at heq
    | cons x xs=>
      simp only[zK,zG] at heq;obtain⟨h1,rfl⟩:=heq;have hx:=hT.opd x;rw[h1] at hx;obtain⟨w,hw,hr⟩:=hx;obtain⟨z',k1,k2⟩:=qJ hT hz hr;exact bB h (fun _=>⟨z',by simp only[ah,hw,k1,Option.map_some],k2⟩) hc
   .cases h
  .cases h
 .cases h
theorem Gl {o:Opd}{i:Nat}(h:EP L x i=.ok v L' inv cs) (hc:aK cs) (hx:RVS c L x (o.ev Tm)):VOk c L v L' inv ((ah Tm H (.ext o i)).map (·.1)):=by
 unfold EP at h;split at h
 .obtain⟨l,hl,hr⟩:=hx;split at h
  .rename_i z hz;obtain⟨u,hu,w,rfl,hw⟩:=hr.get hz;exact bB h (fun _=>⟨w,by simp only[ah,hl,hu];rfl,hw⟩) hc
  .rename_i z hz;obtain⟨u,hu,w,rfl,hw⟩:=hr.get hz;exact iY h (fun _=>⟨.agg w,by simp only[ah,hl,hu];rfl,_,rfl,hw⟩) hc
  .cases h
 .cases h
theorem EO {o p q:Opd}{z:SV}(h:uZ L z x y=.ok v L' inv cs) (hc:aK cs) (hz:RVS c L z (o.ev Tm)) (hx:RVS c L x (p.ev Tm)) (hy:RVS c L y (q.ev Tm)):VOk c L v L' inv ((ah Tm H (.pick o p q)).map (·.1)):=by
 unfold uZ at h;split at h
 .obtain⟨w,hw,hr⟩:=hz;cases hr;exact iY h (fun _=>⟨p.ev Tm,by simp only[ah,hw];rfl,hx⟩) hc
 .obtain⟨w,hw,hr⟩:=hz;cases hr;exact iY h (fun _=>⟨q.ev Tm,by simp only[ah,hw];rfl,hy⟩) hc
 .obtain⟨w,hw,hr⟩:=hz;split at h
  .rename_i t s1 s2 ht;split at h
   .rename_i k1 u1 k2 u2 hi1 hi2;split at h
    .rename_i hk;have hk:=of_decide_eq_true hk;subst hk;obtain⟨w1,hw1,hr1⟩:=hx;obtain⟨w2,hw2,hr2⟩:=hy;have e:=hr.bool ht;subst e;have e:=hr1.int hi1;subst e;have e:=hr2.int hi2;subst e;refine bB h (fun _=>?_) hc;cases t with
     |true=>exact⟨_,by simp only[ah,hw,hw1,hw2];rfl,rfl⟩
     |false=>exact⟨_,by simp only[ah,hw,hw1,hw2];rfl,rfl⟩
    .cases h
   .cases h
  .cases h
 .cases h
theorem je {p p' q:List SL}{u w:List Lf}{j:Nat}(h:oz p j q=some p') (hp:ae (RL' c L) p u) (hq:ae (RL' c L) q w):j+w.length<=u.length/\ae (RL' c L) p' (u.take j++w++u.drop (j+w.length)):=by
 unfold oz at h;split at h
 .rename_i hb;cases h;have:=zW hb;rw[hq.1,hp.1] at this;refine⟨this,?_⟩;rw[zO,hq.1];exact(hp.take j).append (hq.append (hp.drop _))
 .cases h
theorem uO (hT:RT c L T Tm):∀{ps:List (Nat×Nat×Opd)}{p p':List SL}{u:List Lf},uM T p ps=some p'->ae (RL' c L) p u->∃u',ic Tm u ps=some u'/\ae (RL' c L) p' u'
 |[],p,p',u,h,hp=>by simp only[uM,zE] at h;subst h;exact⟨u,rfl,hp⟩
 | (off,n,x)::ps,p,p',u,h,hp=>by
   simp only[uM] at h;split at h
   .rename_i q hq;split at h
    .rename_i p1 hb hl;obtain⟨w,hw,hr⟩:=(hT.opd x).cells hq;have hb:=zC hb;obtain⟨k1,k2⟩:=je hl hp hr;obtain⟨u',k3,k4⟩:=uO hT h k2;refine⟨u',?_,k4⟩;have hwn:w.length=n:=by rw[<- hr.1];exact hb
     simp only[ic,hw];rw[if_pos ⟨hwn,by omega⟩];exact k3
    .cases h
   .cases h
theorem uq (hT:RT c L T Tm):∀{xs:List Opd}{l:List (Nat×Nat×Nat)},uB T xs=some l->(∀q∈l,q.1<L.length)/\(xs.mapM fun x:Opd=>capOf (x.ev Tm))=some (l.map fun q=>(c.π q.1,q.2))
 |[],l,h=>by simp only[uB,zE] at h;subst h;exact⟨by simp,rfl⟩
 | x::xs,l,h=>by
   simp only[uB] at h;split at h
   .rename_i q r h1 h2;cases h;obtain⟨k1,k2⟩:=uq hT h2;unfold Kr at h1;split at h1
    .rename_i b i j hv;cases h1;have:=hT.opd x;rw[hv] at this;obtain⟨w,hw,hlt,rfl⟩:=this;refine⟨fun q hq=>?_,?_⟩
     .rcases List.mem_cons.1 hq with rfl | hq
      .exact hlt
      .exact k1 q hq
     .rw[List.mapM_cons,hw];show (do let y <- some (c.π b,i,j);let ys <- xs.mapM fun x:Opd=>capOf (x.ev Tm);pure (y::ys))=_;rw[k2]
      rfl
    .cases h1
   .cases h
end
end Go.EA
end
section
namespace Go.EA
structure au (c:Cn) (L:List SO) (c':Cn) (L':List SO) (iv:Nat->Prop):Prop where
 len:∀b,b<L.length->¬ iv b->b<L'.length
 π:∀b,b<L.length->¬ iv b->c'.π b=c.π b
 nz:∀b,b<L.length->¬ iv b->c'.nz b=c.nz b
 Z:∀b,b<L.length->c'.Z b=c.Z b
 row:∀b,b<L.length->¬ iv b->∀t' l',bS (aa L' b)=some ⟨t',l'⟩->∃t l,bS (aa L b)=some ⟨t,l⟩/\l.length=l'.length
 ns:∀b,b<L.length->¬ iv b->¬ iv (b+1000000)->(∀i x,RIs c L b i x->RIs c' L' b i x)/\∀i k,RIp c L b i k->RIp c' L' b i k
section
variable {c c' c'':Cn} {L L' L'':List SO} {H:Heap} {T:ST} {Tm:Tm} {v x y:SV} {a b:AV} {inv:Option Nat} {cs:List Prop} {iv:Nat->Prop}
theorem au.refl:au c L c L iv:=⟨fun _ h _=>h,fun _ _ _=>rfl,fun _ _ _=>rfl,fun _ _=>rfl,fun _ _ _ t l h=>⟨t,l,h,rfl⟩,fun _ _ _ _=>⟨fun _ _ h=>h,fun _ _ h=>h⟩⟩
theorem au.rl (k:au c L c' L' iv) {x:SL}{y:Lf}(hn:∀b,iv b->iE b x=false) (h:RL' c L x y):RL' c' L' x y:=by
 cases x
 case osl b=>
  obtain⟨h1,h2⟩:=h;have hb:¬ iv b:=fun hi=>by have:=hn b hi;simp[iE] at this
  refine⟨k.len b h1 hb,fun t' l' hr=>?_⟩;obtain⟨t,l,e1,e2⟩:=k.row b h1 hb t' l' hr;rw[k.nz b h1 hb,k.π b h1 hb,<- e2];rcases h2 t l e1 with ⟨g1,g2,g3⟩ | g
  .exact .inl ⟨g1,zT (by rw[<- e2,g2];rfl),g3⟩
  .exact .inr g
 case sl b i n=>
  obtain⟨h1,h2⟩:=h;have hb:¬ iv b:=fun hi=>by have:=hn b hi;simp[iE] at this
  exact⟨k.len b h1 hb,by rw[k.π b h1 hb];exact h2⟩
 case ptr b i n=>
  obtain⟨h1,h2⟩:=h;have hb:¬ iv b:=fun hi=>by have:=hn b hi;simp[iE] at this
  exact⟨k.len b h1 hb,by rw[k.π b h1 hb];exact h2⟩
 case yld b=>
  obtain⟨h1,h2⟩:=h;have hb:¬ iv b:=fun hi=>by have:=hn b hi;simp[iE] at this
  exact⟨k.len b h1 hb,by rw[k.π b h1 hb];exact h2⟩
 case mp b=>
  obtain⟨h1,h2⟩:=h;have hb:¬ iv b:=fun hi=>by have:=hn b hi;simp[iE] at this
  exact⟨k.len b h1 hb,by rw[k.π b h1 hb];exact h2⟩
 case isl b i=>
  obtain⟨h1,h2⟩:=h;have hb:¬ iv b:=fun hi=>by have:=hn b hi;simp[iE] at this
  have hb2:¬ iv (b+1000000):=fun hi=>by have:=hn _ hi;simp[iE] at this
  exact⟨k.len b h1 hb,(k.ns b h1 hb hb2).1 i _ h2⟩
 case iptr b i j off=>
  obtain⟨h1,k',h2,h3⟩:=h;have hb:¬ iv b:=fun hi=>by have:=hn b hi;simp[iE] at this
  have hb2:¬ iv (b+1000000):=fun hi=>by have:=hn _ hi;simp[iE] at this
  exact⟨k.len b h1 hb,k',(k.ns b h1 hb hb2).2 i _ h2,h3⟩
 case fn f cap=>
  obtain⟨h1,h2⟩:=h;have hb:∀q∈cap,¬ iv q.1:=fun q hq hi=>by
   have:=hn q.1 hi;simp only[iE,List.any_eq_false] at this;exact absurd (Nat.beq_refl q.1) (this q hq)
  refine⟨fun q hq=>k.len q.1 (h1 q hq) (hb q hq),?_⟩;rw[h2]
  congr 1
  refine List.map_congr_left fun q hq=>?_
  rw[k.π q.1 (h1 q hq) (hb q hq)]
 all_goals exact h
theorem au.rls (k:au c L c' L' iv) {x:List SL}{y:List Lf}(hn:∀b,iv b->x.any (iE b)=false) (h:ae (RL' c L) x y):ae (RL' c' L') x y:=
 ⟨h.1,fun i p q hp hq=>k.rl (fun b hb=>by
  have:=hn b hb;rw[List.any_eq_false] at this;simpa using this p (zU hp)) (h.2 i p q hp hq)⟩
theorem au.rv (k:au c L c' L' iv) (hn:∀b,iv b->GM b v=false) (h:RVS c L v a):RVS c' L' v a:=by
 cases v with
 |one x=>obtain⟨y,e,h⟩:=h;exact⟨y,e,k.rl hn h⟩
 |agg x=>obtain⟨y,e,h⟩:=h;exact⟨y,e,k.rls hn h⟩
 | tup x=>
   obtain⟨y,e,h⟩:=h;refine⟨y,e,h.1,fun i p q hp hq=>?_⟩;have hr:=h.2 i p q hp hq;have hm:=zU hp;cases p with
   | o p=>
     obtain⟨y,e,h⟩:=hr;refine⟨y,e,k.rl (fun b hb=>?_) h⟩;have:=hn b hb;simp only[GM,List.any_eq_false] at this;simpa using this _ hm
   | a p=>
     obtain⟨y,e,h⟩:=hr;refine⟨y,e,k.rls (fun b hb=>?_) h⟩;have:=hn b hb;simp only[GM,List.any_eq_false] at this;simpa using this _ hm
 |junk=>trivial
 |ite _ _ _ _=>exact h.elim
theorem au.rl0 (k:au c L c' L' fun _=>False) {x:SL}{y:Lf}(h:RL' c L x y):RL' c' L' x y:=k.rl (fun _ hb=>hb.elim) h
theorem au.rls0 (k:au c L c' L' fun _=>False) {x:List SL}{y:List Lf}(h:ae (RL' c L) x y):ae (RL' c' L') x y:=k.rls (fun _ hb=>hb.elim) h
theorem au.rv0 (k:au c L c' L' fun _=>False) (h:RVS c L v a):RVS c' L' v a:=k.rv (fun _ hb=>hb.elim) h
theorem au.jl {d:Nat}(k:au c L c' L' (·=d)) {x:SL}{y:Lf}(h:RL' c L x y):RL' c' L' (jL d x) y:=by
 unfold jL;split
 .trivial
 .rename_i hb;exact k.rl (fun b e=>by rw[e];exact hb) h
theorem au.jls {d:Nat}(k:au c L c' L' (·=d)) {x:List SL}{y:List Lf}(h:ae (RL' c L) x y):ae (RL' c' L') (x.map (jL d)) y:=
 ⟨by simpa using h.1,fun i p q hp hq=>by
  rw[List.getElem?_map,zD] at hp;obtain⟨p',hp',rfl⟩:=hp;exact k.jl (h.2 i p' q hp' hq)⟩
theorem au.jv {d:Nat}(k:au c L c' L' (·=d)) (h:RVS c L v a):RVS c' L' (jV d v) a:=by
 cases v with
 | one x=>
   obtain⟨y,e,h⟩:=h;have:=k.jl h;unfold jL at this;simp only[jV];split
   .trivial
   .rename_i hb;rw[hb] at this;exact⟨y,e,this⟩
 |agg x=>obtain⟨y,e,h⟩:=h;exact⟨y,e,k.jls h⟩
 | tup x=>
   obtain⟨y,e,h⟩:=h;refine⟨y,e,by simpa using h.1,fun i p q hp hq=>?_⟩;rw[List.getElem?_map,zD] at hp;obtain⟨p',hp',rfl⟩:=hp;have hr:=h.2 i p' q hp' hq;cases p' with
   |o p=>obtain⟨y,e,h⟩:=hr;exact⟨y,e,k.jl h⟩
   |a p=>obtain⟨y,e,h⟩:=hr;exact⟨y,e,k.jls h⟩
 |junk=>trivial
 |ite _ _ _ _=>exact h.elim
theorem au.rt0 (k:au c L c' L' fun _=>False) (h:RT c L T Tm):RT c' L' T Tm:=fun i=>k.rv0 (h i)
theorem au.jt {d:Nat}(k:au c L c' L' (·=d)) (h:RT c L T Tm):RT c' L' (T.map (jV d)) Tm:=fun i=>by
 have:=k.jv (h i);rw[zA,List.getElem?_map];rw[zA] at this;cases hg:T[i]? with
 |none=>trivial
 |some x=>rw[hg] at this;exact this
theorem au.ro0 (k:au c L c' L' fun _=>False) {o:SO}{d:Nat}{z:AO}(hd:d<L.length) (hν:c'.ν d=c.ν d) (h:ROS c L o d z):ROS c' L' o d z:=by
 cases o with
 |nest t u l h0=>simp only[ROS] at h ⊢;rw[k.nz d hd (fun h=>h),hν];exact h
 |nrow u us=>simp only[ROS] at h ⊢;rw[k.nz d hd (fun h=>h)];exact h
 | raw cs=>
   obtain⟨h1,h2,ls,h3,h4⟩:=h;exact⟨by rw[k.nz d hd (fun h=>h)];exact h1,h2,ls,h3,k.rls0 h4⟩
 |row t l=>simp only[ROS] at h ⊢;rw[k.nz d hd (fun h=>h)];exact h
 |cell p=>obtain⟨ls,e,h⟩:=h;exact⟨ls,e,k.rls0 h⟩
 |dead=>trivial
 |siter s p=>exact h
 |bld s=>simp only[ROS] at h ⊢;rw[hν];exact h
 |map0=>exact h
 |mapo _ _ _=>exact h
 |loop st pd=>simp only[ROS] at h ⊢;rw[k.Z d hd];exact h
 | rowh t l i s=>
   simp only[ROS] at h ⊢;rw[k.nz d hd (fun h=>h)];rcases h with h | ⟨h1,els,h2,h3,x,h4,h5⟩
   .exact .inl h
   .exact .inr ⟨h1,els,h2,h3,x,k.rl0 h4,h5⟩
 |nilr n=>simp only[ROS] at h ⊢;rw[k.nz d hd (fun h=>h)];exact h
theorem RT.set (h:RT c L T Tm) {d:Option Nat}(hv:RVS c L v a):RT c L (fG T d v) (cz Tm d a):=by
 cases d with
 |none=>exact h
 | some d=>
   intro k;simp only[fG,cz,EA.put];by_cases e:k=d
   .subst e;rw[if_pos rfl,zA,List.getElem?_set];rw[if_pos rfl];split
    .exact hv
    .trivial
   .rw[if_neg e,zA,List.getElem?_set_ne (Ne.symm e),<- zA];exact h k
theorem bL {o:SO}{d:Nat}(h:d<L.length):aa (L++[o]) d=aa L d:=by
 unfold aa;rw[zA,zV h,<- zA]
theorem dx (o:SO):aa (L++[o]) L.length=o:=by
 unfold aa;rw[zA,List.getElem?_concat_length];rfl
theorem aM {o:SO}{d:Nat}(h:d<L.length):aa (L.set d o) d=o:=by
 unfold aa;rw[zA,List.getElem?_set_self h];rfl
theorem ak {o:SO}{d e:Nat}(h:e≠d):aa (L.set d o) e=aa L e:=by
 unfold aa;rw[zA,List.getElem?_set_ne (Ne.symm h),<- zA]
theorem bU {f:SO->SO}(hf:f .dead=.dead) {d:Nat}:aa (L.map f) d=f (aa L d):=by
 unfold aa;rw[zA,List.getElem?_map,zA];cases L[d]? <;> simp[hf]
theorem dY {o:SO}{b:Nat}{z z':AO}(hl:¬ az c o b) (h:ROS c L o b z):ROS c L o b z':=by
 cases o with
 |row t l=>rcases h with h | h;exact .inl h;exact absurd h.1 hl
 |rowh t l i s=>rcases h with h | h;exact .inl h;exact absurd h.1 hl
 |nest t u l i=>rcases h with h | h;exact .inl h;exact absurd h.1 hl
 |dead=>trivial
 |_=>exact absurd trivial hl
theorem eu {o:SO}{b:Nat}(h:c'.nz b=c.nz b) (hl:az c' o b):az c o b:=by
 cases o with
 |row t l=>show c.nz b=true;rw[<- h];exact hl
 |rowh t l i s=>show c.nz b=true;rw[<- h];exact hl
 |nest t u l i=>show c.nz b=true;rw[<- h];exact hl
 |dead=>exact hl
 |_=>trivial
theorem RN.keep {H':Heap}(hN:RN c L H) (hI:∀b i k r,b<L'.length->Inn c' L' b i k r->b<L.length/\Inn c L b i k r) (hn:H.n<=H'.n) (ho:∀b i k r,b<L.length->Inn c L b i k r->H'.o k=H.o k)
 (hl:∀b,b<L'.length->az c' (aa L' b) b->H.n<=c'.π b\/∃d,d<L.length/\az c (aa L d) d/\c.π d=c'.π b):RN c' L' H':=by
 refine⟨fun b i k r hb h=>?_,fun b i k r hb h b' hb' hlv=>?_,fun b i k r b' i' r' hb hb' h h'=>?_⟩
 .obtain⟨h1,h2⟩:=hI b i k r hb h;obtain⟨g1,g2⟩:=hN.ob b i k r h1 h2;rw[ho b i k r h1 h2];exact⟨Nat.lt_of_lt_of_le g1 hn,g2⟩
 .obtain⟨h1,h2⟩:=hI b i k r hb h;rcases hl b' hb' hlv with g | ⟨d,g1,g2,g3⟩
  .have:=(hN.ob b i k r h1 h2).1;omega
  .rw[<- g3];exact hN.pi b i k r h1 h2 d g1 g2
 .obtain⟨h1,h2⟩:=hI b i k r hb h;obtain⟨h1',h2'⟩:=hI b' i' k r' hb' h';exact hN.inj b i k r b' i' r' h1 h1' h2 h2'
theorem RN.keep2 {H':Heap}(hN:RN c L H) (hI:∀b i k r,b<L'.length->Inn c' L' b i k r->b<L.length/\Inn c L b i k r/\H'.o k=H.o k) (hn:H.n<=H'.n)
 (hl:∀b,b<L'.length->az c' (aa L' b) b->H.n<=c'.π b\/∃d,d<L.length/\az c (aa L d) d/\c.π d=c'.π b):RN c' L' H':=by
 refine⟨fun b i k r hb h=>?_,fun b i k r hb h b' hb' hlv=>?_,fun b i k r b' i' r' hb hb' h h'=>?_⟩
 .obtain⟨h1,h2,h3⟩:=hI b i k r hb h;obtain⟨g1,g2⟩:=hN.ob b i k r h1 h2;rw[h3];exact⟨Nat.lt_of_lt_of_le g1 hn,g2⟩
 .obtain⟨h1,h2,_⟩:=hI b i k r hb h;rcases hl b' hb' hlv with g | ⟨d,g1,g2,g3⟩
  .have:=(hN.ob b i k r h1 h2).1;omega
  .rw[<- g3];exact hN.pi b i k r h1 h2 d g1 g2
 .obtain⟨h1,h2,_⟩:=hI b i k r hb h;obtain⟨h1',h2',_⟩:=hI b' i' k r' hb' h';exact hN.inj b i k r b' i' r' h1 h1' h2 h2'
theorem gJ {d i k:Nat}{r:(t:Ty)×List t.den}(ho:aa L' d=aa L d) (hν:c'.ν d=c.ν d) (h:Inn c' L' d i k r):Inn c L d i k r:=by
 obtain⟨u,l,q,h1,h2,h3,h4⟩:=h;exact⟨u,l,q,by rw[<- ho];exact h1,h2,by rw[<- hν];exact h3,h4⟩
theorem eT {d i k:Nat}{r:(t:Ty)×List t.den}(hn:bP (aa L d)=false) (h:Inn c L d i k r):False:=by
 obtain⟨u,l,q,h1,_⟩:=h;cases hg:aa L d <;> rw[hg] at h1 hn <;> first | (cases h1; done) | (cases hn; done)
theorem lT {d:Nat}(ho:aa L' d=aa L d) (hν:c'.ν d=c.ν d):(∀i x,RIs c L d i x->RIs c' L' d i x)/\∀i k,RIp c L d i k->RIp c' L' d i k:=
 ⟨fun i x ⟨t,u,l,h1,e,h2,h3⟩=>⟨t,u,l,by rw[ho];exact h1,e,h2,by rw[hν];exact h3⟩,fun i k ⟨t,u,l,h1,h2,h3⟩=>⟨t,u,l,by rw[ho];exact h1,h2,by rw[hν];exact h3⟩⟩
theorem BX {d:Nat}(hn:bP (aa L d)=false):(∀i x,RIs c L d i x->RIs c' L' d i x)/\∀i k,RIp c L d i k->RIp c' L' d i k:=
 ⟨fun i x ⟨t,u,l,h1,_⟩=>by (rw[h1] at hn;cases hn),fun i k ⟨t,u,l,h1,_⟩=>by (rw[h1] at hn;cases hn)⟩
def dC (c:Cn) (n m:Nat) (z:LD):Cn:=⟨EA.put c.π n m,EA.put c.nz n true,EA.put c.Z n z,EA.put c.ν n fun _=>none⟩
theorem put_eq {α:Type}(f:Nat->α) (i:Nat) (v:α):EA.put f i v i=v:=if_pos rfl
theorem aO {α:Type}(f:Nat->α) {i j:Nat}(v:α) (h:j≠i):EA.put f i v j=f j:=if_neg h
theorem au.push (c:Cn) (L:List SO) (m:Nat) (z:LD) (o:SO):au c L (dC c L.length m z) (L++[o]) fun _=>False:=by
 refine⟨fun b hb _=>by simp;omega,fun b hb _=>aO _ _ (by omega),fun b hb _=>aO _ _ (by omega),fun b hb=>aO _ _ (by omega),fun b hb _ t l h=>⟨t,l,by rw[bL hb] at h;exact h,rfl⟩,fun b hb _ _=>lT (bL hb) (aO _ _ (by omega))⟩
theorem RH.push (hH:RH c L H) {o:SO}{z:AO}{w:LD}(h:ROS (dC c L.length H.n w) (L++[o]) o L.length z):RH (dC c L.length H.n w) (L++[o]) (H.push z):=by
 have K:=au.push c L H.n w o;have hπ:∀b,b<L.length->(dC c L.length H.n w).π b=c.π b:=fun b hb=>K.π b hb (fun h=>h)
 have hπ0:(dC c L.length H.n w).π L.length=H.n:=put_eq _ _ _;have hν:∀b,b<L.length->(dC c L.length H.n w).ν b=c.ν b:=fun b hb=>aO _ _ (by omega)
 have hl:∀b,b<L.length->az (dC c L.length H.n w) (aa (L++[o]) b) b->az c (aa L b) b:=fun b hb h=>by
  rw[bL hb] at h;exact eu (K.nz b hb (fun h=>h)) h
 have hle:∀b,b<(L++[o]).length->b≠L.length->b<L.length:=fun b hb e=>by simp at hb;omega
 refine⟨fun b hb hlv=>?_,fun b b' hb hb' h1 h2 e=>?_,fun b hb=>?_,Hd.push hH.hd z,hH.ns.keep (fun b i k r hb h=>?_) (Nat.le_succ _) (fun b i k r hb h=>?_) (fun b hb hlv=>?_)⟩
 .by_cases e:b=L.length
  .subst e;rw[hπ0];exact Nat.lt_succ_self _
  .have hb:=hle b hb e;rw[hπ b hb];exact Nat.lt_succ_of_lt (hH.lt b hb (hl b hb hlv))
 .by_cases e1:b=L.length <;> by_cases e2:b'=L.length
  .omega
  .have hb':=hle b' hb' e2;have:=hH.lt b' hb' (hl b' hb' h2);rw[e1,hπ0,hπ b' hb'] at e;omega
  .have hb:=hle b hb e1;have:=hH.lt b hb (hl b hb h1);rw[e2,hπ0,hπ b hb] at e;omega
  .have hb:=hle b hb e1;have hb':=hle b' hb' e2;rw[hπ b hb,hπ b' hb'] at e;exact hH.inj b b' hb hb' (hl b hb h1) (hl b' hb' h2) e
 .by_cases e:b=L.length
  .subst e;rw[dx,hπ0];show ROS _ _ o _ (EA.put H.o H.n z H.n);rw[put_eq];exact h
  .have hb:=hle b hb e;rw[bL hb,hπ b hb];have h0:=K.ro0 hb (hν b hb) (hH.ob b hb);by_cases hlv:az c (aa L b) b
   .have:=hH.lt b hb hlv;show ROS _ _ _ b (EA.put H.o H.n z (c.π b));rw[aO _ _ (by omega)];exact h0
   .exact dY (fun h=>hlv (eu (K.nz b hb (fun h=>h)) h)) h0
 .by_cases e:b=L.length
  .subst e;obtain⟨_,_,_,_,_,h3,_⟩:=h;have h3:(dC c L.length H.n w).ν L.length i=some k:=h3;rw[show (dC c L.length H.n w).ν L.length=fun _=>none from put_eq _ _ _] at h3;cases h3
  .have hb:=hle b hb e;exact⟨hb,gJ (bL hb) (hν b hb) h⟩
 .have:=(hH.ns.ob b i k r hb h).1;exact aO _ _ (by omega)
 .by_cases e:b=L.length
  .subst e;rw[hπ0];exact .inl (zJ _)
  .have hb:=hle b hb e;exact .inr ⟨b,hb,hl b hb hlv,(hπ b hb).symm⟩
theorem au.setN {d:Nat}{o:SO}(hr:∀t' l',bS o=some ⟨t',l'⟩->∃t l,bS (aa L d)=some ⟨t,l⟩/\l.length=l'.length)
 (hn:(∀i x,RIs c L d i x->RIs c (L.set d o) d i x)/\∀i k,RIp c L d i k->RIp c (L.set d o) d i k):au c L c (L.set d o) fun _=>False:=by
 refine⟨fun b hb _=>by simpa using hb,fun _ _ _=>rfl,fun _ _ _=>rfl,fun _ _=>rfl,fun b hb _ t l h=>?_,fun b hb _ _=>?_⟩
 .by_cases e:b=d
  .subst e;rw[aM hb] at h;exact hr t l h
  .rw[ak e] at h;exact⟨t,l,h,rfl⟩
 .by_cases e:b=d
  .subst e;exact hn
  .exact lT (ak e) rfl
theorem au.set {d:Nat}{o:SO}(hd:bP (aa L d)=false) (hr:∀t' l',bS o=some ⟨t',l'⟩->∃t l,bS (aa L d)=some ⟨t,l⟩/\l.length=l'.length):au c L c (L.set d o) fun _=>False:=
 au.setN hr (BX hd)
theorem RH.setN (hH:RH c L H) {d:Nat}{o:SO}{z:AO}(hd:d<L.length) (hlv:az c (aa L d) d) (ho:az c o d->ROS c (L.set d o) o d z)
 (hdead:¬ az c o d->o=.dead) (hi:∀i k r,Inn c (L.set d o) d i k r->Inn c L d i k r) (K:au c L c (L.set d o) fun _=>False):RH c (L.set d o) (H.set (c.π d) z):=by
 have hl:∀b,b<L.length->az c (aa (L.set d o) b) b->az c (aa L b) b:=fun b hb h=>by
  by_cases e:b=d
  .subst e;exact hlv
  .rw[ak e] at h;exact h
 refine⟨fun b hb h=>?_,fun b b' hb hb' h1 h2 e=>?_,fun b hb=>?_,Hd.set hH.hd (hH.lt d hd hlv) z,hH.ns.keep (fun b i k r hb h=>?_) (zJ _) (fun b i k r hb h=>?_) (fun b hb h=>?_)⟩
 .rw[List.length_set] at hb;exact hH.lt b hb (hl b hb h)
 .rw[List.length_set] at hb hb';exact hH.inj b b' hb hb' (hl b hb h1) (hl b' hb' h2) e
 .rw[List.length_set] at hb;by_cases e:b=d
  .subst e;rw[aM hb];show ROS _ _ o b (EA.put H.o (c.π b) z (c.π b));rw[put_eq];by_cases h:az c o b
   .exact ho h
   .rw[hdead h];trivial
  .rw[ak e];have h0:=K.ro0 hb rfl (hH.ob b hb);by_cases hb2:az c (aa L b) b
   .show ROS _ _ _ b (EA.put H.o (c.π d) z (c.π b));rw[aO _ _ (fun e2=>e (hH.inj b d hb hd hb2 hlv e2))];exact h0
   .exact dY hb2 h0
 .rw[List.length_set] at hb;refine⟨hb,?_⟩;by_cases e:b=d
  .subst e;exact hi i k r h
  .exact gJ (ak e) rfl h
 .exact aO _ _ (fun e=>hH.ns.pi b i k r hb h d hd hlv e.symm)
 .rw[List.length_set] at hb;exact .inr ⟨b,hb,hl b hb h,rfl⟩
theorem RH.set (hH:RH c L H) {d:Nat}{o:SO}{z:AO}(hd:d<L.length) (hlv:az c (aa L d) d) (hr:∀t' l',bS o=some ⟨t',l'⟩->∃t l,bS (aa L d)=some ⟨t,l⟩/\l.length=l'.length) (ho:az c o d->ROS c (L.set d o) o d z)
 (hdead:¬ az c o d->o=.dead) (hn:bP (aa L d)=false) (hn':bP o=false):RH c (L.set d o) (H.set (c.π d) z):=
 hH.setN hd hlv ho hdead (fun i k r h=>(eT (by rw[aM hd];exact hn') h).elim) (au.set hn hr)
theorem RH.heap {H':Heap}(hH:RH c L H) (hn:H'.n=H.n) (hd:H'.Hd) (ho:∀b,b<L.length->az c (aa L b) b->H'.o (c.π b)=H.o (c.π b)) (hi:∀b i k r,b<L.length->Inn c L b i k r->H'.o k=H.o k):RH c L H':=by
 refine⟨fun b hb h=>by rw[hn];exact hH.lt b hb h,hH.inj,fun b hb=>?_,hd,hH.ns.keep (fun b i k r hb h=>⟨hb,h⟩) (Nat.le_of_eq hn.symm) hi (fun b hb h=>.inr ⟨b,hb,h,rfl⟩)⟩;by_cases h:az c (aa L b) b
 .rw[ho b hb h];exact hH.ob b hb
 .exact dY h (hH.ob b hb)
theorem au.open {b i:Nat}{t u:Ty}{l:List (List t.den×u.den)}(hb:aa L b=.nest t u l none):au c L c ((L.set b (.nest t u l (some i))).map (jO (b+1000000))) (·=b+1000000):=by
 have hlt:b<L.length:=by
  apply Decidable.byContradiction
  intro hn;unfold aa at hb;rw[zA,List.getElem?_eq_none (by omega)] at hb;cases hb
 have jr:∀o d,bS (jO d o)=bS o:=fun o d=>by cases o <;> rfl
 refine⟨fun d hd _=>by simpa using hd,fun _ _ _=>rfl,fun _ _ _=>rfl,fun _ _=>rfl,fun d hd _ t' l' h=>?_,fun d hd _ h2=>?_⟩
 .rw[bU rfl,jr] at h;by_cases e:d=b
  .subst e;rw[aM hlt] at h;cases h;exact⟨.pair (.row t) u,l,by rw[hb];rfl,rfl⟩
  .rw[ak e] at h;exact⟨t',l',h,rfl⟩
 .have e:d≠b:=fun e=>h2 (by rw[e])
  have:∀{t u:Ty} {l:List (List t.den×u.den)},aa L d=.nest t u l none->aa ((L.set b (.nest t u l (some i))).map (jO (b+1000000))) d=.nest t u l none:=fun h=>by
   rw[bU rfl,ak e,h];rfl
  refine⟨fun i x ⟨t',u',l',h1,h3⟩=>⟨t',u',l',?_,h3⟩,fun i k ⟨t',u',l',h1,h3⟩=>⟨t',u',l',?_,h3⟩⟩ <;> (rw[bU rfl,ak e,h1]; rfl)
end
end Go.EA
end
section
namespace Go.EA
def Lj (inv:Option Nat) (L:List SO):List SO:=match inv with | none=>L | some b=>L.map (jO b)
def HOk (c:Cn) (L:List SO) (H:Heap) (v:SV) (L':List SO) (inv:Option Nat) (w:Option (AV×Heap)):Prop:=
 ∃av H' c',w=some (av,H')/\au c L c' (Lj inv L') (fun b=>inv=some b)/\RVS c' (Lj inv L') v av/\RH c' (Lj inv L') H'
section
variable {c c':Cn} {L L':List SO} {H:Heap} {T:ST} {Tm:Tm} {v x y:SV} {a b:AV} {inv:Option Nat} {cs:List Prop}
theorem au.any {iv iv':Nat->Prop}(k:au c L c' L' iv) (h:∀b,iv b->iv' b):au c L c' L' iv':=
 ⟨fun b hb hn=>k.len b hb fun hi=>hn (h b hi),fun b hb hn=>k.π b hb fun hi=>hn (h b hi),fun b hb hn=>k.nz b hb fun hi=>hn (h b hi),k.Z,fun b hb hn=>k.row b hb fun hi=>hn (h b hi),fun b hb hn hn'=>k.ns b hb (fun hi=>hn (h b hi)) fun hi=>hn' (h _ hi)⟩
theorem au.trans {c'':Cn}{L' L'':List SO}{c':Cn}{iv:Nat->Prop}(k:au c L c' L' iv) (k':au c' L' c'' L'' iv) (hl:L.length<=L'.length):au c L c'' L'' iv:=
 ⟨fun b hb hn=>k'.len b (k.len b hb hn) hn,fun b hb hn=>(k'.π b (k.len b hb hn) hn).trans (k.π b hb hn),fun b hb hn=>(k'.nz b (k.len b hb hn) hn).trans (k.nz b hb hn),fun b hb=>(k'.Z b (Nat.lt_of_lt_of_le hb hl)).trans (k.Z b hb),fun b hb hn t' l' h=>by
  obtain⟨t,l,h1,h2⟩:=k'.row b (k.len b hb hn) hn t' l' h;obtain⟨t0,l0,h3,h4⟩:=k.row b hb hn t l h1;exact⟨t0,l0,h3,h4.trans h2⟩,fun b hb hn hn'=>⟨fun i x h=>(k'.ns b (k.len b hb hn) hn hn').1 i x ((k.ns b hb hn hn').1 i x h),fun i x h=>(k'.ns b (k.len b hb hn) hn hn').2 i x ((k.ns b hb hn hn').2 i x h)⟩⟩
theorem sO {x:SL}{y:Lf}(hx:lu x=true) (h:RL' c L x y):RL' c' L' x y:=by
 cases x <;> first | exact h | (cases hx; done) | skip
 rename_i f cap;obtain⟨h1,h2⟩:=h;have:cap=[]:=by simpa [lu] using hx
 subst this;exact⟨by simp,h2⟩
theorem jm {xs:List SL}{ys:List Lf}(hx:xs.all lu=true) (h:ae (RL' c L) xs ys):ae (RL' c' L') xs ys:=
 ⟨h.1,fun i x y h1 h2=>sO (List.all_eq_true.1 hx x (zU h1)) (h.2 i x y h1 h2)⟩
theorem au.jls2 {iv:Nat->Prop}{inv:List Nat}(k:au c L c' L' iv) (hi:∀b,iv b->b∈inv) {x:SL}{y:Lf}(h:RL' c L x y):RL' c' L' (jLs inv x) y:=by
 unfold jLs;split
 .trivial
 .rename_i hn;refine k.rl (fun b hb=>?_) h;cases hx:iE b x with
  |false=>rfl
  |true=>exact absurd (List.any_eq_true.2 ⟨b,hi b hb,hx⟩) (by rw[Io] at hn;rw[hn];simp)
theorem au.jlss {iv:Nat->Prop}{inv:List Nat}(k:au c L c' L' iv) (hi:∀b,iv b->b∈inv) {x:List SL}{y:List Lf}(h:ae (RL' c L) x y):ae (RL' c' L') (x.map (jLs inv)) y:=
 ⟨by simpa using h.1,fun i p q hp hq=>by
  rw[List.getElem?_map,zD] at hp;obtain⟨p',hp',rfl⟩:=hp;exact k.jls2 hi (h.2 i p' q hp' hq)⟩
theorem au.jvs {iv:Nat->Prop}{inv:List Nat}(k:au c L c' L' iv) (hi:∀b,iv b->b∈inv) (h:RVS c L v a):RVS c' L' (jVs inv v) a:=by
 cases v with
 |one x=>obtain⟨y,e,h⟩:=h;exact⟨y,e,k.jls2 hi h⟩
 |agg x=>obtain⟨y,e,h⟩:=h;exact⟨y,e,k.jlss hi h⟩
 | tup x=>
   obtain⟨y,e,h⟩:=h;refine⟨y,e,by simpa using h.1,fun i p q hp hq=>?_⟩;rw[List.getElem?_map,zD] at hp;obtain⟨p',hp',rfl⟩:=hp;have hr:=h.2 i p' q hp' hq;cases p' with
   |o p=>obtain⟨y,e,h⟩:=hr;exact⟨y,e,k.jls2 hi h⟩
   |a p=>obtain⟨y,e,h⟩:=hr;exact⟨y,e,k.jlss hi h⟩
 |junk=>trivial
 |ite _ _ _ _=>exact h.elim
theorem au.jts {iv:Nat->Prop}{inv:List Nat}(k:au c L c' L' iv) (hi:∀b,iv b->b∈inv) (h:RT c L T Tm):RT c' L' (T.map (jVs inv)) Tm:=fun i=>by
 have:=k.jvs hi (h i);rw[zA,List.getElem?_map];rw[zA] at this;cases hg:T[i]? with
 |none=>trivial
 |some x=>rw[hg] at this;exact this
theorem HOk.of (hH:RH c L H) {w:Option AV}{w2:Option (AV×Heap)}(h:VOk c L v L' inv w) (e:w2.map (·.1)=w) (hp:∀av H',w2=some (av,H')->H'=H):HOk c L H v L' inv w2:=by
 obtain⟨rfl,rfl,u,hu,hr⟩:=h;cases w2 with
 |none=>rw[hu] at e;cases e
 | some p=>
   obtain⟨av,H'⟩:=p;have hH':=hp av H' rfl;subst hH';rw[hu] at e;simp only[Option.map_some,zE] at e;subst e;exact⟨_,_,c,rfl,au.refl,hr,hH⟩
theorem HOk.push (hH:RH c L H) {o:SO}{z:AO}{w:LD}{w2:Option (AV×Heap)}{av:AV}(e:w2=some (av,H.push z)) (ho:ROS (dC c L.length H.n w) (L++[o]) o L.length z) (hv:RVS (dC c L.length H.n w) (L++[o]) v av):HOk c L H v (L++[o]) none w2:=
 ⟨_,_,_,e,(au.push c L H.n w o).any (fun _ h=>h.elim),hv,hH.push ho⟩
theorem bA (t:Ty) (l:List t.den):aD (l.map t.enc)=true:=by
 unfold aD;rw[List.all_map,List.all_eq_true];exact fun x _=>Lf.closed_row t x
def ld0:LD:=⟨fun _=>und,[],.skip,.skip⟩
theorem HOk.pushRow (hH:RH c L H) {t:Ty}{l:List t.den}{w2:Option (AV×Heap)}{n:Nat}(hn:n=l.length) (e:w2=some (.one (.sl H.n 0 n),H.push (.blk t.size (l.map t.enc) true))):HOk c L H (.one (.osl L.length)) (L++[.row t l]) none w2:=by
 subst hn;have h1:(dC c L.length H.n ld0).nz L.length=true:=put_eq _ _ _;have h2:(dC c L.length H.n ld0).π L.length=H.n:=put_eq _ _ _;refine HOk.push hH (w:=ld0) e (.inr ⟨h1,_,rfl,bA t l,by rw[<- zR (f:=t.enc),List.take_length]⟩) ⟨_,rfl,by simp,fun t' l' hr=>?_⟩;rw[dx] at hr;cases hr;exact .inr ⟨h1,by rw[h2]⟩
theorem HOk.pushNil (hH:RH c L H) {t:Ty}{w2:Option (AV×Heap)}{z:Lf}(hz:z=.nils\/z=.slz) (e:w2=some (.one z,H)):HOk c L H (.one (.osl L.length)) (L++[.row t []]) none w2:=by
 let c':Cn:=⟨c.π,EA.put c.nz L.length false,c.Z,c.ν⟩
 have K:au c L c' (L++[.row t []]) fun _=>False:=
  ⟨fun b hb _=>by simp;omega,fun _ _ _=>rfl,fun b hb _=>aO _ _ (by omega),fun _ _=>rfl,fun b hb _ t l h=>⟨t,l,by rw[bL hb] at h;exact h,rfl⟩,fun b hb _ _=>lT (bL hb) rfl⟩
 have h0:c'.nz L.length=false:=put_eq _ _ _;have hl:∀b,b<(L++[SO.row t []]).length->az c' (aa (L++[SO.row t []]) b) b->b<L.length/\az c (aa L b) b:=fun b hb h=>by
  simp only[zL,zM,List.length_nil,Nat.zero_add] at hb;by_cases e:b=L.length
  .subst e;rw[dx] at h;have:c'.nz L.length=true:=h;rw[h0] at this;cases this
  .have hb:b<L.length:=by omega
   refine⟨hb,?_⟩;rw[bL hb] at h;exact eu (K.nz b hb (fun h=>h)) h
 refine⟨_,_,c',e,K.any (fun _ h=>h.elim),⟨_,rfl,by simp[Lj],fun t' l' hr=>?_⟩,⟨fun b hb h=>hH.lt b (hl b hb h).1 (hl b hb h).2,fun b b' hb hb' h h' e=>hH.inj b b' (hl b hb h).1 (hl b' hb' h').1 (hl b hb h).2 (hl b' hb' h').2 e,fun b hb=>?_,hH.hd,hH.ns.keep (fun b i k r hb h=>?_) (zJ _) (fun _ _ _ _ _ _=>rfl) (fun b hb h=>.inr ⟨b,(hl b hb h).1,(hl b hb h).2,rfl⟩)⟩⟩
 .have hr':bS (aa (L++[SO.row t []]) L.length)=some ⟨t',l'⟩:=hr;rw[dx] at hr';cases hr';exact .inl ⟨h0,rfl,hz⟩
 .simp only[Lj,zL,zM,List.length_nil,Nat.zero_add] at hb;by_cases e:b=L.length
  .subst e;show ROS c' _ (aa (L++[SO.row t []]) L.length) _ _;rw[dx];exact .inl ⟨h0,rfl⟩
  .have hb:b<L.length:=by omega
   show ROS c' _ (aa (L++[SO.row t []]) b) _ _;rw[bL hb];exact K.ro0 hb rfl (hH.ob b hb)
 .simp only[Lj,zL,zM,List.length_nil,Nat.zero_add] at hb;by_cases e:b=L.length
  .subst e;exact(eT (by show bP (aa (L++[SO.row t []]) L.length)=false;rw[dx];rfl) h).elim
  .have hb:b<L.length:=by omega
   exact⟨hb,gJ (bL hb) rfl h⟩
theorem bX {d b:Nat}{o:SO}(h:b≠d):aa ((L.set d o).map (jO d)) b=jO d (aa L b):=by
 rw[bU rfl,ak h]
theorem fO {d:Nat}{t:Ty}{l:List t.den}(h:d<L.length):aa ((L.set d (.row t l)).map (jO d)) d=.row t l:=by
 rw[bU rfl,aM h];rfl
theorem Fb (d:Nat) (o:SO):bS (jO d o)=bS o:=by cases o <;> rfl
theorem bO {d:Nat}{o:SO}(h:d<L.length):aa ((L.set d o).map (jO d)) d=jO d o:=by
 rw[bU rfl,aM h]
theorem au.app (c:Cn) {d:Nat}{o:SO}(c':Cn) (h1:∀b,b≠d->c'.π b=c.π b) (h2:∀b,b≠d->c'.nz b=c.nz b) (h3:c'.Z=c.Z) (h4:∀b,b≠d->c'.ν b=c.ν b):au c L c' ((L.set d o).map (jO d)) (·=d):=
 ⟨fun b hb _=>by simpa using hb,fun b _ h=>h1 b h,fun b _ h=>h2 b h,fun b _=>by rw[h3],fun b hb h t l hr=>by
  rw[bX h,Fb] at hr;exact⟨t,l,hr,rfl⟩,fun b hb h _=>by
  have e:∀{t u l},aa L b=.nest t u l none->aa ((L.set d o).map (jO d)) b=.nest t u l none:=fun g=>by rw[bX h,g];rfl
  exact⟨fun i x ⟨t,u,l,g,q,h5,h6⟩=>⟨t,u,l,e g,q,h5,by rw[h4 b h];exact h6⟩,fun i k ⟨t,u,l,g,h5,h6⟩=>⟨t,u,l,e g,h5,by rw[h4 b h];exact h6⟩⟩⟩
theorem lH {d b i k:Nat}{r:(t:Ty)×List t.den}(ho:aa L' b=jO d (aa L b)) (hν:c'.ν b=c.ν b) (h:Inn c' L' b i k r):Inn c L b i k r:=by
 obtain⟨u,l,q,h1,h2,h3,h4⟩:=h;refine⟨u,l,q,?_,h2,by rw[<- hν];exact h3,h4⟩;rw[ho] at h1;cases hg:aa L b <;> rw[hg] at h1 <;> first | exact h1 | cases h1
theorem au.joO {d:Nat}(k:au c L c' L' (·=d)) {o:SO}{b:Nat}{z:AO}(hd:b<L.length) (hnz:c'.nz b=c.nz b) (hν:c'.ν b=c.ν b) (h:ROS c L o b z):ROS c' L' (jO d o) b z:=by
 cases o with
 |nest t u l i=>simp only[ROS,jO] at h ⊢;rw[hnz,hν];exact h
 |nrow u us=>simp only[ROS,jO] at h ⊢;rw[hnz];exact h
 | raw cs=>
   obtain⟨h1,h2,ls,h3,h4⟩:=h;exact⟨by rw[hnz];exact h1,h2,ls,h3,jm h2 h4⟩
 |row t l=>simp only[ROS,jO] at h ⊢;rw[hnz];exact h
 |cell p=>obtain⟨ls,e,h⟩:=h;exact⟨ls,by simpa [jO] using e,k.jls h⟩
 |dead=>trivial
 |siter s p=>exact h
 |bld s=>simp only[ROS,jO] at h ⊢;rw[hν];exact h
 |map0=>exact h
 |mapo _ _ _=>exact h
 |loop st pd=>simp only[ROS,jO] at h ⊢;rw[k.Z b hd];exact h
 | rowh t l i s=>
   simp only[ROS,jO] at h ⊢;rw[hnz];rcases h with h | ⟨h1,els,h2,h3,x,h4,h5⟩
   .exact .inl h
   .exact .inr ⟨h1,els,h2,h3,x,k.jl h4,h5⟩
 |nilr n=>simp only[ROS,jO] at h ⊢;rw[hnz];exact h
theorem bJ {d b:Nat}{o:SO}(h2:c'.nz b=c.nz b) (h:az c' (jO d o) b):az c o b:=by
 cases o with
 |row t l=>show c.nz b=true;rw[<- h2];exact h
 |rowh t l i s=>show c.nz b=true;rw[<- h2];exact h
 |nest t u l i=>show c.nz b=true;rw[<- h2];exact h
 |dead=>exact h
 |_=>trivial
theorem RH.appG (hH:RH c L H) {d:Nat}(hlt:d<L.length) (hdl:c.nz d=true->az c (aa L d) d) {H1:Heap}(hn:H1.n=H.n) (ho:∀i,(c.nz d=true->i≠c.π d)->H1.o i=H.o i) {o':SO}{z:AO}{ν':Nat->Nat->Option Nat}(hν:∀b,b≠d->ν' b=c.ν b)
 (hnew:ROS ⟨EA.put c.π d H.n,EA.put c.nz d true,c.Z,ν'⟩ ((L.set d o').map (jO d)) (jO d o') d z) (hdn:az c (aa L d) d->c.nz d=true)
 (hin:∀i k r,Inn ⟨EA.put c.π d H.n,EA.put c.nz d true,c.Z,ν'⟩ ((L.set d o').map (jO d)) d i k r->Inn c L d i k r) :
 RH ⟨EA.put c.π d H.n,EA.put c.nz d true,c.Z,ν'⟩ ((L.set d o').map (jO d)) (H1.push z):=by
 let c':Cn:=⟨EA.put c.π d H.n,EA.put c.nz d true,c.Z,ν'⟩
 have p1:∀b,b≠d->c'.π b=c.π b:=fun b hb=>aO _ _ hb
 have p2:∀b,b≠d->c'.nz b=c.nz b:=fun b hb=>aO _ _ hb
 have p0:c'.π d=H.n:=put_eq _ _ _;have p3:c'.nz d=true:=put_eq _ _ _;have K:au c L c' ((L.set d o').map (jO d)) (·=d):=au.app c c' p1 p2 rfl hν;have hl:∀b,b≠d->az c' (aa ((L.set d o').map (jO d)) b) b->az c (aa L b) b:=fun b hb h=>by
  rw[bX hb] at h;exact bJ (p2 b hb) h
 have hlen:∀b,b<((L.set d o').map (jO d)).length->b<L.length:=fun b hb=>by simpa using hb
 show RH c' _ _;have hd1:H1.Hd:=fun i hi=>by
  rw[ho i fun hnz e=>by have:=hH.lt d hlt (hdl hnz);omega];exact hH.hd i (by omega)
 refine⟨fun b hb h=>?_,fun b b' hb hb' h h' e=>?_,fun b hb=>?_,Hd.push hd1 _,hH.ns.keep (fun b i k r hb h=>?_) (by show H.n<=H1.n+1;omega) (fun b i k r hb h=>?_) (fun b hb h=>?_)⟩
 .show c'.π b<H1.n+1;by_cases e:b=d
  .subst e;rw[p0];omega
  .rw[p1 b e];have:=hH.lt b (hlen b hb) (hl b e h);omega
 .by_cases e1:b=d <;> by_cases e2:b'=d
  .rw[e1,e2]
  .have:=hH.lt b' (hlen b' hb') (hl b' e2 h');rw[e1,p0,p1 b' e2] at e;omega
  .have:=hH.lt b (hlen b hb) (hl b e1 h);rw[e2,p0,p1 b e1] at e;omega
  .rw[p1 b e1,p1 b' e2] at e;exact hH.inj b b' (hlen b hb) (hlen b' hb') (hl b e1 h) (hl b' e2 h') e
 .by_cases e:b=d
  .subst e;rw[bO hlt,p0];show ROS c' _ _ _ (EA.put H1.o H1.n _ H.n);rw[hn,put_eq];exact hnew
  .have h0:=K.joO (hlen b hb) (p2 b e) (hν b e) (hH.ob b (hlen b hb));rw[bX e,p1 b e];by_cases hb2:az c (aa L b) b
   .have hb3:=hH.lt b (hlen b hb) hb2;show ROS c' _ _ _ (EA.put H1.o H1.n _ (c.π b));rw[aO _ _ (by omega),ho]
    .exact h0
    .intro hnz e2;exact e (hH.inj b d (hlen b hb) hlt hb2 (hdl hnz) e2)
   .exact dY (fun h=>hb2 (bJ (p2 b e) h)) h0
 .have hb:=hlen b hb;refine⟨hb,?_⟩;by_cases e:b=d
  .subst e;exact hin i k r h
  .exact lH (bX e) (hν b e) h
 .have hk:=(hH.ns.ob b i k r hb h).1;show EA.put H1.o H1.n _ k=_;rw[aO _ _ (by omega)];exact ho k fun hnz e=>hH.ns.pi b i k r hb h d hlt (hdl hnz) e.symm
 .by_cases e:b=d
  .subst e;rw[p0];exact .inl (zJ _)
  .exact .inr ⟨b,hlen b hb,hl b e h,(p1 b e).symm⟩
theorem RH.app (hH:RH c L H) {d:Nat}{t:Ty}{l:List t.den}(hd:aa L d=.row t l) {H1:Heap}(hn:H1.n=H.n) (ho:∀i,(c.nz d=true->i≠c.π d)->H1.o i=H.o i) (l':List t.den) :
 RH ⟨EA.put c.π d H.n,EA.put c.nz d true,c.Z,c.ν⟩ ((L.set d (.row t l')).map (jO d)) (H1.push (.blk t.size (l'.map t.enc) true)):=
 hH.appG (aI (by rw[hd];simp)) (fun h=>by rw[hd];exact h) hn ho (fun _ _=>rfl) (.inr ⟨put_eq _ _ _,_,rfl,bA t l',by rw[<- zR (f:=t.enc),List.take_length]⟩) (fun h=>by rw[hd] at h;exact h)
  (fun i k r h=>(eT (by rw[fO (aI (by rw[hd];simp))];rfl) h).elim)
theorem RH.cutG (hH:RH c L H) {d:Nat}{o:SO}(hlt:d<L.length) (hlv:az c (jO d o) d->az c (aa L d) d) (ho:ROS c ((L.set d o).map (jO d)) (jO d o) d (H.o (c.π d))) (hin:bP (jO d o)=false):RH c ((L.set d o).map (jO d)) H:=by
 have K:au c L c ((L.set d o).map (jO d)) (·=d):=au.app c c (fun _ _=>rfl) (fun _ _=>rfl) rfl (fun _ _=>rfl);have hlen:∀b,b<((L.set d o).map (jO d)).length->b<L.length:=fun b hb=>by simpa using hb
 have hl:∀b,az c (aa ((L.set d o).map (jO d)) b) b->az c (aa L b) b:=fun b h=>by
  by_cases e:b=d
  .subst e;rw[bO hlt] at h;exact hlv h
  .rw[bX e] at h;exact bJ rfl h
 refine⟨fun b hb h=>hH.lt b (hlen b hb) (hl b h),fun b b' hb hb' h h' e=>hH.inj b b' (hlen b hb) (hlen b' hb') (hl b h) (hl b' h') e,fun b hb=>?_,hH.hd,hH.ns.keep (fun b i k r hb h=>?_) (zJ _) (fun _ _ _ _ _ _=>rfl) (fun b hb h=>.inr ⟨b,hlen b hb,hl b h,rfl⟩)⟩
 .have h0:=hH.ob b (hlen b hb);by_cases e:b=d
  .subst e;rw[bO hlt];exact ho
  .rw[bX e];exact K.joO (hlen b hb) rfl rfl h0
 .refine⟨hlen b hb,?_⟩;by_cases e:b=d
  .subst e;exact(eT (by rw[bO hlt];exact hin) h).elim
  .exact lH (bX e) rfl h
theorem RH.app0 (hH:RH c L H) {d:Nat}{t:Ty}{l:List t.den}(hd:aa L d=.row t l):RH c ((L.set d (.row t l)).map (jO d)) H:=by
 have hlt:d<L.length:=aI (by rw[hd];simp);have h0:=hH.ob d hlt;rw[hd] at h0;exact hH.cutG hlt (fun h=>by rw[hd];exact h) h0 rfl
theorem nT (hH:RH c L H) {r:qw}(h:Gc L x=some (r,cs)) (hc:aK cs) (hx:RVS c L x a):fM H r.t.size a=some (r.l.map r.t.enc):=by
 unfold Gc at h;split at h
 .cases h;rw[hx.str];rename_i s;show (if 1=1 then some (s.map fun c=>[Lf.int .u8 c.toNat]) else none)=some ((s.map fun c=>(c.toNat:Int)).map (Ty.int .u8).enc);rw[if_pos rfl,List.map_map];rfl
 .obtain⟨w,rfl,hr⟩:=hx;have h2:=ug hH h hc hr;cases w <;> first
   |exact h2
   |(simp only[Heap.row,reduceCtorEq] at h2)
 .cases h
theorem mH {s bytes:Nat}{z:Lf}(h:fM H s b=some []) (hz:z=.nils\/z=.slz\/∃b' i n,z=.sl b' i n):eB H s bytes (.one z) b=some (.one z,H):=by
 unfold eB;rw[h];rcases hz with rfl | rfl | ⟨b',i,n,rfl⟩ <;> rfl
theorem gV {s bytes:Nat}{z:Lf}{e:List Lf}{es:List (List Lf)}(h:fM H s b=some (e::es)) (hz:z=.nils\/z=.slz) (hr:(e::es).length*bytes<=140737488355328):eB H s bytes (.one z) b=some (.one (.sl H.n 0 (e::es).length),H.push (.blk s (e::es) true)):=by
 unfold eB;rw[h];have hr:(es.length+1)*bytes<=fZ:=hr;rcases hz with rfl | rfl <;> simp only[hr,if_true] <;> rfl
theorem iG {s bytes b' i n:Nat}{e:List Lf}{es els:List (List Lf)}(h:fM H s b=some (e::es)) (ho:H.o b'=.blk s els true) (hi:i+n<=els.length) (hr:(n+(e::es).length)*bytes<=140737488355328) :
 eB H s bytes (.one (.sl b' i n)) b=some (.one (.sl H.n 0 (n+(e::es).length)),(H.set b' .dead).push (.blk s ((els.drop i).take n++e::es) true)):=by
 unfold eB;rw[h];have hr:(n+(es.length+1))*bytes<=fZ:=hr;simp only[ho,hi,hr,and_self,if_true]
 rfl
theorem DC {s bytes:Nat}{o p:Opd}(hH:RH c L H) (h:ul L s bytes x y=.ok v L' inv cs) (hc:aK cs) (hx:RVS c L x (o.ev Tm)) (hy:RVS c L y (p.ev Tm)):HOk c L H v L' inv (ah Tm H (.app s bytes o p)):=by
 have hev:ah Tm H (.app s bytes o p)=eB H s bytes (o.ev Tm) (p.ev Tm):=rfl;rw[hev];unfold ul at h;split at h
 .split at h
  .rename_i b;split at h
   .rename_i t l hb;simp only[OpR.ok.injEq] at h;obtain⟨rfl,rfl,rfl,rfl⟩:=h;obtain⟨w,hw,hr⟩:=hy;cases hr;obtain⟨z,hz,hr⟩:=hx;refine⟨.one z,H,c,?_,au.refl,⟨z,rfl,hr⟩,hH⟩;rw[hw,hz];refine mH rfl ?_;rcases hr.2 t l (asR hb) with ⟨_,_,h | h⟩ | ⟨_,h⟩
    .exact .inl h
    .exact .inr (.inl h)
    .exact .inr (.inr ⟨_,_,_,h⟩)
   .cases h
  .cases h
 .rename_i t l2 c0 hsrc;split at h
  .cases h
  .rename_i hs;have hs:=zC hs;subst hs;have nilCase:∀{z:Lf},(z=.nils\/z=.slz)->o.ev Tm=.one z->OpR.ok (.one (.osl L.length)) (L++[.row t l2]) none ((l2.length*bytes<=140737488355328)::c0)=.ok v L' inv cs->HOk c L H v L' inv (eB H t.size bytes (o.ev Tm) (p.ev Tm)):=by
    intro z hz hoz h;simp only[OpR.ok.injEq] at h;obtain⟨rfl,rfl,rfl,rfl⟩:=h;have hsr:=nT hH hsrc hc.2 hy;cases l2 with
    |nil=>rw[hoz];exact HOk.pushNil hH hz (mH hsr (by rcases hz with h | h;exact .inl h;exact .inr (.inl h)))
    | cons e l=>
      have hro:(e::l).length*bytes<=140737488355328:=hc.1;rw[hoz];exact HOk.pushRow hH rfl ((gV hsr hz (by simpa using hro)).trans (by simp))
   split at h
   .obtain⟨w,hw,hr⟩:=hx;cases hr;exact nilCase (.inl rfl) hw h
   .obtain⟨w,hw,hr⟩:=hx;cases hr;exact nilCase (.inr rfl) hw h
   .rename_i b;split at h
    .rename_i t1 l1 hb;split at h
     .rename_i hh _;obtain⟨he⟩:=hh;subst he;simp only[OpR.ok.injEq] at h;obtain⟨rfl,rfl,rfl,rfl⟩:=h;have hsr:=nT hH hsrc hc.2 hy;have hlt:b<L.length:=aI (by rw[hb];simp);obtain⟨z,hz,_,hr⟩:=hx;rw[hz];have hro:(l1.length+l2.length)*bytes<=140737488355328:=hc.1;show HOk c L H _ (L.set b (.row t (l1++l2))) (some b) _;cases l2 with
      | nil=>
        rw[List.append_nil];refine⟨.one z,H,c,mH hsr ?_,(au.app c c (fun _ _=>rfl) (fun _ _=>rfl) rfl (fun _ _=>rfl)).any (fun _ h=>congrArg some (Eq.symm h)),⟨z,rfl,by simp[Lj];exact hlt,fun t' l' hr'=>?_⟩,hH.app0 hb⟩
        .rcases hr t l1 (asR hb) with ⟨_,_,h | h⟩ | ⟨_,h⟩
         .exact .inl h
         .exact .inr (.inl h)
         .exact .inr (.inr ⟨_,_,_,h⟩)
        .have hr':bS (aa ((L.set b (.row t l1)).map (jO b)) b)=some ⟨t',l'⟩:=hr';rw[fO hlt] at hr';cases hr';exact hr t l1 (asR hb)
      | cons e l=>
        have key:∀(H1:Heap),H1.n=H.n->(∀i,(c.nz b=true->i≠c.π b)->H1.o i=H.o i)->HOk c L H (.one (.osl b)) (L.set b (.row t (l1++e::l))) (some b) (some (.one (.sl H.n 0 (l1++e::l).length),H1.push (.blk t.size ((l1++e::l).map t.enc) true))):=by
         intro H1 hn ho;refine⟨_,_,⟨EA.put c.π b H.n,EA.put c.nz b true,c.Z,c.ν⟩,rfl,(au.app c ⟨EA.put c.π b H.n,EA.put c.nz b true,c.Z,c.ν⟩ (fun b' h=>aO _ _ h) (fun b' h=>aO _ _ h) rfl (fun _ _=>rfl)).any (fun _ h=>congrArg some (Eq.symm h)),⟨_,rfl,by simp[Lj];exact hlt,fun t' l' hr'=>?_⟩,hH.app hb hn ho _⟩;have hr':bS (aa ((L.set b (.row t (l1++e::l))).map (jO b)) b)=some ⟨t',l'⟩:=hr';rw[fO hlt] at hr';cases hr';exact .inr ⟨put_eq _ _ _,by show _=Lf.sl (EA.put c.π b H.n b) 0 _;rw[put_eq]⟩
        rcases hr t l1 (asR hb) with ⟨hnz,rfl,hz2⟩ | ⟨hnz,rfl⟩
        .have hro2:(e::l).length*bytes<=140737488355328:=by simpa using hro
         have:=gV (b:=p.ev Tm) hsr hz2 (by simpa using hro2);rw[zK] at hsr;refine(congrArg (HOk c L H _ _ _) (this.trans ?_)).mpr (key H rfl fun _ _=>rfl);simp
        .rcases hH.rowAt hb with ⟨h0,_⟩ | ⟨_,_,els,k1,k2,k3,k4⟩
         .rw[hnz] at h0;cases h0
         .have:=iG (bytes:=bytes) (i:=0) (n:=l1.length) hsr k1 (by omega) (by simpa using hro);refine(congrArg (HOk c L H _ _ _) (this.trans ?_)).mpr (key (H.set (c.π b) .dead) rfl fun i hi=>aO _ _ (hi hnz));simp[k3]
     .cases h
    .cases h
   .rename_i b i n;split at h
    .rename_i t1 l1 hb;split at h
     .rename_i hh _;obtain⟨he⟩:=hh;subst he;simp only[OpR.ok.injEq] at h;obtain⟨rfl,rfl,rfl,rfl⟩:=h;obtain⟨n1,n2,hin,hro,hc0⟩:=hc;have hsr:=nT hH hsrc hc0 hy;have hlt:b<L.length:=aI (by rw[hb];simp);obtain⟨z,hz,_,rfl⟩:=hx;rw[hz];rcases hH.rowAt hb with ⟨_,h0⟩ | ⟨hnz,_,els,k1,k2,k3,k4⟩
      .exact absurd h0 n1
      .cases l2 with
       |nil=>exact absurd rfl n2
       | cons e l=>
         have:=iG (bytes:=bytes) (i:=i) (n:=n) hsr k1 (by omega) (by simpa using hro);have hen:((l1.drop i).take n).length=n:=by simp;omega
         have hel:(els.drop i).take n=((l1.drop i).take n).map t.enc:=by
          rw[List.map_take,List.map_drop,<- k3,List.drop_take,List.take_take]
          congr 1;omega
         show HOk c L H _ (L.set b (.row t ((l1.drop i).take n++e::l))) (some b) _;refine(congrArg (HOk c L H _ _ _) this).mpr ?_;refine⟨.one (.sl H.n 0 (n+(e::l).length)),_,⟨EA.put c.π b H.n,EA.put c.nz b true,c.Z,c.ν⟩,?_,(au.app c ⟨EA.put c.π b H.n,EA.put c.nz b true,c.Z,c.ν⟩ (fun b' h=>aO _ _ h) (fun b' h=>aO _ _ h) rfl (fun _ _=>rfl)).any (fun _ h=>congrArg some (Eq.symm h)),⟨_,rfl,by simp[Lj];exact hlt,fun t' l' hr'=>?_⟩,hH.app hb (H1:=H.set (c.π b) .dead) rfl (fun i hi=>aO _ _ (hi hnz)) _⟩
         .rw[hel];simp
         .have hr':bS (aa ((L.set b (.row t ((l1.drop i).take n++e::l))).map (jO b)) b)=some ⟨t',l'⟩:=hr';rw[fO hlt] at hr';cases hr';refine .inr ⟨put_eq _ _ _,?_⟩;show _=Lf.sl (EA.put c.π b H.n b) 0 _;rw[put_eq,zL,hen]
     .cases h
    .cases h
   .cases h
theorem eX {a:Ty}(h:a=a) (l:List a.den):dn h l=l:=rfl
theorem BI {s bytes:Nat}{o p:Opd}(hH:RH c L H) (h:uC L s bytes x y=some (.ok v L' inv cs)) (hc:aK cs) (hx:RVS c L x (o.ev Tm)) (hy:RVS c L y (p.ev Tm)):HOk c L H v L' inv (ah Tm H (.app s bytes o p)):=by
 have hev:ah Tm H (.app s bytes o p)=eB H s bytes (o.ev Tm) (p.ev Tm):=rfl;rw[hev];unfold uC at h;split at h
 .rename_i b b2;split at h
  .rename_i hb2;split at h
   .rename_i t l i t' m hb;split at h
    .rename_i hh _;obtain⟨he⟩:=hh;subst he;simp only[zE,OpR.ok.injEq] at h;obtain⟨rfl,rfl,rfl,rfl⟩:=h;rw[eX];have hro:(l.length+1)*bytes<=140737488355328:=hc.1;obtain⟨w,hw,hlt2,hz2⟩:=hy;obtain⟨z,hz,hlt,hr⟩:=hx;have hs2:=hH.ob b2 hlt2;rw[hb2] at hs2;have hsr:fM H 1 (p.ev Tm)=some [[.nils]]:=by
      rw[hw];rcases hz2 _ _ (by rw[hb2];rfl) with ⟨h0,_⟩ | ⟨_,rfl⟩
      .rw[hs2.1] at h0;cases h0
      .show H.row 1 (.sl (c.π b2) 0 1)=_;simp only[Heap.row,hs2.2];rfl
     rw[hz];have key:∀(H1:Heap),H1.n=H.n->(∀i,(c.nz b=true->i≠c.π b)->H1.o i=H.o i)->HOk c L H (.one (.osl b)) (L.set b (.rowh t' (l.set i m++[[]]) l.length .nils)) (some b) (some (.one (.sl H.n 0 (l.length+1)),H1.push (.blk 1 ((l.set i m).map (Ty.row t').enc++[[.nils]]) true))):=by
      intro H1 hn ho;refine⟨_,_,⟨EA.put c.π b H.n,EA.put c.nz b true,c.Z,c.ν⟩,rfl,(au.app c ⟨EA.put c.π b H.n,EA.put c.nz b true,c.Z,c.ν⟩ (fun b' h=>aO _ _ h) (fun b' h=>aO _ _ h) rfl (fun _ _=>rfl)).any (fun _ h=>congrArg some (Eq.symm h)),⟨_,rfl,by simp[Lj];exact hlt,fun t' l' hr'=>?_⟩,hH.appG hlt (fun h=>by rw[hb];exact h) hn ho (fun _ _=>rfl) ?_ (fun h=>by rw[hb] at h;exact h) (fun i k r h=>(eT (by rw[bO hlt];rfl) h).elim)⟩
      .have hr':bS (aa ((L.set b (.rowh _ (l.set i m++[[]]) l.length .nils)).map (jO b)) b)=some ⟨t',l'⟩:=hr';rw[bO hlt] at hr';cases hr';refine .inr ⟨put_eq _ _ _,?_⟩;show _=Lf.sl (EA.put c.π b H.n b) 0 _;rw[put_eq];simp
      .refine .inr ⟨put_eq _ _ _,_,rfl,by simp,.nils,rfl,?_,?_⟩
       .rw[List.set_append_right _ _ (by simp)];simp only[zR,List.length_set,Nat.sub_self,List.set_cons_zero];have:=bA (.row t') (l.set i m);unfold aD at this ⊢;rw[List.all_append,this];rfl
       .rw[List.take_of_length_le (by simp),List.map_append,List.set_append_right _ _ (by simp)];simp
     rcases hr (.row t') l (by rw[hb];rfl) with ⟨hnz,rfl,hz2⟩ | ⟨hnz,rfl⟩
     .have:=gV (b:=p.ev Tm) hsr hz2 (by simpa using hro);refine(congrArg (HOk c L H _ _ _) (this.trans ?_)).mpr (key H rfl fun _ _=>rfl);simp
     .rcases hH.rowhAt hb with ⟨h0,_⟩ | ⟨_,_,els,k1,k2⟩
      .rw[hnz] at h0;cases h0
      .have hle:=k2.len;obtain⟨_,x0,q1,q2,q3⟩:=k2;cases q1;have:=iG (bytes:=bytes) (i:=0) (n:=l.length) hsr k1 (by omega) (by simpa using hro);refine(congrArg (HOk c L H _ _ _) (this.trans ?_)).mpr (key (H.set (c.π b) .dead) rfl fun i hi=>aO _ _ (hi hnz));rw[List.drop_zero,q3,List.map_set];rfl
    .cases h
   .cases h
  .cases h
 .cases h
theorem qK {s bytes:Nat}{r:OpR}(h:uC L s bytes x y=some r):∃v L' inv cs,r=.ok v L' inv cs:=by
 unfold uC at h;split at h
 .split at h
  .split at h
   .split at h
    .cases h;exact⟨_,_,_,_,rfl⟩
    .cases h
   .cases h
  .cases h
 .cases h
theorem kV {b:Nat}{t u:Ty}{l:List (List t.den×u.den)}{h:Option Nat}(hb:aa L b=.nest t u l h):b<L.length:=aI (by rw[hb];simp)
theorem RH.open (hH:RH c L H) {b i:Nat}{t u:Ty}{l:List (List t.den×u.den)}(hb:aa L b=.nest t u l none):RH c ((L.set b (.nest t u l (some i))).map (jO (b+1000000))) H:=by
 have hlt:=kV hb;have K:=au.open (c:=c) (i:=i) hb;have hlen:∀d,d<((L.set b (.nest t u l (some i))).map (jO (b+1000000))).length->d<L.length:=fun d hd=>by simpa using hd
 have g0:aa ((L.set b (.nest t u l (some i))).map (jO (b+1000000))) b=.nest t u l (some i):=by rw[bU rfl,aM hlt];rfl
 have g1:∀d,d≠b->aa ((L.set b (.nest t u l (some i))).map (jO (b+1000000))) d=jO (b+1000000) (aa L d):=fun d hd=>by rw[bU rfl,ak hd]
 have hl:∀d,az c (aa ((L.set b (.nest t u l (some i))).map (jO (b+1000000))) d) d->az c (aa L d) d:=fun d h=>by
  by_cases e:d=b
  .subst e;rw[g0] at h;rw[hb];exact h
  .rw[g1 d e] at h;exact bJ rfl h
 refine⟨fun d hd h=>hH.lt d (hlen d hd) (hl d h),fun d d' hd hd' h h' e=>hH.inj d d' (hlen d hd) (hlen d' hd') (hl d h) (hl d' h') e,fun d hd=>?_,hH.hd,hH.ns.keep (fun d i' k r hd h=>⟨hlen d hd,?_⟩) (zJ _) (fun _ _ _ _ _ _=>rfl) (fun d hd h=>.inr ⟨d,hlen d hd,hl d h,rfl⟩)⟩
 .have h0:=hH.ob d (hlen d hd);by_cases e:d=b
  .subst e;rw[g0];rw[hb] at h0;rcases h0 with h0 | ⟨h1,els,h2,h3,h4⟩
   .exact .inl h0
   .exact .inr ⟨h1,els,h2,h3,fun i' e he=>by
     obtain⟨x,q1,q2⟩:=h4 i' e he;exact⟨x,q1,fun _=>q2 (by simp)⟩⟩
  .rw[g1 d e];exact K.joO (hlen d hd) rfl rfl h0
 .by_cases e:d=b
  .subst e;obtain⟨u',l',q,h1,h2,h3,y,h4⟩:=h;rw[g0] at h1;cases h1;exact⟨_,_,none,nv hb,by simp,h3,y,h4⟩
  .exact lH (g1 d e) rfl h
theorem RH.kill (hH:RH c L H) {k:Nat}(hn:bP (aa L k)=false):RH c (L.set k .dead) H:=by
 have K:au c L c (L.set k .dead) fun _=>False:=au.set hn fun t l h=>by cases h
 have hlen:∀d,d<(L.set k .dead).length->d<L.length:=fun d hd=>by simpa using hd
 have hl:∀d,d<L.length->az c (aa (L.set k .dead) d) d->az c (aa L d) d:=fun d hd h=>by
  by_cases e:d=k
  .subst e;rw[aM hd] at h;exact h.elim
  .rw[ak e] at h;exact h
 refine⟨fun d hd h=>hH.lt d (hlen d hd) (hl d (hlen d hd) h),fun d d' hd hd' h h' e=>hH.inj d d' (hlen d hd) (hlen d' hd') (hl d (hlen d hd) h) (hl d' (hlen d' hd') h') e,fun d hd=>?_,hH.hd,hH.ns.keep (fun d i' k' r hd h=>⟨hlen d hd,?_⟩) (zJ _) (fun _ _ _ _ _ _=>rfl) (fun d hd h=>.inr ⟨d,hlen d hd,hl d (hlen d hd) h,rfl⟩)⟩
 .by_cases e:d=k
  .subst e;rw[aM (hlen d hd)];trivial
  .rw[ak e];exact K.ro0 (hlen d hd) rfl (hH.ob d (hlen d hd))
 .by_cases e:d=k
  .subst e;exact(eT (by rw[aM (hlen d hd)];rfl) h).elim
  .exact gJ (ak e) rfl h
def dO (c:Cn) (b i:Nat) (q:Option Nat):Cn:=⟨c.π,c.nz,c.Z,fun b' i'=>if b'=b/\i'=i then q else c.ν b' i'⟩
theorem mg {b i d:Nat}{q:Option Nat}(h:d≠b):(dO c b i q).ν d=c.ν d:=by
 funext i'
 show (if d=b/\i'=i then q else c.ν d i')=_;rw[if_neg (fun e=>h e.1)]
theorem qd {b i i':Nat}{q:Option Nat}(h:i'≠i):(dO c b i q).ν b i'=c.ν b i':=by
 show (if b=b/\i'=i then q else c.ν b i')=_;rw[if_neg (fun e=>h e.2)]
theorem qy {b i:Nat}{q:Option Nat}:(dO c b i q).ν b i=q:=by
 show (if b=b/\i=i then q else c.ν b i)=_;rw[if_pos ⟨rfl,rfl⟩]
theorem au.close {b i:Nat}{q:Option Nat}{t u:Ty}{l:List (List t.den×u.den)}(hb:aa L b=.nest t u l (some i)) (p:List t.den×u.den):au c L (dO c b i q) (L.set b (.nest t u (l.set i p) none)) fun _=>False:=by
 refine⟨fun d hd _=>by simpa using hd,fun _ _ _=>rfl,fun _ _ _=>rfl,fun _ _=>rfl,fun d hd _ t' l' h=>?_,fun d hd _ _=>?_⟩
 .by_cases e:d=b
  .subst e;rw[aM hd] at h;cases h;exact⟨.pair (.row t) u,l,by rw[hb];rfl,by simp⟩
  .rw[ak e] at h;exact⟨t',l',h,rfl⟩
 .by_cases e:d=b
  .subst e;refine⟨fun i' x ⟨t',u',l',h1,_⟩=>?_,fun i' k ⟨t',u',l',h1,_⟩=>?_⟩ <;> (rw[hb] at h1; cases h1)
  .exact lT (ak e) (mg e)
theorem RH.close (hH:RH c L H) {b i:Nat}{q:Option Nat}{t u:Ty}{l:List (List t.den×u.den)}{r:List t.den}{y:u.den}{x:Lf}{els:List (List Lf)}(hb:aa L b=.nest t u l (some i)) (hi:i<l.length)
 (hels:H.o (c.π b)=.blk (1+u.size) els true) (hx:InS q r.length x)
 (hq:∀k,q=some k->k<H.n/\(∃els,H.o k=.blk t.size els true/\aD els=true/\els.take r.length=r.map t.enc)/\(∀d,d<L.length->az c (aa L d) d->c.π d≠k)/\∀d i k' r',d<L.length->Inn c L d i k' r'->k'≠k) :
 RH (dO c b i q) (L.set b (.nest t u (l.set i (r,y)) none)) (H.set (c.π b) (.blk (1+u.size) (els.set i (x::u.enc y)) true)):=by
 have hlt:=kV hb;have K:=au.close (c:=c) (q:=q) hb (r,y);have hlen:∀d,d<(L.set b (.nest t u (l.set i (r,y)) none)).length->d<L.length:=fun d hd=>by simpa using hd
 have h0:=hH.ob b hlt;rw[hb] at h0;have h0:c.nz b=true/\els.length=l.length/\∀i' e,l[i']?=some e->∃x,els[i']?=some (x::u.enc e.2)/\(some i≠some i'->InS (c.ν b i') e.1.length x):=by
  rcases h0 with ⟨_,h0⟩ | ⟨h1,els',h2,h3,h4⟩
  .rw[h0] at hi;simp at hi
  .rw[hels] at h2;cases h2;exact⟨h1,h3,h4⟩
 obtain⟨hnz,hel,hes⟩:=h0;have hlv:az c (aa L b) b:=by rw[hb];exact hnz
 have hl:∀d,d<L.length->az (dO c b i q) (aa (L.set b (.nest t u (l.set i (r,y)) none)) d) d->az c (aa L d) d:=fun d hd h=>by
  by_cases e:d=b
  .subst e;exact hlv
  .rw[ak e] at h;exact eu (c':=dO c b i q) rfl h
 have hin:∀d i' k r',d<L.length->Inn (dO c b i q) (L.set b (.nest t u (l.set i (r,y)) none)) d i' k r'->(d=b/\i'=i/\q=some k/\r'=⟨t,r⟩)\/((d≠b\/i'≠i)/\Inn c L d i' k r'):=fun d i' k r' hd h=>by
  by_cases e:d=b
  .subst e;obtain⟨u',l',q',h1,h2,h3,y',h4⟩:=h;rw[aM hd] at h1;obtain⟨rt,rl⟩:=r';cases h1;by_cases e2:i'=i
   .subst e2;rw[qy] at h3;rw[List.getElem?_set_self hi] at h4;cases h4;exact .inl ⟨rfl,rfl,h3,rfl⟩
   .rw[qd e2] at h3;rw[List.getElem?_set_ne (Ne.symm e2)] at h4;exact .inr ⟨.inr e2,_,_,_,nv hb,fun h=>e2 (Option.some.inj h).symm,h3,y',h4⟩
  .exact .inr ⟨.inl e,gJ (ak e) (mg e) h⟩
 have hob:∀k,(∀d,d<L.length->az c (aa L d) d->c.π d≠k)->(H.set (c.π b) (.blk (1+u.size) (els.set i (x::u.enc y)) true)).o k=H.o k:=fun k hk=>aO _ _ (fun e=>hk b hlt hlv e.symm)
 refine⟨fun d hd h=>hH.lt d (hlen d hd) (hl d (hlen d hd) h),fun d d' hd hd' h h' e=>hH.inj d d' (hlen d hd) (hlen d' hd') (hl d (hlen d hd) h) (hl d' (hlen d' hd') h') e,fun d hd=>?_,Hd.set hH.hd (hH.lt b hlt hlv) _,⟨fun d i' k r' hd h=>?_,fun d i' k r' hd h b' hb' hlb=>?_,fun d i' k r' d' i2 r2 hd hd' h h'=>?_⟩⟩
 .have hdL:=hlen d hd;by_cases e:d=b
  .subst e;rw[aM hdL];show ROS _ _ _ d (EA.put H.o (c.π d) _ (c.π d));rw[put_eq];refine .inr ⟨hnz,_,rfl,by simpa using hel,fun i' e' he=>?_⟩;by_cases e2:i'=i
   .subst e2;rw[List.getElem?_set_self hi] at he;cases he;exact⟨x,List.getElem?_set_self (by omega),fun _=>by rw[qy];exact hx⟩
   .rw[List.getElem?_set_ne (Ne.symm e2)] at he;obtain⟨x',q1,q2⟩:=hes i' e' he;exact⟨x',by rw[List.getElem?_set_ne (Ne.symm e2)];exact q1,fun _=>by rw[qd e2];exact q2 (fun h=>e2 (Option.some.inj h).symm)⟩
  .rw[ak e];have h0:=K.ro0 hdL (mg e) (hH.ob d hdL);by_cases hb2:az c (aa L d) d
   .show ROS _ _ _ d (EA.put H.o (c.π b) _ (c.π d));rw[aO _ _ (fun e2=>e (hH.inj d b hdL hlt hb2 hlv e2))];exact h0
   .exact dY (fun h=>hb2 (eu (c':=dO c b i q) rfl h)) h0
 .rcases hin d i' k r' (hlen d hd) h with ⟨_,_,hk,rfl⟩ | ⟨_,h⟩
  .obtain⟨g1,g2,g3,_⟩:=hq k hk;rw[hob k g3];exact⟨g1,g2⟩
  .obtain⟨g1,g2⟩:=hH.ns.ob d i' k r' (hlen d hd) h;rw[hob k (hH.ns.pi d i' k r' (hlen d hd) h)];exact⟨g1,g2⟩
 .have hb':=hlen b' hb';rcases hin d i' k r' (hlen d hd) h with ⟨_,_,hk,rfl⟩ | ⟨_,h⟩
  .exact(hq k hk).2.2.1 b' hb' (hl b' hb' hlb)
  .exact hH.ns.pi d i' k r' (hlen d hd) h b' hb' (hl b' hb' hlb)
 .rcases hin d i' k r' (hlen d hd) h with ⟨e1,e2,hk,_⟩ | ⟨hne,h⟩ <;> rcases hin d' i2 k r2 (hlen d' hd') h' with ⟨e3,e4,hk',_⟩ | ⟨hne',h'⟩
  .exact⟨e1.trans e3.symm,e2.trans e4.symm⟩
  .exact absurd rfl ((hq k hk).2.2.2 d' i2 k r2 (hlen d' hd') h')
  .exact absurd rfl ((hq k hk').2.2.2 d i' k r' (hlen d hd) h)
  .exact hH.ns.inj d i' k r' d' i2 r2 (hlen d hd) (hlen d' hd') h h'
theorem au.inner {b i:Nat}{t u:Ty}{l:List (List t.den×u.den)}{r r':List t.den}{y:u.den}(hb:aa L b=.nest t u l none) (hi:l[i]?=some (r,y)) (hr:r'.length=r.length):au c L c (L.set b (.nest t u (l.set i (r',y)) none)) fun _=>False:=by
 have hlt:=kV hb;have hil:i<l.length:=(zI.1 hi).1;refine au.setN (fun t' l' h=>by cases h;exact⟨.pair (.row t) u,l,by rw[hb];rfl,by simp⟩) ⟨fun i' x ⟨t',u',l',h1,e,h2,h3⟩=>?_,fun i' k ⟨t',u',l',h1,h2,h3⟩=>?_⟩
 .rw[hb] at h1;cases h1;refine⟨t,u,_,aM hlt,?_⟩;by_cases e2:i'=i
  .subst e2;rw[hi] at h2;cases h2;exact⟨_,List.getElem?_set_self hil,by rw[hr];exact h3⟩
  .exact⟨e,by rw[List.getElem?_set_ne (Ne.symm e2)];exact h2,h3⟩
 .rw[hb] at h1;cases h1;exact⟨t,u,_,aM hlt,by simpa using h2,h3⟩
theorem RH.inner (hH:RH c L H) {b i k:Nat}{t u:Ty}{l:List (List t.den×u.den)}{r r':List t.den}{y:u.den}{els:List (List Lf)}(hb:aa L b=.nest t u l none) (hi:l[i]?=some (r,y)) (hr:r'.length=r.length) (hk:c.ν b i=some k)
 (h1:aD els=true) (h2:els.take r'.length=r'.map t.enc):RH c (L.set b (.nest t u (l.set i (r',y)) none)) (H.set k (.blk t.size els true)):=by
 have hlt:=kV hb;have hil:i<l.length:=(zI.1 hi).1;have K:=au.inner (c:=c) hb hi hr;have hI:Inn c L b i k ⟨t,r⟩:=⟨u,l,none,nv hb,by simp,hk,y,hi⟩;have hlen:∀d,d<(L.set b (.nest t u (l.set i (r',y)) none)).length->d<L.length:=fun d hd=>by simpa using hd
 have hl:∀d,d<L.length->az c (aa (L.set b (.nest t u (l.set i (r',y)) none)) d) d->az c (aa L d) d:=fun d hd h=>by
  by_cases e:d=b
  .subst e;rw[aM hd] at h;rw[hb];exact h
  .rw[ak e] at h;exact h
 have hin:∀d i' k2 r2,d<L.length->Inn c (L.set b (.nest t u (l.set i (r',y)) none)) d i' k2 r2->(d=b/\i'=i/\k2=k/\r2=⟨t,r'⟩)\/((d≠b\/i'≠i)/\Inn c L d i' k2 r2):=fun d i' k2 r2 hd h=>by
  by_cases e:d=b
  .subst e;obtain⟨u',l',q',g1,g2,g3,y',g4⟩:=h;rw[aM hd] at g1;obtain⟨rt,rl⟩:=r2;cases g1;by_cases e2:i'=i
   .subst e2;rw[hk] at g3;rw[List.getElem?_set_self hil] at g4;cases g4;cases g3;exact .inl ⟨rfl,rfl,rfl,rfl⟩
   .rw[List.getElem?_set_ne (Ne.symm e2)] at g4;exact .inr ⟨.inr e2,_,_,_,nv hb,by simp,g3,y',g4⟩
  .exact .inr ⟨.inl e,gJ (ak e) rfl h⟩
 refine⟨fun d hd h=>hH.lt d (hlen d hd) (hl d (hlen d hd) h),fun d d' hd hd' h h' e=>hH.inj d d' (hlen d hd) (hlen d' hd') (hl d (hlen d hd) h) (hl d' (hlen d' hd') h') e,fun d hd=>?_,Hd.set hH.hd (hH.ns.ob b i k _ hlt hI).1 _,⟨fun d i' k2 r2 hd h=>?_,fun d i' k2 r2 hd h b' hb' hlb=>?_,fun d i' k2 r2 d' i2 r3 hd hd' h h'=>?_⟩⟩
 .have hdL:=hlen d hd;by_cases hb2:az c (aa L d) d
  .show ROS _ _ _ d (EA.put H.o k _ (c.π d));rw[aO _ _ (hH.ns.pi b i k _ hlt hI d hdL hb2)];have h0:=hH.ob d hdL;by_cases e:d=b
   .subst e;rw[aM hdL];rw[hb] at h0;rcases h0 with ⟨_,h0⟩ | ⟨g1,es,g2,g3,g4⟩
    .rw[h0] at hil;simp at hil
    .refine .inr ⟨g1,es,g2,by simpa using g3,fun i' e' he=>?_⟩;by_cases e2:i'=i
     .subst e2;rw[List.getElem?_set_self hil] at he;cases he;obtain⟨x,q1,q2⟩:=g4 i' _ hi;exact⟨x,q1,fun _=>by rw[hr];exact q2 (by simp)⟩
     .rw[List.getElem?_set_ne (Ne.symm e2)] at he;exact g4 i' e' he
   .rw[ak e];exact K.ro0 hdL rfl h0
  .by_cases e:d=b
   .subst e;rw[hb] at hb2;have h0:=hH.ob d hdL;rw[hb] at h0;rcases h0 with ⟨_,h0⟩ | h0
    .rw[h0] at hil;simp at hil
    .exact absurd h0.1 hb2
   .rw[ak e];exact dY hb2 (K.ro0 hdL rfl (hH.ob d hdL))
 .rcases hin d i' k2 r2 (hlen d hd) h with ⟨_,_,rfl,rfl⟩ | ⟨hne,h⟩
  .refine⟨(hH.ns.ob b i k2 _ hlt hI).1,els,?_,h1,h2⟩;exact put_eq _ _ _
  .obtain⟨g1,g2⟩:=hH.ns.ob d i' k2 r2 (hlen d hd) h;refine⟨g1,?_⟩;rw[show (H.set k (.blk t.size els true)).o k2=H.o k2 from aO _ _ fun e=>?_]
   .exact g2
   .subst e;obtain⟨p1,p2⟩:=hH.ns.inj d i' k2 r2 b i _ (hlen d hd) hlt h hI;rcases hne with hne | hne
    .exact hne p1
    .exact hne p2
 .have hb':=hlen b' hb';rcases hin d i' k2 r2 (hlen d hd) h with ⟨_,_,rfl,_⟩ | ⟨_,h⟩
  .exact hH.ns.pi b i k2 _ hlt hI b' hb' (hl b' hb' hlb)
  .exact hH.ns.pi d i' k2 r2 (hlen d hd) h b' hb' (hl b' hb' hlb)
 .have h1:Inn c L d i' k2 r2\/Inn c L d i' k2 ⟨t,r⟩:=by
   rcases hin d i' k2 r2 (hlen d hd) h with ⟨rfl,rfl,rfl,_⟩ | ⟨_,h⟩
   .exact .inr hI
   .exact .inl h
  have h1':Inn c L d' i2 k2 r3\/Inn c L d' i2 k2 ⟨t,r⟩:=by
   rcases hin d' i2 k2 r3 (hlen d' hd') h' with ⟨rfl,rfl,rfl,_⟩ | ⟨_,h⟩
   .exact .inr hI
   .exact .inl h
  rcases h1 with h1 | h1 <;> rcases h1' with h1' | h1' <;> exact hH.ns.inj d i' k2 _ d' i2 _ (hlen d hd) (hlen d' hd') h1 h1'
theorem El {s bytes:Nat}{o p:Opd}(hH:RH c L H) (h:um L s bytes x y=some (.ok v L' inv cs)) (hc:aK cs) (hx:RVS c L x (o.ev Tm)) (hy:RVS c L y (p.ev Tm)):HOk c L H v L' inv (ah Tm H (.app s bytes o p)):=by
 have hev:ah Tm H (.app s bytes o p)=eB H s bytes (o.ev Tm) (p.ev Tm):=rfl;rw[hev];unfold um at h;split at h
 .rename_i b b2;split at h
  .rename_i t u l u' us hb hb2;split at h
   .rename_i hh _;obtain⟨he⟩:=hh;subst he;split at h
    .rename_i hs;have hs:=zC hs;subst hs;simp only[zE,OpR.ok.injEq] at h;obtain⟨rfl,rfl,rfl,rfl⟩:=h;rw[eX];obtain⟨hro,hne,_⟩:=hc;obtain⟨w,hw,hlt2,hz2⟩:=hy;obtain⟨z,hz,hlt,hr⟩:=hx;have hs2:=hH.ob b2 hlt2;rw[hb2] at hs2;have hsr:fM H (1+u'.size) (p.ev Tm)=some (us.map fun x=>.nils::u'.enc x):=by
      rw[hw];rcases hz2 _ _ (by rw[hb2];rfl) with ⟨h0,_⟩ | ⟨_,rfl⟩
      .rw[hs2.1] at h0;cases h0
      .show H.row (1+u'.size) (.sl (c.π b2) 0 us.length)=_;simp only[Heap.row,hs2.2];rw[if_pos (by simp),List.drop_zero,List.take_of_length_le (by simp)]
     rw[hz]
     let ν':Nat->Nat->Option Nat:=EA.put c.ν b fun i=>if i<l.length then c.ν b i else none
     have νb:∀i,ν' b i=if i<l.length then c.ν b i else none:=fun i=>congrFun (put_eq c.ν b fun i=>if i<l.length then c.ν b i else none) i
     let c':Cn:=⟨EA.put c.π b H.n,EA.put c.nz b true,c.Z,ν'⟩
     have key:∀(H1:Heap) (els:List (List Lf)),els.length=l.length->(∀i e,l[i]?=some e->∃x,els[i]?=some (x::u'.enc e.2)/\((none:Option Nat)≠some i->InS (c.ν b i) e.1.length x))->H1.n=H.n->(∀i,(c.nz b=true->i≠c.π b)->H1.o i=H.o i)->
      HOk c L H (.one (.osl b)) (L.set b (.nest t u' (l++us.map fun x=>([],x)) none)) (some b) (some (.one (.sl H.n 0 (l.length+us.length)),H1.push (.blk (1+u'.size) (els++us.map fun x=>.nils::u'.enc x) true))):=by
      intro H1 els hl1 hl2 hn ho;refine⟨_,_,c',rfl,(au.app c c' (fun b' h=>aO _ _ h) (fun b' h=>aO _ _ h) rfl (fun b' h=>aO _ _ h)).any (fun _ h=>congrArg some (Eq.symm h)),⟨_,rfl,by simp[Lj];exact hlt,fun t' l' hr'=>?_⟩,hH.appG hlt (fun h=>by rw[hb];exact h) hn ho (fun b' h=>aO _ _ h) (.inr ⟨put_eq _ _ _,_,rfl,by simp[hl1],fun i e he=>?_⟩) (fun h=>by rw[hb] at h;exact h) (fun i k r hI=>?_)⟩
      .have hr':bS (aa ((L.set b (.nest t u' (l++us.map fun x=>([],x)) none)).map (jO b)) b)=some ⟨t',l'⟩:=hr';rw[bO hlt] at hr';cases hr';refine .inr ⟨put_eq _ _ _,?_⟩;show _=Lf.sl (EA.put c.π b H.n b) 0 _;rw[put_eq];simp
      .rcases Nat.lt_or_ge i l.length with hi | hi
       .rw[zV hi] at he;obtain⟨x,q1,q2⟩:=hl2 i e he;refine⟨x,by rw[zV (by omega)];exact q1,fun _=>?_⟩;show InS (ν' b i) _ _;rw[νb,if_pos hi];exact q2 (by simp)
       .rw[List.getElem?_append_right hi,List.getElem?_map,zD] at he;obtain⟨y0,h1,rfl⟩:=he;refine⟨.nils,by rw[List.getElem?_append_right (by omega),hl1,List.getElem?_map,h1];rfl,fun _=>?_⟩;show InS (ν' b i) _ _;rw[νb,if_neg (by omega)];exact⟨rfl,.inl rfl⟩
      .obtain⟨u2,l2,q,g1,g2,g3,y0,g4⟩:=hI;rw[bO hlt] at g1;obtain⟨rt,rl⟩:=r;cases g1;have g3:ν' b i=some k:=g3;rw[νb] at g3;by_cases hi:i<l.length
       .rw[if_pos hi] at g3;rw[zV hi] at g4;exact⟨_,_,none,nv hb,by simp,g3,y0,g4⟩
       .rw[if_neg hi] at g3;cases g3
     cases us with
     |nil=>exact absurd rfl hne
     | cons e0 us=>
       have h0:=hH.ob b hlt;rw[hb] at h0;rcases hr (.pair (.row t) u') l (by rw[hb];rfl) with ⟨hnz,rfl,hz2⟩ | ⟨hnz,rfl⟩
       .have:=gV (b:=p.ev Tm) (bytes:=bytes) hsr hz2 (by simpa using hro);refine(congrArg (HOk c L H _ _ _) (this.trans ?_)).mpr (key H [] rfl (fun i e he=>by simp at he) rfl fun _ _=>rfl);simp
       .rcases h0 with ⟨h0,_⟩ | ⟨_,els,k1,k2,k3⟩
        .rw[hnz] at h0;cases h0
        .have:=iG (bytes:=bytes) (i:=0) (n:=l.length) hsr k1 (by omega) (by simpa using hro);refine(congrArg (HOk c L H _ _ _) (this.trans ?_)).mpr (key (H.set (c.π b) .dead) els k2 k3 rfl fun i hi=>aO _ _ (hi hnz));rw[List.drop_zero,List.take_of_length_le (by omega)];simp
    .cases h
   .cases h
  .cases h
 .rename_i b i;split at h
  .rename_i t u l hb;split at h
   .rename_i t' m c0 hsrc;split at h
    .rename_i hh _;obtain⟨he⟩:=hh;subst he;split at h
     .rename_i hs;have hs:=zC hs;subst hs;simp only[zE,OpR.ok.injEq] at h;obtain⟨rfl,rfl,rfl,rfl⟩:=h;rw[eX];obtain⟨hil,hne,hro,hc0⟩:=hc;have hsr:=nT hH hsrc hc0 hy;obtain⟨z,hz,hlt,t2,u2,l2,hb',e,hei,hin⟩:=hx;rw[hb] at hb';cases hb';rw[hz];obtain⟨r,y0⟩:=e;have hg:l.getD i ([],u.dflt)=(r,y0):=by rw[zA,hei];rfl
      rw[hg] at hro ⊢;have hro:(r.length+m.length)*bytes<=140737488355328:=hro;show HOk c L H (.one (.osl L.length)) (L.set b (.nest t' u l (some i))++[.row t' (r++m)]) (some (b+1000000)) _;have hO:=hH.open (i:=i) hb;have hL1:((L.set b (.nest t' u l (some i))).map (jO (b+1000000))).length=L.length:=by simp
      have hLj:Lj (some (b+1000000)) (L.set b (.nest t' u l (some i))++[.row t' (r++m)])=(L.set b (.nest t' u l (some i))).map (jO (b+1000000))++[.row t' (r++m)]:=by simp[Lj,jO]
      have hKo:=au.open (c:=c) (i:=i) hb;have hI0:∀d i' k r',d<L.length->Inn c ((L.set b (.nest t' u l (some i))).map (jO (b+1000000))) d i' k r'->Inn c L d i' k r'/\(d≠b\/i'≠i):=fun d i' k r' hd h=>by
       by_cases e:d=b
       .subst e;obtain⟨u2,l2,q,g1,g2,g3,y1,g4⟩:=h;rw[bU rfl,aM hlt] at g1;obtain⟨rt,rl⟩:=r';cases g1;exact⟨⟨_,_,none,nv hb,by simp,g3,y1,g4⟩,.inr fun e=>g2 (by rw[e])⟩
       .exact⟨lH (by rw[bU rfl,ak e]) rfl h,.inl e⟩
      have hlv0:∀d,d<L.length->az c (aa ((L.set b (.nest t' u l (some i))).map (jO (b+1000000))) d) d->az c (aa L d) d:=fun d hd h=>by
       by_cases e:d=b
       .subst e;rw[bU rfl,aM hlt] at h;rw[hb];exact h
       .rw[bU rfl,ak e] at h;exact bJ rfl h
      generalize (L.set b (.nest t' u l (some i))).map (jO (b+1000000))=L1 at hO hL1 hLj hKo hI0 hlv0;have key:∀H1:Heap,H1.n=H.n->RH c L1 H1->HOk c L H (.one (.osl L.length)) (L.set b (.nest t' u l (some i))++[.row t' (r++m)]) (some (b+1000000)) (some (.one (.sl H.n 0 (r.length+m.length)),H1.push (.blk t'.size ((r++m).map t'.enc) true))):=by
       intro H1 hn hR;have h1:(dC c L1.length H1.n ld0).nz L1.length=true:=put_eq _ _ _;have h2:(dC c L1.length H1.n ld0).π L1.length=H1.n:=put_eq _ _ _;refine⟨_,_,dC c L1.length H1.n ld0,rfl,?_,?_,?_⟩
       .rw[hLj];exact(hKo.trans ((au.push c L1 H1.n ld0 _).any fun _ h=>h.elim) (Nat.le_of_eq hL1.symm)).any fun _ h=>congrArg some (Eq.symm h)
       .rw[hLj,<- hL1];refine⟨_,rfl,by simp,fun t' l' hr=>?_⟩;rw[dx] at hr;cases hr;exact .inr ⟨h1,by rw[h2,hn];simp⟩
       .rw[hLj];exact hR.push (w:=ld0) (.inr ⟨h1,_,rfl,bA t' _,by rw[<- zR (f:=t'.enc),List.take_length]⟩)
      cases m with
      |nil=>exact absurd rfl hne
      | cons m0 ms=>
        cases hq:c.ν b i with
        | none=>
          rw[hq] at hin;obtain⟨hr0,hzn⟩:=hin;have hr0:r=[]:=zT hr0;subst hr0;have:=gV (b:=p.ev Tm) (bytes:=bytes) hsr hzn (by simpa using hro);refine(congrArg (HOk c L H _ _ _) (this.trans ?_)).mpr (key H rfl hO);simp
        | some k=>
          rw[hq] at hin;have hin:z=.sl k 0 r.length:=hin;subst hin;have hI:Inn c L b i k ⟨t',r⟩:=⟨u,l,none,nv hb,by simp,hq,y0,hei⟩;obtain⟨hkn,els,k1,k2,k3⟩:=hH.ns.ob b i k _ hlt hI;have hle:r.length<=els.length:=by
           have:=congrArg List.length k3;simp at this;omega
          have:=iG (bytes:=bytes) (i:=0) (n:=r.length) hsr k1 (by omega) (by simpa using hro);refine(congrArg (HOk c L H _ _ _) (this.trans ?_)).mpr (key (H.set k .dead) rfl (hO.heap rfl (Hd.set hH.hd hkn _) (fun d hd hl=>?_) fun d i' k' r' hd hI'=>?_))
          .rw[List.drop_zero,k3];simp
          .have hd:d<L.length:=by omega
           exact aO _ _ (hH.ns.pi b i k _ hlt hI d hd (hlv0 d hd hl))
          .have hd:d<L.length:=by omega
           obtain⟨g1,g2⟩:=hI0 d i' k' r' hd hI';refine aO _ _ fun e=>?_
           subst e;obtain⟨p1,p2⟩:=hH.ns.inj d i' k' r' b i _ hd hlt g1 hI;rcases g2 with g2 | g2
           .exact g2 p1
           .exact g2 p2
     .cases h
    .cases h
   .cases h
  .cases h
 .cases h
theorem qz {s bytes:Nat}{r:OpR}(h:um L s bytes x y=some r):∃v L' inv cs,r=.ok v L' inv cs:=by
 unfold um at h
 repeat' split at h
 all_goals first
  |(cases h;exact⟨_,_,_,_,rfl⟩)
  |(cases h;done)
theorem Fz {s bytes:Nat}{o p:Opd}(hH:RH c L H) (h:Dp L s bytes x y=.ok v L' inv cs) (hc:aK cs) (hx:RVS c L x (o.ev Tm)) (hy:RVS c L y (p.ev Tm)):HOk c L H v L' inv (ah Tm H (.app s bytes o p)):=by
 unfold Dp at h;split at h
 .rename_i r hr;subst h;exact El hH hr hc hx hy
 .split at h
  .rename_i r hr;subst h;exact BI hH hr hc hx hy
  .exact DC hH h hc hx hy
end
end Go.EA
end
section
namespace Go.EA
section
variable {c c':Cn} {L L':List SO} {H:Heap} {T:ST} {Tm:Tm} {v x y:SV} {a b:AV} {inv:Option Nat} {cs:List Prop}
theorem wY {n:Nat}{o p:Opd}(hH:RH c L H) (h:kX L n x y=.ok v L' inv cs) (hc:aK cs) (hx:RVS c L x (o.ev Tm)) (hy:RVS c L y (p.ev Tm)):HOk c L H v L' inv (ah Tm H (.store n o p)):=by
 unfold kX at h;split at h
 .rename_i b i j q hq;obtain⟨w,hw,hr⟩:=hy.cells hq;obtain⟨z,hz,hlt,rfl⟩:=hx;split at h
  .rename_i hn;have hn:=zC hn;have hwn:w.length=n:=by rw[<- hr.1];exact hn
   split at h
   .rename_i t l hb;split at h
    .rename_i p' hp';split at h
     .rename_i e he;simp only[OpR.ok.injEq] at h;obtain⟨rfl,rfl,rfl,rfl⟩:=h;have hi:i<l.length:=hc.1;obtain⟨els,k1,k2,k3,k4,k5⟩:=hH.elemAt hb hi;obtain⟨g1,g2⟩:=je hp' (Ty.cells_rel (c:=c) (L:=L) t (l.getD i t.dflt)) hr;obtain⟨zs,g3,g4⟩:=Ty.parse_rel t he g2;have hzs:=g4.nil_inv;subst hzs;rw[List.append_nil] at g3;have hnz:c.nz b=true:=by
       rcases hH.rowAt hb with ⟨_,h0⟩ | ⟨h0,_⟩
       .rw[h0] at hi;simp at hi
       .exact h0
      refine⟨und,H.set (c.π b) (.blk t.size (els.set i (t.enc e)) true),c,?_,(au.set (by rw[hb];rfl) fun t' l' hr=>?_).any (fun _ h=>h.elim),⟨_,rfl,ae.nil⟩,?_⟩
      .simp only[ah,hz,hw,hwn,if_true,Heap.storeC,k1,k5];rw[if_pos (by omega),<- hwn,g3];rfl
      .cases hr;exact⟨t,l,asR hb,by simp⟩
      .refine hH.set hlt (by rw[hb];exact hnz) (fun t' l' hr=>by cases hr;exact⟨t,l,asR hb,by simp⟩) (fun _=>.inr ⟨hnz,_,rfl,?_,?_⟩) (fun h=>absurd hnz h) (by rw[hb];rfl) rfl
       .rw[aD,List.all_eq_true] at k2 ⊢;intro q hq;rcases List.mem_or_eq_of_mem_set hq with hq | rfl
        .exact k2 q hq
        .exact Lf.closed_row t e
       .rw[List.length_set,List.take_set,k3];exact(List.map_set (f:=t.enc)).symm
     .cases h
    .cases h
   .rename_i p0 hb;split at h
    .split at h
     .rename_i p' hp';simp only[OpR.ok.injEq] at h;obtain⟨rfl,rfl,rfl,rfl⟩:=h;have:=hH.ob b hlt;rw[hb] at this;obtain⟨ls,k1,k2⟩:=this;obtain⟨g1,g2⟩:=je hp' k2 hr;have hlen:p'.length=p0.length:=by
       have e1:=g2.1;have e2:=k2.1;simp at e1;omega
      have K:au c L c (L.set b (.cell p')) fun _=>False:=au.set (by rw[hb];rfl) fun t' l' hr=>by cases hr
      refine⟨und,H.set (c.π b) (.blk p0.length ([ls].set 0 (ls.take j++w++ls.drop (j+w.length))) true),c,?_,K.any (fun _ h=>h.elim),⟨_,rfl,ae.nil⟩,?_⟩
      .simp only[ah,hz,hw,hwn,if_true,Heap.storeC,k1,List.getElem?_cons_zero];rw[if_pos (by omega)];rfl
      .exact hH.set hlt (by rw[hb];trivial) (fun t' l' hr=>by cases hr) (fun _=>⟨_,by rw[hlen];rfl,K.rls0 g2⟩) (fun h=>absurd trivial h) (by rw[hb];rfl) rfl
     .cases h
    .cases h
   .cases h
  .cases h
 .cases h
theorem xB {n:Nat}{o p:Opd}(hH:RH c L H) (h:lC L n x y=some (.ok v L' inv cs)) (hc:aK cs) (hx:RVS c L x (o.ev Tm)) (hy:RVS c L y (p.ev Tm)):HOk c L H v L' inv (ah Tm H (.store n o p)):=by
 unfold lC at h;split at h
 .rename_i b i j k;obtain⟨z,hz,hlt,rfl⟩:=hx;obtain⟨w,hw,hr⟩:=hy;split at h
  .split at h
   .rename_i t l hb;simp only[zE,OpR.ok.injEq] at h;obtain⟨rfl,rfl,rfl,rfl⟩:=h;have hi:i<l.length:=hc.1;obtain⟨els,k1,k2,k3,k4,k5⟩:=hH.elemAt hb hi;have hnz:c.nz b=true:=by
     rcases hH.rowAt hb with ⟨_,h0⟩ | ⟨h0,_⟩
     .rw[h0] at hi;simp at hi
     .exact h0
    have K:au c L c (L.set b (.rowh t l i (.osl k))) fun _=>False:=au.set (by rw[hb];rfl) fun t' l' hr=>by cases hr;exact⟨.row t,l,asR hb,rfl⟩
    refine⟨und,H.set (c.π b) (.blk 1 (els.set i [w]) true),c,?_,K.any (fun _ h=>h.elim),⟨_,rfl,ae.nil⟩,?_⟩
    .simp only[ah,hz,hw,AV.cells?,zM,List.length_nil,Nat.zero_add,if_true,Heap.storeC,k1,k5]
     rfl
    .refine hH.set hlt (by rw[hb];exact hnz) (fun t' l' hr=>by cases hr;exact⟨.row t,l,asR hb,rfl⟩) (fun _=>.inr ⟨hnz,_,rfl,hi,w,K.rl0 hr,?_,?_⟩) (fun h=>absurd hnz h) (by rw[hb];rfl) rfl
     .rw[List.set_set];rw[aD,List.all_eq_true] at k2 ⊢;intro q hq;rcases List.mem_or_eq_of_mem_set hq with hq | rfl
      .exact k2 q hq
      .rfl
     .rw[List.take_set,k3]
   .rename_i t l i' s hb;simp only[zE,OpR.ok.injEq] at h;obtain⟨rfl,rfl,rfl,rfl⟩:=h;obtain⟨hi,rfl,_⟩:=hc;rcases hH.rowhAt hb with ⟨_,h0⟩ | ⟨hnz,_,els,k1,k2⟩
    .rw[h0] at hi;simp at hi
    have K:au c L c (L.set b (.rowh t l i (.osl k))) fun _=>False:=au.set (by rw[hb];rfl) fun t' l' hr=>by cases hr;exact⟨.row t,l,by rw[hb];rfl,rfl⟩
    obtain⟨x0,e1,_⟩:=k2.at hi;refine⟨und,H.set (c.π b) (.blk 1 (els.set i [w]) true),c,?_,K.any (fun _ h=>h.elim),⟨_,rfl,ae.nil⟩,?_⟩
    .simp only[ah,hz,hw,AV.cells?,zM,List.length_nil,Nat.zero_add,if_true,Heap.storeC,k1,e1]
     rfl
    .obtain⟨_,x1,_,q2,q3⟩:=k2;refine hH.set hlt (by rw[hb];exact hnz) (fun t' l' hr=>by cases hr;exact⟨.row t,l,by rw[hb];rfl,rfl⟩) (fun _=>.inr ⟨hnz,_,rfl,hi,w,K.rl0 hr,?_,?_⟩) (fun h=>absurd hnz h) (by rw[hb];rfl) rfl
     .rw[List.set_set];exact q2
     .rw[List.take_set,q3,List.set_set]
   .cases h
  .cases h
 .cases h
theorem nE {n:Nat}{r:OpR}(h:lC L n x y=some r):∃v L' inv cs,r=.ok v L' inv cs:=by
 unfold lC at h;split at h
 .split at h
  .split at h
   .cases h;exact⟨_,_,_,_,rfl⟩
   .cases h;exact⟨_,_,_,_,rfl⟩
   .cases h
  .cases h
 .cases h
theorem xD {n:Nat}{o p:Opd}(hH:RH c L H) (h:lI L n x y=some (.ok v L' inv cs)) (hc:aK cs) (hx:RVS c L x (o.ev Tm)) (hy:RVS c L y (p.ev Tm)):HOk c L H v L' inv (ah Tm H (.store n o p)):=by
 unfold lI at h;split at h
 .rename_i b i j;obtain⟨z,hz,hlt,rfl⟩:=hx;split at h
  .rename_i t u l h0 hb;have h0b:=hH.ob b hlt;rw[hb] at h0b;have atI:∀{i:Nat},i<l.length->c.nz b=true/\∃els r y0 x0,H.o (c.π b)=.blk (1+u.size) els true/\els.length=l.length/\l[i]?=some (r,y0)/\els[i]?=some (x0::u.enc y0)/\l.getD i ([],u.dflt)=(r,y0)/\(h0≠some i->InS (c.ν b i) r.length x0)/\∀i' e,l[i']?=some e->∃x,els[i']?=some (x::u.enc e.2)/\(h0≠some i'->InS (c.ν b i') e.1.length x):=by
    intro i hi;rcases h0b with ⟨_,h1⟩ | ⟨h1,els,h2,h3,h4⟩
    .rw[h1] at hi;simp at hi
    .obtain⟨x0,q1,q2⟩:=h4 i l[i] (zB hi);exact⟨h1,els,l[i].1,l[i].2,x0,h2,h3,zB hi,q1,by rw[zA,zB hi];rfl,q2,h4⟩
   split at h
   .split at h
    .rename_i i' k hn;have hn:=zC hn;subst hn;split at h
     .rename_i t' m hk;split at h
      .rename_i hh _;obtain⟨he⟩:=hh;subst he;simp only[zE,OpR.ok.injEq] at h;obtain⟨rfl,rfl,rfl,rfl⟩:=h;rw[eX];obtain⟨hi,rfl,_⟩:=hc;obtain⟨w,hw,hltk,hr⟩:=hy;obtain⟨hnz,els,r,y0,x0,k1,k2,k3,k4,k5,_,_⟩:=atI hi;rw[k5];have hbk:b≠k:=fun e=>by rw[e,hk] at hb;cases hb
       have hL0:aa (L.set k .dead) b=.nest t' u l (some i):=by rw[ak hbk];exact hb
       have hkn:bP (aa L k)=false:=by rw[hk];rfl
       have hR:=hH.kill hkn;have hrow:=hH.rowAt hk;have hlv0:∀d,d<L.length->az c (aa (L.set k .dead) d) d->d≠k/\az c (aa L d) d:=fun d hd hl=>by
        by_cases e:d=k
        .subst e;rw[aM hd] at hl;exact hl.elim
        .rw[ak e] at hl;exact⟨e,hl⟩
       have hI0:∀d i k' r',d<L.length->Inn c (L.set k .dead) d i k' r'->Inn c L d i k' r':=fun d i k' r' hd hI=>by
        by_cases e:d=k
        .subst e;exact(eT (by rw[aM hd];rfl) hI).elim
        .exact gJ (ak e) rfl hI
       have hev:ah Tm H (.store 1 o p)=some (und,H.set (c.π b) (.blk (1+u.size) (els.set i (w::u.enc y0)) true)):=by
        simp only[ah,hz,hw,AV.cells?,zM,List.length_nil,Nat.zero_add,if_true,Heap.storeC,k1,k4];rw[if_pos (by omega)];rfl
       have main:∀q,InS q m.length w->(∀k',q=some k'->k'<H.n/\(∃els,H.o k'=.blk t'.size els true/\aD els=true/\els.take m.length=m.map t'.enc)/\(∀d,d<(L.set k .dead).length->az c (aa (L.set k .dead) d) d->c.π d≠k')/\∀d i2 k2 r',d<(L.set k .dead).length->Inn c (L.set k .dead) d i2 k2 r'->k2≠k')->
        HOk c L H (.tup []) ((L.set k .dead).set b (.nest t' u (l.set i (m,y0)) none)) none (ah Tm H (.store 1 o p)):=fun q h1 h2=>by
        rw[hev];exact⟨_,_,dO c b i q,rfl,((au.set hkn fun t l h=>by cases h).trans (au.close hL0 _) (by simp)).any (fun _ h=>h.elim),⟨_,rfl,ae.nil⟩,hR.close hL0 hi k1 h1 h2⟩
       rcases hr t' m (asR hk) with ⟨_,rfl,hw0⟩ | ⟨hnk,hw0⟩
       .exact main none ⟨rfl,hw0⟩ (fun k' h=>by cases h)
       .refine main (some (c.π k)) hw0 fun k' h=>?_
        cases h;rcases hrow with ⟨g,_⟩ | ⟨_,g1,els',g2,g3,g4,_⟩
        .rw[hnk] at g;cases g
        .have hlk:az c (aa L k) k:=by rw[hk];exact hnk
         refine⟨g1,⟨els',g2,g3,g4⟩,fun d hd hl e=>?_,fun d i2 k2 r' hd hI e=>?_⟩
         .have hd:d<L.length:=by simpa using hd
          obtain⟨p1,p2⟩:=hlv0 d hd hl;exact p1 (hH.inj d k hd hltk p2 hlk e)
         .have hd:d<L.length:=by simpa using hd
          exact hH.ns.pi d i2 k2 r' hd (hI0 d i2 k2 r' hd hI) k hltk hlk e.symm
      .cases h
     .cases h
    .rename_i i' hn;have hn:=zC hn;subst hn;simp only[zE,OpR.ok.injEq] at h;obtain⟨rfl,rfl,rfl,rfl⟩:=h;obtain⟨hi,rfl,_⟩:=hc;obtain⟨w,hw,hr⟩:=hy;cases hr;obtain⟨hnz,els,r,y0,x0,k1,k2,k3,k4,k5,_,_⟩:=atI hi;rw[k5];have hev:ah Tm H (.store 1 o p)=some (und,H.set (c.π b) (.blk (1+u.size) (els.set i (.nils::u.enc y0)) true)):=by
      simp only[ah,hz,hw,AV.cells?,zM,List.length_nil,Nat.zero_add,if_true,Heap.storeC,k1,k4];rw[if_pos (by omega)];rfl
     rw[hev];exact⟨_,_,dO c b i none,rfl,(au.close hb _).any (fun _ h=>h.elim),⟨_,rfl,ae.nil⟩,hH.close hb hi k1 (r:=[]) ⟨rfl,.inl rfl⟩ fun k h=>by cases h⟩
    .cases h
   .rename_i j;split at h
    .rename_i q hq;obtain⟨w,hw,hr⟩:=hy.cells hq;split at h
     .rename_i hn;have hn:=zC hn;have hwn:w.length=n:=by rw[<- hr.1];exact hn
      split at h
      .rename_i p' hp';split at h
       .rename_i e he;simp only[zE,OpR.ok.injEq] at h;obtain⟨rfl,rfl,rfl,rfl⟩:=h;have hi:i<l.length:=hc.1;obtain⟨hnz,els,r,y0,x0,k1,k2,k3,k4,k5,k6,k7⟩:=atI hi;rw[k5] at hp' ⊢;obtain⟨g1,g2⟩:=je hp' (Ty.cells_rel (c:=c) (L:=L) u y0) hr;obtain⟨zs,g3,g4⟩:=Ty.parse_rel u he g2;have hzs:=g4.nil_inv;subst hzs;rw[List.append_nil] at g3;have hev:ah Tm H (.store n o p)=some (und,H.set (c.π b) (.blk (1+u.size) (els.set i (x0::u.enc e)) true)):=by
         simp only[ah,hz,hw,hwn,if_true,Heap.storeC,k1,k4];rw[if_pos (by simp;omega),<- hwn,<- g3];simp[Nat.add_right_comm j 1]
        rw[hev];have K:au c L c (L.set b (.nest t u (l.set i (r,e)) h0)) fun _=>False:=by
         refine au.setN (fun t' l' h=>by cases h;exact⟨.pair (.row t) u,l,by rw[hb];rfl,by simp⟩) ⟨fun i' x ⟨t',u',l',h1,e2,h2,h3⟩=>?_,fun i' k ⟨t',u',l',h1,h2,h3⟩=>?_⟩
         .rw[hb] at h1;cases h1;refine⟨t,u,_,aM hlt,?_⟩;by_cases e3:i'=i
          .subst e3;rw[k3] at h2;cases h2;exact⟨_,List.getElem?_set_self hi,h3⟩
          .exact⟨e2,by rw[List.getElem?_set_ne (Ne.symm e3)];exact h2,h3⟩
         .rw[hb] at h1;cases h1;exact⟨t,u,_,aM hlt,by simpa using h2,h3⟩
        refine⟨_,_,c,rfl,K.any (fun _ h=>h.elim),⟨_,rfl,ae.nil⟩,hH.setN hlt (by rw[hb];exact hnz) (fun _=>.inr ⟨hnz,_,rfl,by simpa using k2,fun i' e' he'=>?_⟩) (fun h=>absurd hnz h) (fun i' k r' hI=>?_) K⟩
        .by_cases e3:i'=i
         .subst e3;rw[List.getElem?_set_self hi] at he';cases he';exact⟨x0,List.getElem?_set_self (by omega),k6⟩
         .rw[List.getElem?_set_ne (Ne.symm e3)] at he';obtain⟨x,q1,q2⟩:=k7 i' e' he';exact⟨x,by rw[List.getElem?_set_ne (Ne.symm e3)];exact q1,q2⟩
        .obtain⟨u2,l2,q,g1,g2,g3,y1,g4⟩:=hI;rw[aM hlt] at g1;obtain⟨rt,rl⟩:=r';cases g1;by_cases e3:i'=i
         .subst e3;rw[List.getElem?_set_self hi] at g4;cases g4;exact⟨_,_,_,nv hb,g2,g3,y0,k3⟩
         .rw[List.getElem?_set_ne (Ne.symm e3)] at g4;exact⟨_,_,_,nv hb,g2,g3,y1,g4⟩
       .cases h
      .cases h
     .cases h
    .cases h
  .cases h
 .rename_i b i j off;split at h
  .rename_i t u l hb;obtain⟨z,hz,hlt,k,⟨t2,u2,l2,hb',hi2,hν⟩,rfl⟩:=hx;rw[hb] at hb';cases hb';split at h
   .rename_i q hq;obtain⟨w,hw,hr⟩:=hy.cells hq;split at h
    .rename_i hn;have hn:=zC hn;have hwn:w.length=n:=by rw[<- hr.1];exact hn
     split at h
     .rename_i p' hp';split at h
      .rename_i e he;simp only[zE,OpR.ok.injEq] at h;obtain⟨rfl,rfl,rfl,rfl⟩:=h;obtain⟨hi,hj,_⟩:=hc;obtain⟨⟨r,y0⟩,hei⟩:∃e,l[i]?=some e:=⟨_,zB hi⟩;have hg:l.getD i ([],u.dflt)=(r,y0):=by rw[zA,hei];rfl
       rw[hg] at hp' hj ⊢;have hj:j<r.length:=hj;obtain⟨hkn,els,k1,k2,k3⟩:=hH.ns.ob b i k ⟨t,r⟩ hlt ⟨u,l,none,nv hb,by simp,hν,y0,hei⟩;have hle:r.length<=els.length:=by
        have:=congrArg List.length k3;simp at this;omega
       have k5:els[j]?=some (t.enc (r.getD j t.dflt)):=by rw[kZ k3 (by simpa using hj),getD_map hj]
       obtain⟨g1,g2⟩:=je hp' (Ty.cells_rel (c:=c) (L:=L) t (r.getD j t.dflt)) hr;obtain⟨zs,g3,g4⟩:=Ty.parse_rel t he g2;have hzs:=g4.nil_inv;subst hzs;rw[List.append_nil] at g3;have hev:ah Tm H (.store n o p)=some (und,H.set k (.blk t.size (els.set j (t.enc e)) true)):=by
        simp only[ah,hz,hw,hwn,if_true,Heap.storeC,k1,k5];rw[if_pos (by omega),<- hwn,g3];rfl
       rw[hev];refine⟨_,_,c,rfl,(au.inner hb hei (by simp)).any (fun _ h=>h.elim),⟨_,rfl,ae.nil⟩,hH.inner hb hei (by simp) hν ?_ ?_⟩
       .rw[aD,List.all_eq_true] at k2 ⊢;intro q hq;rcases List.mem_or_eq_of_mem_set hq with hq | rfl
        .exact k2 q hq
        .exact Lf.closed_row t e
       .have k3:els.take r.length=r.map t.enc:=k3;rw[List.length_set,List.take_set,k3];exact(List.map_set (f:=t.enc)).symm
      .cases h
     .cases h
    .cases h
   .cases h
  .cases h
 .cases h
theorem nu {n:Nat}{r:OpR}(h:lI L n x y=some r):(∃v L' inv cs,r=.ok v L' inv cs)\/r=.no:=by
 unfold lI at h
 repeat' split at h
 all_goals first
  |(cases h;exact .inl ⟨_,_,_,_,rfl⟩)
  |(cases h;exact .inr rfl)
  |(cases h;done)
theorem Bo {n:Nat}{o p:Opd}(hH:RH c L H) (h:ow L n x y=.ok v L' inv cs) (hc:aK cs) (hx:RVS c L x (o.ev Tm)) (hy:RVS c L y (p.ev Tm)):HOk c L H v L' inv (ah Tm H (.store n o p)):=by
 unfold ow at h;split at h
 .rename_i r hr;subst h;exact xD hH hr hc hx hy
 .split at h
  .rename_i r hr;subst h;exact xB hH hr hc hx hy
  .exact wY hH h hc hx hy
theorem HOk.pushNilr (hH:RH c L H) {w2:Option (AV×Heap)}{n:Nat}(e:w2=some (.one (.sl H.n 0 n),H.push (.blk 1 (List.replicate n [.nils]) true))):HOk c L H (.one (.osl L.length)) (L++[.nilr n]) none w2:=by
 have h1:(dC c L.length H.n ld0).nz L.length=true:=put_eq _ _ _;have h2:(dC c L.length H.n ld0).π L.length=H.n:=put_eq _ _ _;refine HOk.push hH (w:=ld0) e ⟨h1,rfl⟩ ⟨_,rfl,by simp,fun t' l' hr=>?_⟩;rw[dx] at hr;cases hr;exact .inr ⟨h1,by rw[h2];simp⟩
theorem HOk.pushNrow (hH:RH c L H) {u:Ty}{us:List u.den}{w2:Option (AV×Heap)}{n:Nat}(hn:n=us.length) (e:w2=some (.one (.sl H.n 0 n),H.push (.blk (1+u.size) (us.map fun x=>.nils::u.enc x) true))):HOk c L H (.one (.osl L.length)) (L++[.nrow u us]) none w2:=by
 subst hn;have h1:(dC c L.length H.n ld0).nz L.length=true:=put_eq _ _ _;have h2:(dC c L.length H.n ld0).π L.length=H.n:=put_eq _ _ _;refine HOk.push hH (w:=ld0) e ⟨h1,rfl⟩ ⟨_,rfl,by simp,fun t' l' hr=>?_⟩;rw[dx] at hr;cases hr;exact .inr ⟨h1,by rw[h2]⟩
theorem sW:∀{z:List Lf}{t:Ty},lM z=some t->t.enc t.dflt=z:=by
 intro z
 induction z with
 |nil=>intro t h;simp[lM] at h
 | cons e z ih=>
   intro t h;unfold lM at h;split at h
   all_goals first
    |(cases h;done)
    |skip
   .rename_i heq;cases heq;cases h;rfl
   .rename_i heq;cases heq;cases h;rfl
   .rename_i heq;cases heq;cases h;rfl
   .rename_i heq;cases heq;obtain⟨t',ht,rfl⟩:=zD.1 h;have:=ih ht;simp only[Ty.enc,Ty.dflt,this];rfl
   .rename_i heq;cases heq;obtain⟨t',ht,rfl⟩:=zD.1 h;have:=ih ht;simp only[Ty.enc,Ty.dflt,this];rfl
   .rename_i heq;cases heq;obtain⟨t',ht,rfl⟩:=zD.1 h;have:=ih ht;simp only[Ty.enc,Ty.dflt,this];rfl
theorem sV {α:Type}(n:Nat) (x:α):wM n x=List.replicate n x:=by induction n with | zero=>rfl | succ n ih=>rw[wM,ih];rfl
theorem vS (hT:RT c L T Tm) {t:Ty}:∀{ps:List (Nat×Opd)}{l l':List t.den},uE T t l ps=some l'->fP Tm t.size (l.map t.enc) ps=some (l'.map t.enc)/\l'.length=l.length
 |[],l,l',h=>by simp only[uE,zE] at h;subst h;exact⟨rfl,rfl⟩
 | (i,x)::ps,l,l',h=>by
   simp only[uE] at h;split at h
   .rename_i p hp;split at h
    .rename_i e he;split at h
     .rename_i hi;obtain⟨w,hw,hr⟩:=(hT.opd x).cells hp;obtain⟨zs,g3,g4⟩:=Ty.parse_rel t he hr;have hzs:=g4.nil_inv;subst hzs;rw[List.append_nil] at g3;subst g3;obtain⟨k1,k2⟩:=vS hT h;have hi:i<l.length:=zW hi;refine⟨?_,by rw[k2,List.length_set]⟩;simp only[fP,hw];rw[if_pos ⟨by simpa using hi,Ty.enc_len t e⟩,<- List.map_set];exact k1
     .cases h
    .cases h
   .cases h
theorem wB {s n:Nat}{z:List Lf}{ps:List (Nat×Opd)}(hT:RT c L T Tm) (hH:RH c L H) (h:kG T L s z n ps=.ok v L' inv cs) (hc:aK cs):HOk c L H v L' inv (ah Tm H (.rowLit s z n ps)):=by
 unfold kG at h;split at h
 .rename_i t ht;split at h
  .rename_i es hs hes;have hs:=zC hs;subst hs;simp only[OpR.ok.injEq] at h;obtain⟨rfl,rfl,rfl,rfl⟩:=h;obtain⟨k1,k2⟩:=vS hT hes;rw[sV,List.map_replicate,sW ht] at k1;rw[sV,List.length_replicate] at k2;exact HOk.pushRow hH k2.symm (by simp only[ah,k1,Option.map_some])
  .cases h
 .split at h
  .rename_i o _;split at h
   .rename_i ho;simp only[OpR.ok.injEq] at h;obtain⟨rfl,rfl,rfl,rfl⟩:=h;have:=hT.opd o;rw[ho] at this;obtain⟨w,hw,hr⟩:=this;cases hr;refine HOk.pushNilr hH ?_;simp only[ah,fP,hw,AV.cells?]
    rfl
   .rename_i t l ho;simp only[OpR.ok.injEq] at h;obtain⟨rfl,rfl,rfl,rfl⟩:=h;have:=hT.opd o;rw[ho] at this;obtain⟨w,hw,hr⟩:=this;cases hr;refine HOk.pushRow hH (n:=1) rfl ?_;simp only[ah,fP,hw,AV.cells?]
    rfl
   .cases h
  .rename_i o p _;split at h
   .rename_i t l t' m ho hp;split at h
    .rename_i hh _;obtain⟨he⟩:=hh;subst he;simp only[OpR.ok.injEq] at h;obtain⟨rfl,rfl,rfl,rfl⟩:=h;have h1:=hT.opd o;rw[ho] at h1;obtain⟨w,hw,hr⟩:=h1;cases hr;have h2:=hT.opd p;rw[hp] at h2;obtain⟨w,hw2,hr⟩:=h2;cases hr;refine HOk.pushRow hH (n:=2) rfl ?_;simp only[ah,fP,hw,hw2,AV.cells?]
     rfl
    .cases h
   .cases h
  .rename_i zr o _ _;split at h
   .rename_i u cs' hu ho;split at h
    .rename_i e hs hp;have hs:=zC hs;subst hs;simp only[OpR.ok.injEq] at h;obtain⟨rfl,rfl,rfl,rfl⟩:=h;have h1:=hT.opd o;rw[ho] at h1;obtain⟨w,hw,hr⟩:=h1;obtain⟨w0,ws,rfl,hr0,hr1⟩:=hr.cons_inv;cases hr0;obtain⟨zs,g3,g4⟩:=Ty.parse_rel u hp hr1;have hzs:=g4.nil_inv;subst hzs;rw[List.append_nil] at g3;subst g3;refine HOk.pushNrow hH (us:=[e]) rfl ?_;have hl:(Lf.nils::u.enc e).length=1+u.size:=by rw[zM,Ty.enc_len];omega
     simp only[ah,fP,hw,AV.cells?,List.length_replicate];rw[if_pos ⟨by omega,hl⟩];rfl
    .cases h
   .rename_i cs' hu ho;split at h
    .rename_i hs hcl;have hs:=zC hs;subst hs;simp only[OpR.ok.injEq] at h;obtain⟨rfl,rfl,rfl,rfl⟩:=h;have h1:=hT.opd o;rw[ho] at h1;obtain⟨w,hw,hr⟩:=h1;have h1:(dC c L.length H.n ld0).nz L.length=true:=put_eq _ _ _;have h2:(dC c L.length H.n ld0).π L.length=H.n:=put_eq _ _ _;refine HOk.push hH (w:=ld0) (z:=.blk cs'.length [w] true) (av:=.one (.sl H.n 0 1)) ?_ ⟨h1,hcl,w,rfl,jm hcl hr⟩ ⟨_,rfl,by simp,fun t' l' hr=>?_⟩
     .simp only[ah,fP,hw,AV.cells?,List.length_replicate];rw[if_pos ⟨by omega,hr.1.symm⟩];rfl
     .rw[dx] at hr;cases hr;exact .inr ⟨h1,by rw[h2];rfl⟩
    .cases h
   .cases h
  .cases h
theorem RH.cutZ (hH:RH c L H) {d:Nat}{t:Ty}{l:List t.den}(hd:aa L d=.row t l):RH c ((L.set d (.row t [])).map (jO d)) H:=by
 have hlt:d<L.length:=aI (by rw[hd];simp);have h0:=hH.ob d hlt;rw[hd] at h0;refine hH.cutG hlt (fun h=>by rw[hd];exact h) ?_ rfl;rcases h0 with ⟨h1,_⟩ | ⟨h1,els,h2,h3,_⟩
 .exact .inl ⟨h1,rfl⟩
 .exact .inr ⟨h1,els,h2,h3,rfl⟩
theorem Fv {k:nJ}{lo hi mx:Option Opd}(h:cutZ T k lo hi mx=true) (hT:RT c L T Tm):k=.slc/\lo=none/\mx=none/\∀d,bound Tm d hi=some 0:=by
 unfold cutZ at h;split at h
 .split at h
  .rename_i x _ hx;exact⟨rfl,rfl,rfl,fun d=>pJ hx (hT.opd x)⟩
  .cases h
 .cases h
theorem Dk {k:nJ}{s:Nat}{o:Opd}{lo hi mx:Option Opd}(hT:RT c L T Tm) (hH:RH c L H) (hz:cutZ T k lo hi mx=true) (h:qO L s x=.ok v L' inv cs) (hc:aK cs) (hx:RVS c L x (o.ev Tm)):HOk c L H v L' inv (ah Tm H (.slice k s o lo hi mx)):=by
 obtain⟨rfl,rfl,rfl,hb0⟩:=Fv hz hT;unfold qO at h;split at h
 .rename_i b;split at h
  .rename_i t l hb;split at h
   .rename_i hs;have hs:=zC hs;simp only[OpR.ok.injEq] at h;obtain⟨rfl,rfl,rfl,rfl⟩:=h;obtain⟨w,hw,hlt,hr⟩:=hx;have h0:0<l.length:=hc.1;have hl:l≠[]:=by rintro rfl;simp at h0
    rcases hr t l (asR hb) with ⟨_,rfl,_⟩ | ⟨hnz,rfl⟩
    .simp at h0
    have hblk:=gW hH hb hl;rw[hs] at hblk;refine⟨.one (.sl (c.π b) 0 0),H,c,?_,(au.app c c (fun _ _=>rfl) (fun _ _=>rfl) rfl (fun _ _=>rfl)).any (fun _ h=>congrArg some (Eq.symm h)),⟨_,rfl,by simp[Lj];exact hlt,fun t' l' hr'=>?_⟩,hH.cutZ hb⟩
    .simp only[ah,dh,hw,hblk,if_true,hb0,show bound Tm 0 none=some 0 from rfl,zJ,Nat.zero_le,and_self,Option.map_some,Nat.add_zero,Nat.sub_zero]
    .have hr':bS (aa ((L.set b (.row t [])).map (jO b)) b)=some ⟨t',l'⟩:=hr';rw[fO hlt] at hr';cases hr';exact .inr ⟨hnz,rfl⟩
   .cases h
  .cases h
 .obtain⟨w,hw,hr⟩:=hx;cases hr;simp only[rok,OpR.ok.injEq] at h;obtain⟨rfl,rfl,rfl,rfl⟩:=h;refine⟨.one .nils,H,c,?_,au.refl,⟨_,rfl,rfl⟩,hH⟩;simp only[ah,dh,hw,hb0,show bound Tm 0 none=some 0 from rfl,Option.map_some]
 .cases h
theorem Et {s bytes:Nat}{z:List Lf}{o p:Opd}(hH:RH c L H) (h:uQ L s z bytes x y=.ok v L' inv cs) (hc:aK cs) (hx:RVS c L x (o.ev Tm)) (hy:RVS c L y (p.ev Tm)):HOk c L H v L' inv (ah Tm H (.mksl s z bytes o p)):=by
 unfold uQ at h;split at h
 .rename_i t l m ht hl hm;split at h
  .rename_i hs;have hs:=zC hs;subst hs;simp only[OpR.ok.injEq] at h;obtain⟨rfl,rfl,rfl,rfl⟩:=h;obtain⟨k1,e1⟩:=dG hl hx;obtain⟨k2,e2⟩:=dG hm hy;have hcc:0<=l/\l<=m/\m*bytes<=140737488355328/\m<=140737488355328:=hc.1;have h1:(m.toNat:Int)=m:=Int.toNat_of_nonneg (by omega);have h2:m.toNat*bytes<=fZ:=by
    have:((m.toNat*bytes:Nat):Int)<=140737488355328:=by rw[Int.natCast_mul,h1];exact hcc.2.2.1
    exact Int.ofNat_le.1 this
   have h3:m.toNat<=fZ:=by
    show m.toNat<=140737488355328;omega
   have h4:l.toNat<=m.toNat:=by omega
   refine HOk.pushRow hH (by simp) (n:=l.toNat) ?_;simp only[ah,e1,e2,fQ hcc.1,fQ (show 0<=m by omega)];rw[if_pos ⟨h4,h2,h3⟩,List.map_replicate,sW ht]
  .cases h
 .rename_i l m ht hl hm;split at h
  .simp only[OpR.ok.injEq] at h;obtain⟨rfl,rfl,rfl,rfl⟩:=h;obtain⟨k1,e1⟩:=dG hl hx;obtain⟨k2,e2⟩:=dG hm hy;have hcc:0<=l/\l=m/\m*bytes<=140737488355328/\m<=140737488355328:=hc.1;obtain⟨h0,rfl,hb,hm2⟩:=hcc;have h1:(l.toNat:Int)=l:=Int.toNat_of_nonneg (by omega);have h2:l.toNat*bytes<=fZ:=by
    have:((l.toNat*bytes:Nat):Int)<=140737488355328:=by rw[Int.natCast_mul,h1];exact hb
    exact Int.ofNat_le.1 this
   have h3:l.toNat<=fZ:=by
    show l.toNat<=140737488355328;omega
   refine HOk.pushNilr hH ?_;simp only[ah,e1,e2,fQ h0];rw[if_pos ⟨zJ _,h2,h3⟩]
  .cases h
 .cases h
theorem Bl (k:IntKind) (o:Opd):∀av H',ah Tm H (.wrapI k o)=some (av,H')->H'=H:=by
 intro av H' h;simp only[ah] at h;split at h <;> cases h
 rfl
theorem Heap.set_self {H:Heap}{b:Nat}{o:AO}(h:H.o b=o):H.set b o=H:=by
 subst h;unfold Heap.set EA.put
 congr
 funext j
 split
 .rename_i e;rw[e]
 .rfl
theorem Heap.set_set (H:Heap) (b:Nat) (x y:AO):(H.set b x).set b y=H.set b y:=by
 unfold Heap.set EA.put;simp only[Heap.mk.injEq,true_and]
 funext j
 split
 .rfl
 .rename_i e;simp[e]
theorem yU {b s:Nat}{z:List Lf}:∀(n i:Nat) {H:Heap}{els:List (List Lf)},H.o b=.blk s els true->i+n<=els.length->(∀k e,i<=k->k<i+n->els[k]?=some e->e.length=z.length)->
 H.clrC b i z n=some (H.set b (.blk s (els.take i++(List.replicate n z++els.drop (i+n))) true))
 | 0,i,H,els,h,hl,he=>by
   simp only[Heap.clrC,List.replicate_zero,List.nil_append,Nat.add_zero,List.take_append_drop,zE];exact(Heap.set_self h).symm
 | n+1,i,H,els,h,hl,he=>by
   have hi:i<els.length:=by omega
   have h1:=he i els[i] (zJ _) (by omega) (zB hi);have hst:H.storeC b i 0 z=some (H.set b (.blk s (els.set i z) true)):=by
    simp only[Heap.storeC,h,zB hi];rw[if_pos (by omega),List.take_zero,List.nil_append,Nat.zero_add,List.drop_of_length_le (by omega),List.append_nil]
   simp only[Heap.clrC,hst];rw[yU n (i+1) (H:=H.set b (.blk s (els.set i z) true)) (put_eq _ _ _) (by rw[List.length_set];omega) (fun k e h2 h3 h4=>by
    rw[List.getElem?_set_ne (by omega)] at h4;exact he k e (by omega) (by omega) h4),Heap.set_set]
   congr 2
   rw[List.drop_set_of_lt (by omega),show i+1+n=i+(n+1) by omega]
   congr 1
   rw[List.take_add_one,List.take_set_of_le (zJ _),List.getElem?_set_self hi,zO]
   congr 1
theorem Gt {s:Nat}{z:List Lf}{o:Opd}(hH:RH c L H) (h:EU L s z x=.ok v L' inv cs) (hc:aK cs) (hx:RVS c L x (o.ev Tm)):HOk c L H v L' inv (ah Tm H (.clr s z o)):=by
 unfold EU at h;split at h
 .rename_i b i n t ht;split at h
  .rename_i t' l hsz hb;split at h
   .rename_i heq _;obtain rfl:=heq.down;simp only[OpR.ok.injEq] at h;obtain⟨rfl,rfl,rfl,rfl⟩:=h;obtain⟨h0,hl,_⟩:=hc;obtain⟨y,hy,hlt,rfl⟩:=hx;have hsz:=zC hsz;obtain⟨els,k1,k2,k3,k4,_⟩:=hH.elemAt hb h0;have hnz:c.nz b=true:=by
     rcases hH.rowAt hb with ⟨_,h1⟩ | ⟨h1,_⟩
     .rw[h1] at h0;simp at h0
     .exact h1
    have hz:=sW ht;have hels:els=l.map t.enc++els.drop l.length:=by rw[<- k3,List.take_append_drop]
    have hce:=yU (z:=z) n i k1 (by omega) (fun k e h2 h3 h4=>by
     have:k<l.length:=by omega
     rw[kZ k3 (by simpa using this),List.getElem?_map,zB this] at h4;simp only[Option.map_some,zE] at h4;rw[<- h4,<- hz,Ty.enc_len,Ty.enc_len])
    have e1:els.take i=(l.take i).map t.enc:=by
     rw[hels,List.take_append_of_le_length (by simp;omega),List.map_take]
    have e2:els.drop (i+n)=(l.drop (i+n)).map t.enc++els.drop l.length:=by
     conv=>lhs;rw[hels]
     rw[List.drop_append_of_le_length (by simp;omega),List.map_drop]
    refine⟨und,H.set (c.π b) (.blk t.size (els.take i++(List.replicate n z++els.drop (i+n))) true),c,?_,(au.set (by rw[hb];rfl) fun t' l' hr=>?_).any (fun _ h=>h.elim),⟨_,rfl,ae.nil⟩,?_⟩
    .simp only[ah,hy,vM,k1,hsz,if_true,hce];rfl
    .cases hr;exact⟨t,l,asR hb,by simp;omega⟩
    .refine hH.set hlt (by rw[hb];exact hnz) (fun t' l' hr=>by cases hr;exact⟨t,l,asR hb,by simp;omega⟩) (fun _=>.inr ⟨hnz,_,rfl,?_,?_⟩) (fun h=>absurd hnz h) (by rw[hb];rfl) rfl
     .rw[aD,List.all_eq_true] at k2 ⊢;intro q hq;rcases zX.1 hq with hq | hq
      .exact k2 q (List.mem_of_mem_take hq)
      .rcases zX.1 hq with hq | hq
       .rw[(List.mem_replicate.1 hq).2,<- hz];exact Lf.closed_row t _
       .exact k2 q (List.mem_of_mem_drop hq)
     .rw[e1,e2,<- hz,<- List.map_replicate (f:=t.enc)];simp only[List.map_append,<- zO];exact List.take_left' (by simp)
   .cases h
  .cases h
 .cases h
theorem uu {t:Ty}(h:t.isOne=true) (x:t.den):t.enc x=[t.lf x]/\∃e,t.cells x=[e]/\RL' c L e (t.lf x):=by
 cases t <;> first | (cases h; done) | exact⟨rfl,_,rfl,rfl⟩
theorem pu (kk:PK):(aW kk).isOne=true:=by cases kk <;> rfl
theorem jd (kk:PK) (x:(aW kk).den):fu kk ((aW kk).lf x)=true:=by cases kk <;> simp[fu,aW,Ty.lf]
theorem yG (kk:PK) (a b:(aW kk).den):Lf.same ((aW kk).lf a) ((aW kk).lf b)=(aW kk).beq a b:=by cases kk <;> simp[aW,Ty.lf,Lf.same,Ty.beq]
theorem mI {t:Ty}(h:t.isOne=true) {k:SL}{q:t.den}(hp:t.parse [k]=some (q,[])) {y:Lf}(hy:RL' c L k y):y=t.lf q:=by
 obtain⟨zs,e,hz⟩:=Ty.parse_rel (c:=c) (L:=L) t hp (ae.cons hy ae.nil);rw[hz.nil_inv,List.append_nil,(uu (c:=c) (L:=L) h q).1] at e;exact List.head_eq_of_cons_eq e
theorem qM (kk:PK) {vt:Ty}:∀(es:List ((aW kk).den×vt.den)) (q:(aW kk).den),jY (es.map fun p=>((aW kk).lf p.1,vt.lf p.2)) ((aW kk).lf q)=((aW kk).mget es q).map vt.lf
 |[],q=>rfl
 | e::es,q=>by
   have:=qM kk es q;simp only[jY,zK,List.find?_cons,yG,Ty.mget] at this ⊢;cases h:(aW kk).beq e.1 q with
   |true=>rfl
   |false=>exact this
theorem qW (kk:PK) {vt:Ty}:∀(es:List ((aW kk).den×vt.den)) (q:(aW kk).den) (w:vt.den),fD (es.map fun p=>((aW kk).lf p.1,vt.lf p.2)) ((aW kk).lf q) (vt.lf w)=((aW kk).mput es q w).map fun p=>((aW kk).lf p.1,vt.lf p.2)
 |[],q,w=>rfl
 | e::es,q,w=>by
   simp only[zK,fD,yG,Ty.mput];cases h:(aW kk).beq e.1 q with
   |true=>rfl
   |false=>simp[qW kk es q w]
theorem xX (kk:PK) {vt:Ty}(es:List ((aW kk).den×vt.den)):(es.map fun p=>((aW kk).lf p.1,vt.lf p.2)).all (fun e=>fu kk e.1)=true:=by
 rw[List.all_map,List.all_eq_true];exact fun p _=>jd kk p.1
theorem Eh {ok:Bool}{e b:SL}{y z:Lf}{w:Option (AV×Heap)}(hH:RH c L H) (h:lkp L ok e b=.ok v L' inv cs) (he:RL' c L e y) (hb:RL' c L b z) (hw:w=some (if ok then .tup [.one y,.one z] else .one y,H)):HOk c L H v L' inv w:=by
 cases ok
 .simp only[lkp,ro1,OpR.ok.injEq] at h;obtain⟨rfl,rfl,rfl,rfl⟩:=h;exact⟨_,_,c,hw,au.refl,⟨_,rfl,he⟩,hH⟩
 .simp only[lkp,rok,OpR.ok.injEq] at h;obtain⟨rfl,rfl,rfl,rfl⟩:=h;exact⟨_,_,c,hw,au.refl,⟨_,rfl,ae.cons ⟨_,rfl,he⟩ (ae.cons ⟨_,rfl,hb⟩ ae.nil)⟩,hH⟩
theorem uU (hH:RH c L H) {m:Nat}{o:SO}(h:aa L m=o) (ho:o≠.dead):m<L.length/\ROS c L o m (H.o (c.π m)):=by
 have hl:m<L.length:=aI (by rw[h];exact ho);have:=hH.ob m hl;rw[h] at this;exact⟨hl,this⟩
theorem FE {z:Lf}{t:Ty}(h:lM [z]=some t):t.isOne=true/\z=t.lf t.dflt:=by
 unfold lM at h;split at h <;> first
  |(cases h;done)
  |(rename_i e;cases e;cases h;exact⟨rfl,rfl⟩)
  |(rename_i e;cases e)
theorem wU {kk:PK}{z:Lf}{ok:Bool}{x i:SV}{ox oi:Opd}(hH:RH c L H) (h:kY L kk z ok x i=.ok v L' inv cs) (hx:RVS c L x (ox.ev Tm)) (hi:RVS c L i (oi.ev Tm)):HOk c L H v L' inv (ah Tm H (.lookup kk z ox oi ok)):=by
 unfold kY at h;split at h
 case h_2=>cases h
 rename_i m k;obtain⟨xm,hxe,hml,rfl⟩:=hx;obtain⟨ky,hie,hk⟩:=hi;split at h
 case h_2=>cases h
 rename_i q hp;have:=mI (pu kk) hp hk;subst this;split at h
 .rename_i ho;obtain⟨_,hob⟩:=uU hH ho (by simp);have hob:H.o (c.π m)=.map []:=hob;refine Eh (y:=z) (z:=.bool false) hH h (oP z) rfl ?_;simp only[ah,hxe,hie,hob,jd,List.all_nil,Bool.and_self,if_true];cases ok <;> rfl
 .rename_i kt vt es ho;obtain⟨_,o1,o2,hob⟩:=uU hH ho (by simp);split at h
  case h_2=>cases h
  rename_i hh vt' _ hz;obtain⟨he⟩:=hh;subst he;split at h
  case h_2=>cases h
  rename_i hh' _;obtain⟨he'⟩:=hh';subst he';split at h
  case h_2=>cases h
  rename_i e hce;obtain⟨_,e2,he2,hr2⟩:=uu (c:=c) (L:=L) o2 (((aW kk).mget es q).getD vt.dflt);have hce:vt.cells (((aW kk).mget es q).getD vt.dflt)=[e]:=hce;rw[hce] at he2;cases he2;refine Eh (z:=.bool ((aW kk).mget es q).isSome) hH h hr2 rfl ?_;simp only[ah,hxe,hie,hob,jd,xX,Bool.and_self,if_true,qM];cases hg:(aW kk).mget es q with
  | none=>
    simp only[Option.map_none,Option.getD_none,Option.isSome_none];rw[<- (FE hz).2]
  |some w=>simp only[Option.map_some,Option.getD_some,Option.isSome_some]
 .cases h
theorem tN {x:SL}{t:Ty}(h:Jq x=some t):t.isOne=true:=by
 unfold Jq at h;split at h <;> cases h <;> rfl
theorem wN {kk:PK}{x i y:SV}{ox oi oy:Opd}(hH:RH c L H) (h:kJ L kk x i y=.ok v L' inv cs) (hx:RVS c L x (ox.ev Tm)) (hi:RVS c L i (oi.ev Tm)) (hy:RVS c L y (oy.ev Tm)):HOk c L H v L' inv (ah Tm H (.mapset kk ox oi oy)):=by
 unfold kJ at h;split at h
 case h_2=>cases h
 rename_i m k w;obtain⟨xm,hxe,hml,rfl⟩:=hx;obtain⟨ky,hie,hk⟩:=hi;obtain⟨wy,hye,hw⟩:=hy;split at h
 case h_2=>cases h
 rename_i q tv hp htv;have:=mI (pu kk) hp hk;subst this;split at h
 case h_2=>cases h
 rename_i u hpu;have:=mI (tN htv) hpu hw;subst this;have fin:∀{o:SO} {z:AO},bP (aa L m)=false->az c (aa L m) m->((∀t' l',bS o=some ⟨t',l'⟩->False)/\bP o=false)->az c o m->ROS c (L.set m o) o m z->ah Tm H (.mapset kk ox oi oy)=some (und,H.set (c.π m) z)->(.ok (.tup []) (L.set m o) none []:OpR)=.ok v L' inv cs->HOk c L H v L' inv (ah Tm H (.mapset kk ox oi oy)):=by
  intro o z h1 h2 h3 h4 h5 h6 h7;simp only[OpR.ok.injEq] at h7;obtain⟨rfl,rfl,rfl,rfl⟩:=h7;refine⟨_,_,c,h6,(au.set h1 fun t' l' hr=>(h3.1 t' l' hr).elim).any (fun _ h=>h.elim),⟨_,rfl,ae.nil⟩,?_⟩;exact hH.set hml h2 (fun t' l' hr=>(h3.1 t' l' hr).elim) (fun _=>h5) (fun h=>absurd h4 h) h1 h3.2
 split at h
 .rename_i ho;obtain⟨_,hob⟩:=uU hH ho (by simp);have hob:H.o (c.π m)=.map []:=hob;refine fin (o:=.mapo (aW kk) tv [(q,u)]) (z:=.map [((aW kk).lf q,tv.lf u)]) (by rw[ho];rfl) (by rw[ho];trivial) ⟨fun t' l' hr=>(by cases hr),rfl⟩ trivial ⟨pu kk,tN htv,rfl⟩ ?_ h;simp only[ah,hxe,hie,hye,hob,jd,List.all_nil,Bool.and_self,if_true]
  rfl
 .rename_i kt vt es ho;obtain⟨_,o1,o2,hob⟩:=uU hH ho (by simp);split at h
  case h_2=>cases h
  rename_i hh hh' _ _;obtain⟨he⟩:=hh;obtain⟨he'⟩:=hh';subst he he';refine fin (o:=.mapo (aW kk) tv ((aW kk).mput es q u)) (by rw[ho];rfl) (by rw[ho];trivial) ⟨fun t' l' hr=>(by cases hr),rfl⟩ trivial ⟨o1,o2,rfl⟩ ?_ h;simp only[ah,hxe,hie,hye,hob,jd,xX,Bool.and_self,if_true,qW]
 .cases h
theorem ET {op:AOp}(hT:RT c L T Tm) (hH:RH c L H) (h:pz T L op=.ok v L' inv cs) (hc:aK cs):HOk c L H v L' inv (ah Tm H op):=by
 have pure:∀{w:Option AV},VOk c L v L' inv w->(ah Tm H op).map (·.1)=w->(∀av H',ah Tm H op=some (av,H')->H'=H)->HOk c L H v L' inv (ah Tm H op):=fun h e hp=>HOk.of hH h e hp
 have pureO:xh op=true->VOk c L v L' inv ((ah Tm H op).map (·.1))->HOk c L H v L' inv (ah Tm H op):=fun hp h=>HOk.of hH h rfl fun av H' he=>lU hp he
 have uU:∀{w:Option AV},ah Tm H op=w.map (·,H)->VOk c L v L' inv w->HOk c L H v L' inv (ah Tm H op):=fun {w} e h=>HOk.of hH h (by rw[e]; cases w <;> rfl) fun av H' he=>by
  rw[e] at he;obtain⟨_,_,e2⟩:=zD.1 he;cases e2;rfl
 unfold pz at h;cases op with
 |mov x=>exact pureO rfl (iY h (fun _=>⟨_,rfl,hT.opd x⟩) hc)
 |bin op x y=>exact uU rfl (Ht h hc (hT.opd x) (hT.opd y))
 |eqv k neg x y=>exact uU rfl (JQ h hc (hT.opd x) (hT.opd y))
 |un op x=>exact uU rfl (JH h hc (hT.opd x))
 |wrapI k x=>exact pure (Cr (H:=H) h hc (hT.opd x)) rfl (Bl k x)
 | s2b x=>
   simp only at h;split at h
   .rename_i s hs;simp only[OpR.ok.injEq] at h;obtain⟨rfl,rfl,rfl,rfl⟩:=h;have hx:=hT.opd x;rw[hs] at hx;refine HOk.pushRow hH (by simp) (n:=s.length) ?_;simp only[ah,hx.str,List.map_map];rfl
   .cases h
 |b2s x=>exact pureO rfl (Fw hH h hc (hT.opd x))
 | i2s x=>
   simp only at h;split at h
   .rename_i y hy;split at h
    .rename_i k n hi;have hx:=hT.opd x;rw[hy] at hx;obtain⟨w,hw,hr⟩:=hx;have e:=hr.int hi;subst e;exact pureO rfl (bB h (fun _=>⟨_,by simp only[ah,hw];rfl,rfl⟩) hc)
    .cases h
   .cases h
 | s2s x=>
   simp only at h;split at h
   .rename_i s hs;have hx:=hT.opd x;rw[hs] at hx;exact pureO rfl (bB h (fun _=>⟨_,by simp only[ah,hx.str];rfl,rfl⟩) hc)
   .cases h
 |pick p q r=>exact pureO rfl (EO h hc (hT.opd p) (hT.opd q) (hT.opd r))
 | new z=>
   simp only[OpR.ok.injEq] at h;obtain⟨rfl,rfl,rfl,rfl⟩:=h;exact HOk.push hH (w:=ld0) (z:=.blk z.length [z] true) rfl ⟨z,by simp,mi z⟩ ⟨_,rfl,by simp,by show _=Lf.ptr (EA.put c.π L.length H.n L.length) 0 0;rw[put_eq]⟩
 | box x=>
   simp only at h;split at h
   .rename_i p hp;simp only[OpR.ok.injEq] at h;obtain⟨rfl,rfl,rfl,rfl⟩:=h;obtain⟨w,hw,hr⟩:=(hT.opd x).cells hp;exact HOk.push hH (w:=ld0) (av:=.one (.ptr H.n 0 0)) (z:=.blk w.length [w] true) (by simp only[ah,hw]) ⟨w,by rw[hr.1],(au.push c L H.n ld0 (.cell p)).rls0 hr⟩ ⟨_,rfl,by simp,by show _=Lf.ptr (EA.put c.π L.length H.n L.length) 0 0;rw[put_eq]⟩
   .cases h
 | build z ps=>
   simp only at h;split at h
   .rename_i p hp;obtain⟨w,hw,hr⟩:=uO hT hp (mi (c:=c) (L:=L) z);exact pureO rfl (iY h (fun _=>⟨.agg w,by simp only[ah,hw,Option.map_some],w,rfl,hr⟩) hc)
   .cases h
 |rowLit s z n ps=>exact wB hT hH h hc
 |load ag n a=>exact pureO rfl (BH hH h hc (hT.opd a))
 |store n a x=>exact Bo hH h hc (hT.opd a) (hT.opd x)
 |nilck x=>exact pureO rfl (AJ h hc (hT.opd x))
 |faddr off x=>exact pureO rfl (AU h hc (hT.opd x))
 |fld ag off n x=>exact pureO rfl (FM h hc (hT.opd x))
 | iaddr s x i=>
   refine pure (Bp hH h hc (hT.opd x) (hT.opd i)) rfl fun av H' he=>?_
   simp only[ah] at he;split at he
   .split at he
    .simp only[zE,zF] at he;exact he.2.symm
    .cases he
   .split at he
    .obtain⟨_,_,e⟩:=zD.1 he;simp only[zF] at e;exact e.2.symm
    .cases he
   .cases he
 |aaddr len s x i=>exact pureO rfl (AZ h hc (hT.opd x) (hT.opd i))
 | sidx x i=>
   refine pure (Ev h hc (hT.opd x) (hT.opd i)) rfl fun av H' he=>?_
   simp only[ah] at he;split at he
   .split at he
    .simp only[zE,zF] at he;exact he.2.symm
    .cases he
   .cases he
 |aidx ag len s x i=>exact pureO rfl (Ff h hc (hT.opd x) (hT.opd i))
 | slice k s x lo hi mx=>
   simp only at h;split at h
   .rename_i hz;exact Dk hT hH hz h hc (hT.opd x)
   refine pure (Az (H:=H) hT hH h hc (hT.opd x)) rfl fun av H' he=>?_
   simp only[ah] at he;obtain⟨_,_,e⟩:=zD.1 he;simp only[zF] at e;exact e.2.symm
 |mksl s z b len cap=>exact Et hH h hc (hT.opd len) (hT.opd cap)
 | mkfn f caps=>
   simp only at h;split at h
   .rename_i l hl;obtain⟨k1,k2⟩:=uq hT hl;exact pureO rfl (bB h (fun _=>⟨_,by simp only[ah,k2,Option.map_some],k1,rfl⟩) hc)
   .cases h
 | rng x=>
   simp only at h;split at h
   .rename_i s hs;simp only[OpR.ok.injEq] at h;obtain⟨rfl,rfl,rfl,rfl⟩:=h;have hx:=hT.opd x;rw[hs] at hx;exact HOk.push hH (w:=ld0) (av:=.one (.ptr H.n 0 0)) (z:=.siter s 0) (by simp only[ah,hx.str]) rfl ⟨_,rfl,by simp,by show _=Lf.ptr (EA.put c.π L.length H.n L.length) 0 0;rw[put_eq]⟩
   .cases h
 | nxt x=>
   simp only at h;unfold FH at h;split at h
   .split at h <;> cases h
   .cases h
 |ext x i=>exact pureO rfl (Gl h hc (hT.opd x))
 |len k x=>exact pureO rfl (Gh hH h hc (hT.opd x))
 |app s b x y=>exact Fz hH h hc (hT.opd x) (hT.opd y)
 |best mx xs=>exact pureO rfl (Eo (H:=H) hT h hc)
 |clr s z x=>exact Gt hH h hc (hT.opd x)
 | mkmap=>
   simp only[OpR.ok.injEq] at h;obtain⟨rfl,rfl,rfl,rfl⟩:=h;exact HOk.push hH (w:=ld0) (av:=.one (.mp H.n)) (z:=.map []) rfl rfl ⟨_,rfl,by simp,by show _=Lf.mp (EA.put c.π L.length H.n L.length);rw[put_eq]⟩
 | newb=>
   simp only[OpR.ok.injEq] at h;obtain⟨rfl,rfl,rfl,rfl⟩:=h;exact HOk.push hH (w:=ld0) (av:=.one (.ptr H.n 0 0)) (z:=.bld false none) rfl ⟨false,none,rfl,by rw[show (dC c L.length H.n ld0).ν L.length=fun _=>none from put_eq _ _ _];exact⟨rfl,rfl⟩⟩ ⟨_,rfl,by simp,by show _=Lf.ptr (EA.put c.π L.length H.n L.length) 0 0;rw[put_eq]⟩
 |lookup kk z x k ok=>exact wU hH h (hT.opd x) (hT.opd k)
 |mapset kk m k v=>exact wN hH h (hT.opd m) (hT.opd k) (hT.opd v)
 |call f xs=>cases h
theorem Ar {op:AOp}{p:Prop}{d:Decidable p}{v1 v2:SV}{L1 L2:List SO}(hT:RT c L T Tm) (hH:RH c L H) (h:pz T L op=.two p d v1 L1 v2 L2) :
 (p->HOk c L H v1 L1 none (ah Tm H op))/\(¬ p->HOk c L H v2 L2 none (ah Tm H op)):=by
 unfold pz at h;cases op
 case nxt x=>
  simp only at h;unfold FH at h;split at h
  .rename_i b hb;split at h
   .rename_i s pos ho;simp only[OpR.two.injEq] at h;obtain⟨rfl,_,rfl,rfl,rfl,rfl⟩:=h;have hx:=hT.opd x;rw[hb] at hx;obtain⟨w,hw,hlt,rfl⟩:=hx;have hob:=hH.ob b hlt;rw[ho] at hob;have hob:H.o (c.π b)=.siter s pos:=hob;refine⟨fun hp=>?_,fun hp=>?_⟩
    .refine⟨_,_,c,by simp only[ah,hw,hob,hp,if_true];rfl,(au.set (by rw[ho];rfl) fun t' l' hr=>by cases hr).any (fun _ h=>h.elim),⟨_,rfl,ae.cons ⟨_,rfl,rfl⟩ (ae.cons ⟨_,rfl,rfl⟩ (ae.cons ⟨_,rfl,rfl⟩ ae.nil))⟩,?_⟩;exact hH.set hlt (by rw[ho];trivial) (fun t' l' hr=>by cases hr) (fun _=>rfl) (fun h=>absurd trivial h) (by rw[ho];rfl) rfl
    .exact⟨_,_,c,by simp only[ah,hw,hob,hp,if_false],au.refl,⟨_,rfl,ae.cons ⟨_,rfl,rfl⟩ ae.nil⟩,hH⟩
   .cases h
  .cases h
 case store n a x=>
  simp only[ow] at h;split at h
  .rename_i r hr;rcases nu hr with ⟨_,_,_,_,rfl⟩ | rfl <;> cases h
  split at h
  .rename_i r hr;obtain⟨_,_,_,_,rfl⟩:=nE hr;cases h
  .exfalso;simp only[kX] at h
   repeat' split at h
   all_goals first
    |(cases h;done)
    |(simp only[reduceCtorEq] at h;done)
 case app s b x y=>
  simp only[Dp] at h;split at h
  .rename_i r hr;obtain⟨_,_,_,_,rfl⟩:=qz hr;cases h
  split at h
  .rename_i r hr;obtain⟨_,_,_,_,rfl⟩:=qK hr;cases h
  .exfalso;simp only[ul] at h
   repeat' split at h
   all_goals first
    |(cases h;done)
    |(simp only[reduceCtorEq] at h;done)
 all_goals
  exfalso;simp only[Ep,sEq,sUn,tO,CW,sLen,qL,pG,pE,vR,tQ,Dt,pq,oV,ku,qO,vW,kG,uQ,EP,uZ,EU,kY,kJ,lkp,ro1,rok] at h
  repeat' split at h
  all_goals first
   |(cases h;done)
   |(simp only[reduceCtorEq] at h;done)
theorem ma {op:AOp}{p:Prop}{d:Decidable p}{v1 v2:SV}(hT:RT c L T Tm) (hH:RH c L H) (h:pz T L op=.twc cs p d v1 v2) (hc:aK cs) :
 (p->HOk c L H v1 L none (ah Tm H op))/\(¬ p->HOk c L H v2 L none (ah Tm H op)):=by
 unfold pz at h;cases op
 case load ag n a=>
  obtain⟨h1,h2⟩:=Bf hH h hc (hT.opd a);exact⟨fun hp=>HOk.of hH (h1 hp) rfl fun av H' he=>lU rfl he,fun hp=>HOk.of hH (h2 hp) rfl fun av H' he=>lU rfl he⟩
 case slice k s x lo hi mx=>
  simp only at h;split at h
  .exfalso;simp only[qO,rok] at h
   repeat' split at h
   all_goals first
    |(cases h;done)
    |(simp only[reduceCtorEq] at h;done)
  obtain⟨h1,h2⟩:=wE (H:=H) hT h hc (hT.opd x);have key:∀av H',ah Tm H (.slice k s x lo hi mx)=some (av,H')->H'=H:=fun av H' he=>by
   simp only[ah] at he;obtain⟨_,_,e⟩:=zD.1 he;simp only[zF] at e;exact e.2.symm
  exact⟨fun hp=>HOk.of hH (h1 hp) rfl fun av H' he=>key av H' he,fun hp=>HOk.of hH (h2 hp) rfl fun av H' he=>key av H' he⟩
 case store n a x=>
  simp only[ow] at h;split at h
  .rename_i r hr;rcases nu hr with ⟨_,_,_,_,rfl⟩ | rfl <;> cases h
  split at h
  .rename_i r hr;obtain⟨_,_,_,_,rfl⟩:=nE hr;cases h
  .exfalso;simp only[kX] at h
   repeat' split at h
   all_goals first
    |(cases h;done)
    |(simp only[reduceCtorEq] at h;done)
 case app s b x y=>
  simp only[Dp] at h;split at h
  .rename_i r hr;obtain⟨_,_,_,_,rfl⟩:=qz hr;cases h
  split at h
  .rename_i r hr;obtain⟨_,_,_,_,rfl⟩:=qK hr;cases h
  .exfalso;simp only[ul] at h
   repeat' split at h
   all_goals first
    |(cases h;done)
    |(simp only[reduceCtorEq] at h;done)
 case nxt x=>
  simp only[FH] at h
  repeat' split at h
  all_goals first
   |(cases h;done)
   |(simp only[reduceCtorEq] at h;done)
 all_goals
  exfalso;simp only[Ep,sEq,sUn,tO,CW,sLen,pG,pE,vR,tQ,Dt,pq,oV,ku,qO,vW,kG,uQ,EP,uZ,EU,kY,kJ,lkp,ro1,rok] at h
  repeat' split at h
  all_goals first
   |(cases h;done)
   |(simp only[reduceCtorEq] at h;done)
end
end Go.EA
end
