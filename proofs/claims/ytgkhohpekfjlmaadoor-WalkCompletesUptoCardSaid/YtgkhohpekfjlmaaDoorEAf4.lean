/- Functions of the program, as abstract code (printed by a program). Conditions: none (definitions). -/
import Derived.Test.YtgkhohpekfjlmaaDoorEK1
namespace Go.EA.F
namespace AG99
instance (n:Nat):OfNat Opd n:=⟨.t n⟩
def o (d:Nat) (x:AOp):AI:=⟨some d,x,none⟩
def v (x:AOp):AI:=⟨none,x,none⟩
def m (d:Nat) (x:Opd):AI:=⟨some d,.mov x,none⟩
def c (d:Nat) (f:Opd) (x:List Opd):AI:=⟨some d,.call f x,none⟩
def l (d:Nat) (x:Opd):AI:=⟨some d,.load false 1 x,none⟩
def e (d:Nat) (x:Opd) (k:Nat):AI:=⟨some d,.ext x k,none⟩
def b (d:Nat) (p:BinOp) (x y:Opd):AI:=⟨some d,.bin p x y,none⟩
def i (d k:Nat) (x y:Opd):AI:=⟨some d,.iaddr k x y,none⟩
def n (d:Nat) (k:rQ) (x:Opd):AI:=⟨some d,.len k x,none⟩
def s (k:Nat) (x y:Opd):AI:=⟨none,.store k x y,none⟩
def u (k:Nat) (x:AI):AI:=⟨x.dst,x.op,some (k,false)⟩
def w (k:Nat) (x:AI):AI:=⟨x.dst,x.op,some (k,true)⟩
def kF:Opd:=.c (.one (.bool false))
def kT:Opd:=.c (.one (.bool true))
def kN:Opd:=.c (.one .nils)
def kP:Opd:=.c (.one .nilp)
def z (k:Int):Opd:=.c (.one (.int .i64 k))
def g (k:Nat):Opd:=.c (.one (.fn k []))
def q (k:List UInt8):Opd:=.c (.one (.str k))
def S (x:List AI) (r:AC):AC:=.seq (.reg x) r
def D (x:List AI) (r:AC):AC:=.seq (.dreg x) r
def Q (x r:AC):AC:=.seq x r
def I (x:Opd) (a r:AC):AC:=.cond x a r
def B (k:Nat) (r:AC):AC:=.block k r
def L (r:AC):AC:=.loop r
end AG99
open AG99
def f260:AF:=⟨2,39,[],Q .skip<|Q .skip<|S [m 3 (z 0)]<|B 0<|L<|Q (S [m 5 3,l 6 1,n 7 .slc 6,b 8 .lss 5 7]<|I 8 .skip (.exit 0))<|Q (B 1<|Q (S [l 11 1,m 12 3,i 13 3 11 12,o 14 (.faddr 0 13),l 15 14,b 16 .eql 15 (z 0)]<|I 16 (.exit 1) .skip)<|S [m 17 3,m 4 17]<|Q (B 2<|L<|Q (S [m 18 3,l 19 1,n 20 .slc 19,b 21 .lss 18 20,m 22 21,w 22 (l 23 1),w 22 (m 24 3),w 22 (i 25 3 23 24),w 22 (o 26 (.faddr 0 25)),w 22 (l 27 26),w 22 (b 28 .neq 27 (z 0)),o 29 (.pick 22 28 kF)]<|I 29 .skip (.exit 2))<|B 3<|.reg [m 30 3,b 31 .add 30 (z 1),m 3 31])<|S [m 32 0,l 33 1,m 34 4,m 35 3,o 36 (.slice .slc 3 33 (some 34) (some 35) none),c 37 32 [36],o 38 (.un .not 37)]<|I 38 .ret .skip)<|.reg [m 9 3,b 10 .add 9 (z 1),m 3 10]⟩
end Go.EA.F
