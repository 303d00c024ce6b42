/- Functions of the program, as abstract code (printed by a program). Conditions: none (definitions). -/
import Derived.Test.YtgkhohpekfjlmaaDoorEK1
namespace Go.EA.F
namespace AG458
instance (n:Nat):OfNat Opd n:=⟨.t n⟩
def o (d:Nat) (x:AOp):AI:=⟨some d,x,none⟩
def v (x:AOp):AI:=⟨none,x,none⟩
def m (d:Nat) (x:Opd):AI:=⟨some d,.mov x,none⟩
def c (d:Nat) (f:Opd) (x:List Opd):AI:=⟨some d,.call f x,none⟩
def l (d:Nat) (x:Opd):AI:=⟨some d,.load false 1 x,none⟩
def e (d:Nat) (x:Opd) (k:Nat):AI:=⟨some d,.ext x k,none⟩
def b (d:Nat) (p:BinOp) (x y:Opd):AI:=⟨some d,.bin p x y,none⟩
def i (d k:Nat) (x y:Opd):AI:=⟨some d,.iaddr k x y,none⟩
def n (d:Nat) (k:rC) (x:Opd):AI:=⟨some d,.len k x,none⟩
def s (k:Nat) (x y:Opd):AI:=⟨none,.store k x y,none⟩
def u (k:Nat) (x:AI):AI:=⟨x.dst,x.op,some (k,false)⟩
def w (k:Nat) (x:AI):AI:=⟨x.dst,x.op,some (k,true)⟩
def kF:Opd:=.c (.one (.bool false))
def kT:Opd:=.c (.one (.bool true))
def kN:Opd:=.c (.one .nils)
def kP:Opd:=.c (.one .nilp)
def z (k:Int):Opd:=.c (.one (.int .i64 k))
def g (k:Nat):Opd:=.c (.one (.fn k []))
def q (k:List UInt8):Opd:=.c (.one (.str k))
def S (x:List AI) (r:AC):AC:=.seq (.reg x) r
def D (x:List AI) (r:AC):AC:=.seq (.dreg x) r
def Q (x r:AC):AC:=.seq x r
def I (x:Opd) (a r:AC):AC:=.cond x a r
def B (k:Nat) (r:AC):AC:=.block k r
def L (r:AC):AC:=.loop r
end AG458
open AG458
def f43:AF:=⟨1,10,[(.t 2)],S [m 2 (z 0)]<|Q (S [m 3 0,o 4 (.rng 3)]<|B 0<|L<|S [o 5 (.nxt 4),e 6 5 0]<|Q (I 6 .skip (.exit 0))<|B 1<|.reg [m 7 2,b 8 .add 7 (z 1),m 2 8])<|S [m 9 2,m 2 9]<|.ret⟩
def f240:AF:=⟨1,28,[],S [m 4 0,n 5 .slc 4,b 6 .sub 5 (z 1),m 2 (z 0),m 3 6]<|B 0<|L<|Q (S [m 7 2,m 8 3,b 9 .lss 7 8]<|I 9 .skip (.exit 0))<|Q (B 1<|.dreg [m 14 0,m 15 2,m 16 0,m 17 3,m 18 0,m 19 3,i 20 3 18 19,o 21 (.load true 3 20),m 22 0,m 23 2,i 24 3 22 23,o 25 (.load true 3 24),i 26 3 14 15,s 3 26 21,i 27 3 16 17,s 3 27 25])<|.reg [m 10 2,b 11 .add 10 (z 1),m 12 3,b 13 .sub 12 (z 1),m 2 11,m 3 13]⟩
def f241:AF:=⟨2,26,[(.t 4),(.t 5),(.t 6)],S [m 4 kN,m 5 kN,m 6 (z 0)]<|S [m 11 0,c 12 (g 21) [11],m 10 12,e 13 10 0,e 14 10 1,m 7 13,m 8 14]<|Q (S [m 15 8,b 16 .neq 15 (z 0)]<|I 16 (S [m 17 8,m 4 kN,m 5 kN,m 6 17]<|.ret) .skip)<|S [m 19 1,c 20 (g 21) [19],m 18 20,e 21 18 0,e 22 18 1,m 9 21,m 8 22]<|S [m 23 7,m 24 9,m 25 8,m 4 23,m 5 24,m 6 25]<|.ret⟩
def f252:AF:=⟨2,20,[(.t 4)],S [m 4 (z 0)]<|S [m 7 0,c 8 (g 261) [7],m 5 8]<|S [m 9 1,c 10 (g 261) [9],m 6 10]<|Q (S [m 11 5]<|I 11 (Q (S [m 12 6]<|I 12 (S [m 4 (z 0)]<|.ret) .skip)<|S [m 4 (.c (.one (.int .i64 (-1))))]<|.ret) .skip)<|Q (S [m 13 6]<|I 13 (S [m 4 (z 1)]<|.ret) .skip)<|Q (S [m 14 0,m 15 1,b 16 .lss 14 15]<|I 16 (S [m 4 (.c (.one (.int .i64 (-1))))]<|.ret) .skip)<|Q (S [m 17 0,m 18 1,b 19 .gtr 17 18]<|I 19 (S [m 4 (z 1)]<|.ret) .skip)<|S [m 4 (z 0)]<|.ret⟩
def f260:AF:=⟨2,39,[],Q .skip<|Q .skip<|S [m 3 (z 0)]<|B 0<|L<|Q (S [m 5 3,l 6 1,n 7 .slc 6,b 8 .lss 5 7]<|I 8 .skip (.exit 0))<|Q (B 1<|Q (S [l 11 1,m 12 3,i 13 3 11 12,o 14 (.faddr 0 13),l 15 14,b 16 .eql 15 (z 0)]<|I 16 (.exit 1) .skip)<|S [m 17 3,m 4 17]<|Q (B 2<|L<|Q (S [m 18 3,l 19 1,n 20 .slc 19,b 21 .lss 18 20,m 22 21,w 22 (l 23 1),w 22 (m 24 3),w 22 (i 25 3 23 24),w 22 (o 26 (.faddr 0 25)),w 22 (l 27 26),w 22 (b 28 .neq 27 (z 0)),o 29 (.pick 22 28 kF)]<|I 29 .skip (.exit 2))<|B 3<|.reg [m 30 3,b 31 .add 30 (z 1),m 3 31])<|S [m 32 0,l 33 1,m 34 4,m 35 3,o 36 (.slice .slc 3 33 (some 34) (some 35) none),c 37 32 [36],o 38 (.un .not 37)]<|I 38 .ret .skip)<|.reg [m 9 3,b 10 .add 9 (z 1),m 3 10]⟩
def f261:AF:=⟨1,6,[(.t 2)],S [m 2 kF]<|S [m 3 0,m 4 0,b 5 .neq 3 4,m 2 5]<|.ret⟩
end Go.EA.F
