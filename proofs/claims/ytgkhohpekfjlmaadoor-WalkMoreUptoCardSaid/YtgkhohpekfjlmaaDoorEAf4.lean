/- Functions of the program, as abstract code (printed by a program). Conditions: none (definitions). -/
import Derived.Test.YtgkhohpekfjlmaaDoorEK1
namespace Go.EA.F
namespace AF739
def o (d:Nat) (x:AOp):AI:=⟨some d,x,none⟩
def v (x:AOp):AI:=⟨none,x,none⟩
def kF:Opd:=.c (.one (.bool false))
def kT:Opd:=.c (.one (.bool true))
def kN:Opd:=.c (.one .nils)
def kP:Opd:=.c (.one .nilp)
def z (n:Int):Opd:=.c (.one (.int .i64 n))
def g (n:Nat):Opd:=.c (.one (.fn n []))
def t0:Opd:=.t 0
def t1:Opd:=.t 1
def t3:Opd:=.t 3
def t4:Opd:=.t 4
def t5:Opd:=.t 5
def t6:Opd:=.t 6
def t7:Opd:=.t 7
def t8:Opd:=.t 8
def t9:Opd:=.t 9
def t10:Opd:=.t 10
def t11:Opd:=.t 11
def t12:Opd:=.t 12
def t13:Opd:=.t 13
def t14:Opd:=.t 14
def t15:Opd:=.t 15
def t16:Opd:=.t 16
def t17:Opd:=.t 17
def t18:Opd:=.t 18
def t19:Opd:=.t 19
def t20:Opd:=.t 20
def t21:Opd:=.t 21
def t22:Opd:=.t 22
def t23:Opd:=.t 23
def t24:Opd:=.t 24
def t25:Opd:=.t 25
def t26:Opd:=.t 26
def t27:Opd:=.t 27
def t28:Opd:=.t 28
def t29:Opd:=.t 29
def t30:Opd:=.t 30
def t31:Opd:=.t 31
def t32:Opd:=.t 32
def t33:Opd:=.t 33
def t34:Opd:=.t 34
def t35:Opd:=.t 35
def t36:Opd:=.t 36
def t37:Opd:=.t 37
def t38:Opd:=.t 38
end AF739
open AF739
def f260_0:List AI:=[o 3 (.mov (z 0))]
def f260_1:List AI:=[o 5 (.mov t3),
 o 6 (.load false 1 t1),
 o 7 (.len .slc t6),
 o 8 (.bin .lss t5 t7)]
def f260_2:AC:=.cond t8 .skip (.exit 0)
def f260_3:AC:=.seq (.reg f260_1) f260_2
def f260_4:List AI:=[o 11 (.load false 1 t1),
 o 12 (.mov t3),
 o 13 (.iaddr 3 t11 t12),
 o 14 (.faddr 0 t13),
 o 15 (.load false 1 t14),
 o 16 (.bin .eql t15 (z 0))]
def f260_5:AC:=.cond t16 (.exit 1) .skip
def f260_6:AC:=.seq (.reg f260_4) f260_5
def f260_7:List AI:=[o 17 (.mov t3),
 o 4 (.mov t17)]
def f260_8:List AI:=[o 18 (.mov t3),
 o 19 (.load false 1 t1),
 o 20 (.len .slc t19),
 o 21 (.bin .lss t18 t20),
 o 22 (.mov t21),
 ⟨some 23,.load false 1 t1,some (22,true)⟩,
 ⟨some 24,.mov t3,some (22,true)⟩,
 ⟨some 25,.iaddr 3 t23 t24,some (22,true)⟩,
 ⟨some 26,.faddr 0 t25,some (22,true)⟩,
 ⟨some 27,.load false 1 t26,some (22,true)⟩,
 ⟨some 28,.bin .neq t27 (z 0),some (22,true)⟩,
 o 29 (.pick t22 t28 kF)]
def f260_9:AC:=.cond t29 .skip (.exit 2)
def f260_10:AC:=.seq (.reg f260_8) f260_9
def f260_11:List AI:=[o 30 (.mov t3),
 o 31 (.bin .add t30 (z 1)),
 o 3 (.mov t31)]
def f260_12:AC:=.block 3 (.reg f260_11)
def f260_13:AC:=.seq f260_10 f260_12
def f260_14:AC:=.loop f260_13
def f260_15:AC:=.block 2 f260_14
def f260_16:List AI:=[o 32 (.mov t0),
 o 33 (.load false 1 t1),
 o 34 (.mov t4),
 o 35 (.mov t3),
 o 36 (.slice .slc 3 t33 (some t34) (some t35) none),
 o 37 (.call t32 [t36]),
 o 38 (.un .not t37)]
def f260_17:AC:=.cond t38 .ret .skip
def f260_18:AC:=.seq (.reg f260_16) f260_17
def f260_19:AC:=.seq f260_15 f260_18
def f260_20:AC:=.seq (.reg f260_7) f260_19
def f260_21:AC:=.seq f260_6 f260_20
def f260_22:AC:=.block 1 f260_21
def f260_23:List AI:=[o 9 (.mov t3),
 o 10 (.bin .add t9 (z 1)),
 o 3 (.mov t10)]
def f260_24:AC:=.seq f260_22 (.reg f260_23)
def f260_25:AC:=.seq f260_3 f260_24
def f260_26:AC:=.loop f260_25
def f260_27:AC:=.block 0 f260_26
def f260_28:AC:=.seq (.reg f260_0) f260_27
def f260_29:AC:=.seq .skip f260_28
def f260_30:AC:=.seq .skip f260_29
def f260B:AC:=f260_30
def f260:AF:=⟨2,39,[],f260B⟩
end Go.EA.F
