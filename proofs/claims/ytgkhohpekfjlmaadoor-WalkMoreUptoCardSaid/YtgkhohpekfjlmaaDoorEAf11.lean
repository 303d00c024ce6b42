/- Functions of the program, as abstract code (printed by a program). Conditions: none (definitions). -/
import Derived.Test.YtgkhohpekfjlmaaDoorEK1
namespace Go.EA.F
namespace AF995
def o (d:Nat) (x:AOp):AI:=⟨some d,x,none⟩
def v (x:AOp):AI:=⟨none,x,none⟩
def kF:Opd:=.c (.one (.bool false))
def kT:Opd:=.c (.one (.bool true))
def kN:Opd:=.c (.one .nils)
def kP:Opd:=.c (.one .nilp)
def z (n:Int):Opd:=.c (.one (.int .i64 n))
def g (n:Nat):Opd:=.c (.one (.fn n []))
def t0:Opd:=.t 0
def t1:Opd:=.t 1
def t2:Opd:=.t 2
def t3:Opd:=.t 3
def t4:Opd:=.t 4
def t5:Opd:=.t 5
def t6:Opd:=.t 6
def t7:Opd:=.t 7
def t8:Opd:=.t 8
def t9:Opd:=.t 9
def t10:Opd:=.t 10
def t11:Opd:=.t 11
def t12:Opd:=.t 12
def t13:Opd:=.t 13
def t14:Opd:=.t 14
def t15:Opd:=.t 15
def t16:Opd:=.t 16
def t17:Opd:=.t 17
def t18:Opd:=.t 18
def t19:Opd:=.t 19
def t20:Opd:=.t 20
def t21:Opd:=.t 21
def t22:Opd:=.t 22
def t23:Opd:=.t 23
def t24:Opd:=.t 24
def t25:Opd:=.t 25
def t26:Opd:=.t 26
def t27:Opd:=.t 27
def t28:Opd:=.t 28
def t29:Opd:=.t 29
def t30:Opd:=.t 30
def t31:Opd:=.t 31
def t32:Opd:=.t 32
def t33:Opd:=.t 33
def t34:Opd:=.t 34
def t35:Opd:=.t 35
def t36:Opd:=.t 36
def t37:Opd:=.t 37
def t38:Opd:=.t 38
def t39:Opd:=.t 39
def t40:Opd:=.t 40
def t41:Opd:=.t 41
def t42:Opd:=.t 42
def t43:Opd:=.t 43
def t44:Opd:=.t 44
def t45:Opd:=.t 45
def t46:Opd:=.t 46
def t47:Opd:=.t 47
def t48:Opd:=.t 48
def t49:Opd:=.t 49
def t50:Opd:=.t 50
def t51:Opd:=.t 51
def t52:Opd:=.t 52
def t53:Opd:=.t 53
def t54:Opd:=.t 54
def t55:Opd:=.t 55
def t56:Opd:=.t 56
def t57:Opd:=.t 57
def t58:Opd:=.t 58
def t59:Opd:=.t 59
def t60:Opd:=.t 60
def t61:Opd:=.t 61
def t62:Opd:=.t 62
def t63:Opd:=.t 63
def t64:Opd:=.t 64
def t65:Opd:=.t 65
def t66:Opd:=.t 66
def t67:Opd:=.t 67
def t68:Opd:=.t 68
def t69:Opd:=.t 69
def t70:Opd:=.t 70
def t71:Opd:=.t 71
def t72:Opd:=.t 72
def t73:Opd:=.t 73
def t74:Opd:=.t 74
def t75:Opd:=.t 75
def t76:Opd:=.t 76
def t77:Opd:=.t 77
def t78:Opd:=.t 78
def t79:Opd:=.t 79
def t80:Opd:=.t 80
def t81:Opd:=.t 81
def t82:Opd:=.t 82
def t83:Opd:=.t 83
def t84:Opd:=.t 84
def t85:Opd:=.t 85
def t86:Opd:=.t 86
def t87:Opd:=.t 87
def t88:Opd:=.t 88
def t89:Opd:=.t 89
def t90:Opd:=.t 90
def t91:Opd:=.t 91
def t92:Opd:=.t 92
def t93:Opd:=.t 93
def t94:Opd:=.t 94
def t95:Opd:=.t 95
def t96:Opd:=.t 96
def t97:Opd:=.t 97
def t98:Opd:=.t 98
def t99:Opd:=.t 99
def t100:Opd:=.t 100
def t101:Opd:=.t 101
def t102:Opd:=.t 102
def t103:Opd:=.t 103
def t104:Opd:=.t 104
def t105:Opd:=.t 105
def t106:Opd:=.t 106
def t107:Opd:=.t 107
def t108:Opd:=.t 108
def t109:Opd:=.t 109
end AF995
open AF995
def f483_0:List AI:=[o 1 (.box t0),
 o 2 (.mov kF)]
def f483_1:List AI:=[o 18 (.call (g 487) []),
 o 19 (.un .not t18)]
def f483_2:List AI:=[o 2 (.mov kF)]
def f483_3:AC:=.seq (.reg f483_2) .ret
def f483_4:AC:=.cond t19 f483_3 .skip
def f483_5:AC:=.seq (.reg f483_1) f483_4
def f483_6:List AI:=[o 20 (.faddr 0 t1),
 o 21 (.load false 1 t20),
 o 22 (.faddr 1 t1),
 o 23 (.load false 1 t22),
 o 24 (.faddr 2 t1),
 o 25 (.load false 1 t24),
 o 26 (.faddr 3 t1),
 o 27 (.load false 1 t26),
 o 3 (.mov t21),
 o 4 (.mov t23),
 o 5 (.mov t25),
 o 6 (.mov t27)]
def f483_7:List AI:=[o 29 (.mov t3),
 o 30 (.mov t4),
 o 31 (.mov t5),
 o 32 (.bin .add t30 t31),
 o 33 (.call (g 488) [t29,t32]),
 o 28 (.mov t33),
 o 34 (.ext t28 0),
 o 35 (.ext t28 1),
 o 36 (.ext t28 2),
 o 7 (.mov t34),
 o 8 (.mov t35),
 o 9 (.mov t36)]
def f483_8:List AI:=[o 37 (.mov t9),
 o 38 (.un .not t37)]
def f483_9:List AI:=[o 2 (.mov kT)]
def f483_10:AC:=.seq (.reg f483_9) .ret
def f483_11:AC:=.cond t38 f483_10 .skip
def f483_12:AC:=.seq (.reg f483_8) f483_11
def f483_13:List AI:=[o 40 (.mov t7),
 o 41 (.mov t4),
 o 42 (.call (g 495) [t40,t41,(z 1000)]),
 o 39 (.mov t42),
 o 43 (.ext t39 0),
 o 44 (.ext t39 1),
 o 10 (.mov t43),
 o 11 (.mov t44)]
def f483_14:List AI:=[o 46 (.mov t7),
 o 47 (.mov t4),
 o 48 (.mov t6),
 o 49 (.wrapI .i64 t48),
 o 50 (.call (g 495) [t46,t47,t49]),
 o 45 (.mov t50),
 o 51 (.ext t45 0),
 o 52 (.ext t45 1),
 o 12 (.mov t51),
 o 13 (.mov t52)]
def f483_15:List AI:=[o 54 (.mov t7),
 o 55 (.mov t4),
 o 56 (.call (g 491) [t54,t55]),
 o 53 (.mov t56),
 o 57 (.ext t53 0),
 o 58 (.ext t53 1),
 o 14 (.mov t57),
 o 15 (.mov t58)]
def f483_16:List AI:=[o 60 (.mov t7),
 o 61 (.mov t4),
 o 62 (.mov t5),
 o 63 (.bin .add t61 t62),
 o 64 (.call (g 491) [t60,t63]),
 o 59 (.mov t64),
 o 65 (.ext t59 0),
 o 66 (.ext t59 1),
 o 16 (.mov t65),
 o 17 (.mov t66)]
def f483_17:List AI:=[o 67 (.mov t11),
 o 68 (.bin .neq t67 (z 0))]
def f483_18:List AI:=[o 69 (.mov t13),
 o 70 (.mov t11),
 o 71 (.bin .eql t69 t70),
 o 72 (.mov t71),
 ⟨some 73,.mov t15,some (72,true)⟩,
 ⟨some 74,.mov t11,some (72,true)⟩,
 ⟨some 75,.bin .eql t73 t74,some (72,true)⟩,
 o 76 (.pick t72 t75 kF),
 o 2 (.mov t76)]
def f483_19:AC:=.seq (.reg f483_18) .ret
def f483_20:AC:=.cond t68 f483_19 .skip
def f483_21:AC:=.seq (.reg f483_17) f483_20
def f483_22:List AI:=[o 77 (.mov t13),
 o 78 (.bin .eql t77 (z 0)),
 o 79 (.mov t78),
 ⟨some 80,.mov t15,some (79,true)⟩,
 ⟨some 81,.bin .eql t80 (z 0),some (79,true)⟩,
 o 82 (.pick t79 t81 kF),
 o 83 (.mov t82),
 ⟨some 84,.mov t12,some (83,true)⟩,
 ⟨some 85,.len .slc t84,some (83,true)⟩,
 ⟨some 86,.mov t6,some (83,true)⟩,
 ⟨some 87,.wrapI .i64 t86,some (83,true)⟩,
 ⟨some 88,.mov t10,some (83,true)⟩,
 ⟨some 89,.len .slc t88,some (83,true)⟩,
 ⟨some 90,.best false [t87,t89],some (83,true)⟩,
 ⟨some 91,.bin .eql t85 t90,some (83,true)⟩,
 o 92 (.pick t83 t91 kF),
 o 93 (.mov t92),
 ⟨some 94,.mov t12,some (93,true)⟩,
 ⟨some 95,.mov t10,some (93,true)⟩,
 ⟨some 96,.mov t12,some (93,true)⟩,
 ⟨some 97,.len .slc t96,some (93,true)⟩,
 ⟨some 98,.slice .slc 2 t95 none (some t97) none,some (93,true)⟩,
 ⟨some 99,.call (g 300) [t94,t98],some (93,true)⟩,
 o 100 (.pick t93 t99 kF),
 o 101 (.mov t100),
 ⟨some 102,.mov t17,some (101,true)⟩,
 ⟨some 103,.bin .neq t102 (z 0),some (101,true)⟩,
 ⟨some 104,.mov t103,some (101,true)⟩,
 ⟨some 105,.mov t16,some (104,false)⟩,
 ⟨some 106,.mov t14,some (104,false)⟩,
 ⟨some 107,.bin .leq t105 t106,some (104,false)⟩,
 ⟨some 108,.pick t104 kT t107,some (101,true)⟩,
 o 109 (.pick t101 t108 kF),
 o 2 (.mov t109)]
def f483_23:AC:=.seq (.reg f483_22) .ret
def f483_24:AC:=.seq f483_21 f483_23
def f483_25:AC:=.seq (.reg f483_16) f483_24
def f483_26:AC:=.seq (.reg f483_15) f483_25
def f483_27:AC:=.seq (.reg f483_14) f483_26
def f483_28:AC:=.seq (.reg f483_13) f483_27
def f483_29:AC:=.seq f483_12 f483_28
def f483_30:AC:=.seq (.reg f483_7) f483_29
def f483_31:AC:=.seq (.dreg f483_6) f483_30
def f483_32:AC:=.seq f483_5 f483_31
def f483_33:AC:=.seq (.reg f483_0) f483_32
def f483B:AC:=f483_33
def f483:AF:=⟨1,110,[(.t 2)],f483B⟩
def f487_0:List AI:=[o 0 (.mov kF)]
def f487_1:List AI:=[(o 10 (.build [(.str []),(.int .i64 0)] [(0,(1,(.c (.one (.str [97]))))),(1,(1,(z 1)))])),
 (o 11 (.build [(.str []),(.int .i64 0)] [(0,(1,(.c (.one (.str [97,98]))))),(1,(1,(z 1)))])),
 (o 12 (.build [(.str []),(.int .i64 0)] [(0,(1,(.c (.one (.str [98]))))),(1,(1,(z 1)))])),
 o 13 (.rowLit 2 [(.str []),(.int .i64 0)] 3 [(0,t10),(1,t11),(2,t12)]),
 o 14 (.call (g 278) [t13]),
 o 9 (.mov t14),
 o 15 (.ext t9 0),
 o 16 (.ext t9 1),
 o 1 (.mov t15),
 o 2 (.mov t16)]
def f487_2:List AI:=[o 18 (.mov t1),
 o 19 (.call (g 493) [t18,(.c (.one (.str [97,98,98])))]),
 o 17 (.mov t19),
 o 20 (.ext t17 0),
 o 21 (.ext t17 1),
 o 3 (.mov t20),
 o 4 (.mov t21)]
def f487_3:List AI:=[o 23 (.mov t1),
 o 24 (.call (g 497) [t23,(.c (.one (.str [97,98,98])))]),
 o 22 (.mov t24),
 o 25 (.ext t22 0),
 o 26 (.ext t22 1),
 o 5 (.mov t25),
 o 6 (.mov t26)]
def f487_4:List AI:=[o 28 (.call (g 491) [kP,(.c (.one (.str [])))]),
 o 27 (.mov t28),
 o 29 (.ext t27 0),
 o 30 (.ext t27 1),
 o 7 (.mov t29),
 o 8 (.mov t30)]
def f487_5:List AI:=[o 31 (.mov t2),
 o 32 (.bin .eql t31 (z 0)),
 o 33 (.mov t32),
 ⟨some 34,.mov t3,some (33,true)⟩,
 ⟨some 35,.bin .eql t34 (.c (.one (.str [97,98]))),some (33,true)⟩,
 o 36 (.pick t33 t35 kF),
 o 37 (.mov t36),
 ⟨some 38,.mov t4,some (37,true)⟩,
 ⟨some 39,.bin .eql t38 (z 0),some (37,true)⟩,
 o 40 (.pick t37 t39 kF),
 o 41 (.mov t40),
 ⟨some 42,.mov t5,some (41,true)⟩,
 ⟨some 43,.len .slc t42,some (41,true)⟩,
 ⟨some 44,.bin .eql t43 (z 2),some (41,true)⟩,
 o 45 (.pick t41 t44 kF),
 o 46 (.mov t45),
 ⟨some 47,.mov t5,some (46,true)⟩,
 ⟨some 48,.iaddr 1 t47 (z 1),some (46,true)⟩,
 ⟨some 49,.load false 1 t48,some (46,true)⟩,
 ⟨some 50,.bin .eql t49 (.c (.one (.str [98]))),some (46,true)⟩,
 o 51 (.pick t46 t50 kF),
 o 52 (.mov t51),
 ⟨some 53,.mov t6,some (52,true)⟩,
 ⟨some 54,.bin .eql t53 (z 0),some (52,true)⟩,
 o 55 (.pick t52 t54 kF),
 o 56 (.mov t55),
 ⟨some 57,.mov t8,some (56,true)⟩,
 ⟨some 58,.bin .eql t57 (z 1),some (56,true)⟩,
 o 59 (.pick t56 t58 kF),
 o 0 (.mov t59)]
def f487_6:AC:=.seq (.reg f487_5) .ret
def f487_7:AC:=.seq (.reg f487_4) f487_6
def f487_8:AC:=.seq (.reg f487_3) f487_7
def f487_9:AC:=.seq (.reg f487_2) f487_8
def f487_10:AC:=.seq (.reg f487_1) f487_9
def f487_11:AC:=.seq (.reg f487_0) f487_10
def f487B:AC:=f487_11
def f487:AF:=⟨0,60,[(.t 0)],f487B⟩
def f488_0:List AI:=[o 4 (.mov kP),
 o 5 (.mov kN),
 o 6 (.mov kF)]
def f488_1:List AI:=[o 13 (.mov t1),
 o 14 (.len .str t13),
 o 7 (.mov t14)]
def f488_2:List AI:=[o 15 (.mov t0),
 o 16 (.len .slc t15),
 o 17 (.mov (z 0))]
def f488_3:List AI:=[o 18 (.bin .lss t17 t16)]
def f488_4:AC:=.cond t18 .skip (.exit 0)
def f488_5:List AI:=[o 19 (.iaddr 2 t15 t17),
 o 20 (.load true 2 t19),
 o 9 (.new [(.str []),(.int .i64 0)]),
 v (.store 2 t9 t20)]
def f488_6:List AI:=[o 21 (.mov t7),
 o 22 (.faddr 0 t9),
 o 23 (.load false 1 t22),
 o 24 (.len .str t23),
 o 25 (.bin .add t21 t24),
 o 7 (.mov t25)]
def f488_7:AC:=.seq (.reg f488_5) (.reg f488_6)
def f488_8:AC:=.block 1 f488_7
def f488_9:List AI:=[o 26 (.bin .add t17 (z 1)),
 o 17 (.mov t26)]
def f488_10:AC:=.seq f488_8 (.reg f488_9)
def f488_11:AC:=.seq f488_4 f488_10
def f488_12:AC:=.seq (.reg f488_3) f488_11
def f488_13:AC:=.loop f488_12
def f488_14:AC:=.block 0 f488_13
def f488_15:AC:=.seq (.reg f488_2) f488_14
def f488_16:List AI:=[o 27 (.mov t0),
 o 28 (.len .slc t27),
 o 29 (.bin .gtr t28 (z 60)),
 o 30 (.mov t29),
 ⟨some 31,.mov t7,some (30,false)⟩,
 ⟨some 32,.bin .gtr t31 (z 800),some (30,false)⟩,
 o 33 (.pick t30 kT t32)]
def f488_17:List AI:=[o 4 (.mov kP),
 o 5 (.mov kN),
 o 6 (.mov kF)]
def f488_18:AC:=.seq (.reg f488_17) .ret
def f488_19:AC:=.cond t33 f488_18 .skip
def f488_20:AC:=.seq (.reg f488_16) f488_19
def f488_21:List AI:=[o 35 (.mov t0),
 o 36 (.call (g 291) [t35]),
 o 34 (.mov t36),
 o 37 (.ext t34 0),
 o 38 (.ext t34 1),
 o 0 (.mov t37),
 o 10 (.mov t38)]
def f488_22:List AI:=[o 39 (.mov t10),
 o 40 (.bin .neq t39 (z 0))]
def f488_23:List AI:=[o 4 (.mov kP),
 o 5 (.mov kN),
 o 6 (.mov kF)]
def f488_24:AC:=.seq (.reg f488_23) .ret
def f488_25:AC:=.cond t40 f488_24 .skip
def f488_26:AC:=.seq (.reg f488_22) f488_25
def f488_27:List AI:=[o 42 (.mov t0),
 o 43 (.call (g 278) [t42]),
 o 41 (.mov t43),
 o 44 (.ext t41 0),
 o 45 (.ext t41 1),
 o 11 (.mov t44),
 o 12 (.mov t45)]
def f488_28:List AI:=[o 46 (.mov t11),
 o 47 (.mov t0),
 o 48 (.mov t12),
 o 49 (.bin .eql t48 (z 0)),
 o 4 (.mov t46),
 o 5 (.mov t47),
 o 6 (.mov t49)]
def f488_29:AC:=.seq (.reg f488_28) .ret
def f488_30:AC:=.seq (.reg f488_27) f488_29
def f488_31:AC:=.seq f488_26 f488_30
def f488_32:AC:=.seq (.reg f488_21) f488_31
def f488_33:AC:=.seq f488_20 f488_32
def f488_34:AC:=.seq f488_15 f488_33
def f488_35:AC:=.seq (.reg f488_1) f488_34
def f488_36:AC:=.seq (.reg f488_0) f488_35
def f488B:AC:=f488_36
def f488:AF:=⟨2,50,[(.t 4),(.t 5),(.t 6)],f488B⟩
def f491_0:List AI:=[o 4 (.mov (z 0)),
 o 5 (.mov (z 0))]
def f491_1:List AI:=[o 11 (.mov t0),
 o 12 (.mov t1),
 o 13 (.call (g 500) [t11,t12]),
 o 10 (.mov t13),
 o 14 (.ext t10 0),
 o 15 (.ext t10 1),
 o 6 (.mov t14),
 o 7 (.mov t15)]
def f491_2:List AI:=[o 16 (.mov t7),
 o 17 (.bin .neq t16 (z 0))]
def f491_3:List AI:=[o 18 (.mov t7),
 o 4 (.mov (z 0)),
 o 5 (.mov t18)]
def f491_4:AC:=.seq (.reg f491_3) .ret
def f491_5:AC:=.cond t17 f491_4 .skip
def f491_6:AC:=.seq (.reg f491_2) f491_5
def f491_7:AC:=.seq (.reg f491_1) f491_6
def f491_8:List AI:=[o 20 (.mov t0),
 o 21 (.mov t1),
 o 22 (.call (g 503) [t20,t21]),
 o 19 (.mov t22),
 o 23 (.ext t19 0),
 o 24 (.ext t19 1),
 o 8 (.mov t23),
 o 9 (.mov t24)]
def f491_9:List AI:=[o 25 (.mov t9),
 o 26 (.mov t8),
 o 27 (.bin .sub t25 t26),
 o 4 (.mov t27),
 o 5 (.mov (z 0))]
def f491_10:AC:=.seq (.reg f491_9) .ret
def f491_11:AC:=.seq (.reg f491_8) f491_10
def f491_12:AC:=.seq f491_7 f491_11
def f491_13:AC:=.seq (.reg f491_0) f491_12
def f491B:AC:=f491_13
def f491:AF:=⟨2,28,[(.t 4),(.t 5)],f491B⟩
def f493_0:List AI:=[o 4 (.mov (.c (.one (.str [])))),
 o 5 (.mov (z 0))]
def f493_1:List AI:=[o 10 (.mov t0),
 o 11 (.mov t1),
 o 12 (.call (g 500) [t10,t11]),
 o 9 (.mov t12),
 o 13 (.ext t9 0),
 o 14 (.ext t9 1),
 o 6 (.mov t13),
 o 7 (.mov t14)]
def f493_2:List AI:=[o 15 (.mov t7),
 o 16 (.bin .neq t15 (z 0))]
def f493_3:List AI:=[o 17 (.mov t7),
 o 4 (.mov (.c (.one (.str [])))),
 o 5 (.mov t17)]
def f493_4:AC:=.seq (.reg f493_3) .ret
def f493_5:AC:=.cond t16 f493_4 .skip
def f493_6:AC:=.seq (.reg f493_2) f493_5
def f493_7:List AI:=[o 18 (.mov t0),
 o 19 (.mov t6),
 o 20 (.call (g 505) [t18,t19]),
 o 8 (.mov t20)]
def f493_8:List AI:=[o 21 (.mov t8),
 o 22 (.len .slc t21),
 o 23 (.bin .eql t22 (z 0))]
def f493_9:List AI:=[o 4 (.mov (.c (.one (.str [])))),
 o 5 (.mov (z 10))]
def f493_10:AC:=.seq (.reg f493_9) .ret
def f493_11:AC:=.cond t23 f493_10 .skip
def f493_12:AC:=.seq (.reg f493_8) f493_11
def f493_13:List AI:=[o 24 (.mov t6),
 o 25 (.mov t8),
 o 26 (.mov t8),
 o 27 (.len .slc t26),
 o 28 (.bin .sub t27 (z 1)),
 o 29 (.iaddr 1 t25 t28),
 o 30 (.load false 1 t29),
 o 31 (.slice .slc 1 t24 none (some t30) none),
 o 32 (.call (g 506) [t31]),
 o 4 (.mov t32),
 o 5 (.mov (z 0))]
def f493_14:AC:=.seq (.reg f493_13) .ret
def f493_15:AC:=.seq f493_12 f493_14
def f493_16:AC:=.seq (.reg f493_7) f493_15
def f493_17:AC:=.seq f493_6 f493_16
def f493_18:AC:=.seq (.reg f493_1) f493_17
def f493_19:AC:=.seq (.reg f493_0) f493_18
def f493B:AC:=f493_19
def f493:AF:=⟨2,33,[(.t 4),(.t 5)],f493B⟩
def f495_0:List AI:=[o 6 (.mov kN),
 o 7 (.mov (z 0))]
def f495_1:List AI:=[o 14 (.mov t0),
 o 15 (.mov t1),
 o 16 (.call (g 500) [t14,t15]),
 o 13 (.mov t16),
 o 17 (.ext t13 0),
 o 18 (.ext t13 1),
 o 8 (.mov t17),
 o 9 (.mov t18)]
def f495_2:List AI:=[o 19 (.mov t9),
 o 20 (.bin .neq t19 (z 0))]
def f495_3:List AI:=[o 21 (.mov t9),
 o 6 (.mov kN),
 o 7 (.mov t21)]
def f495_4:AC:=.seq (.reg f495_3) .ret
def f495_5:AC:=.cond t20 f495_4 .skip
def f495_6:AC:=.seq (.reg f495_2) f495_5
def f495_7:AC:=.seq (.reg f495_1) f495_6
def f495_8:List AI:=[o 22 (.mov t2),
 o 23 (.bin .lss t22 (z 0)),
 o 24 (.mov t23),
 ⟨some 25,.mov t2,some (24,false)⟩,
 ⟨some 26,.bin .gtr t25 (z 1000),some (24,false)⟩,
 o 27 (.pick t24 kT t26)]
def f495_9:List AI:=[o 6 (.mov kN),
 o 7 (.mov (z 2))]
def f495_10:AC:=.seq (.reg f495_9) .ret
def f495_11:AC:=.cond t27 f495_10 .skip
def f495_12:AC:=.seq (.reg f495_8) f495_11
def f495_13:List AI:=[o 29 (.mov t0),
 o 30 (.mov t1),
 o 31 (.call (g 503) [t29,t30]),
 o 28 (.mov t31),
 o 32 (.ext t28 0),
 o 33 (.ext t28 1),
 o 10 (.mov t32),
 o 11 (.mov t33)]
def f495_14:List AI:=[o 34 (.mov t10),
 o 12 (.mov t34)]
def f495_15:List AI:=[o 35 (.mov t12),
 o 36 (.mov t11),
 o 37 (.mov t10),
 o 38 (.mov t2),
 o 39 (.bin .add t37 t38),
 o 40 (.best false [t36,t39]),
 o 41 (.bin .lss t35 t40)]
def f495_16:AC:=.cond t41 .skip (.exit 0)
def f495_17:AC:=.seq (.reg f495_15) f495_16
def f495_18:List AI:=[o 44 (.mov t6),
 o 45 (.mov t0),
 o 46 (.mov t12),
 o 47 (.call (g 507) [t45,t46]),
 o 48 (.rowLit 2 [(.str []),(.int .i64 0)] 1 [(0,t47)]),
 o 49 (.app 2 24 t44 t48),
 o 6 (.mov t49)]
def f495_19:AC:=.block 1 (.reg f495_18)
def f495_20:List AI:=[o 42 (.mov t12),
 o 43 (.bin .add t42 (z 1)),
 o 12 (.mov t43)]
def f495_21:AC:=.seq f495_19 (.reg f495_20)
def f495_22:AC:=.seq f495_17 f495_21
def f495_23:AC:=.loop f495_22
def f495_24:AC:=.block 0 f495_23
def f495_25:AC:=.seq (.reg f495_14) f495_24
def f495_26:List AI:=[o 50 (.mov t6),
 o 6 (.mov t50),
 o 7 (.mov (z 0))]
def f495_27:AC:=.seq (.reg f495_26) .ret
def f495_28:AC:=.seq f495_25 f495_27
def f495_29:AC:=.seq (.reg f495_13) f495_28
def f495_30:AC:=.seq f495_12 f495_29
def f495_31:AC:=.seq f495_7 f495_30
def f495_32:AC:=.seq (.reg f495_0) f495_31
def f495B:AC:=f495_32
def f495:AF:=⟨3,51,[(.t 6),(.t 7)],f495B⟩
def f497_0:List AI:=[o 4 (.mov kN),
 o 5 (.mov (z 0))]
def f497_1:List AI:=[o 17 (.mov t0),
 o 18 (.mov t1),
 o 19 (.call (g 500) [t17,t18]),
 o 16 (.mov t19),
 o 20 (.ext t16 0),
 o 21 (.ext t16 1),
 o 6 (.mov t20),
 o 7 (.mov t21)]
def f497_2:List AI:=[o 22 (.mov t7),
 o 23 (.bin .neq t22 (z 0))]
def f497_3:List AI:=[o 24 (.mov t7),
 o 4 (.mov kN),
 o 5 (.mov t24)]
def f497_4:AC:=.seq (.reg f497_3) .ret
def f497_5:AC:=.cond t23 f497_4 .skip
def f497_6:AC:=.seq (.reg f497_2) f497_5
def f497_7:List AI:=[o 25 (.mov t6),
 o 26 (.len .slc t25),
 o 27 (.bin .add t26 (z 1)),
 o 28 (.mksl 1 [(.int .i64 0)] 8 t27 t27),
 o 8 (.new [.nils]),
 v (.store 1 t8 t28)]
def f497_8:List AI:=[o 29 (.mov t6),
 o 30 (.len .slc t29),
 o 31 (.bin .add t30 (z 1)),
 o 32 (.mksl 1 [(.int .i64 0)] 8 t31 t31),
 o 9 (.new [.nils]),
 v (.store 1 t9 t32)]
def f497_9:List AI:=[o 33 (.mov t6),
 o 34 (.len .slc t33),
 o 35 (.bin .sub t34 (z 1)),
 o 10 (.new [(.int .i64 0)]),
 v (.store 1 t10 t35)]
def f497_10:List AI:=[o 36 (.load false 1 t10),
 o 37 (.bin .geq t36 (z 0))]
def f497_11:AC:=.cond t37 .skip (.exit 0)
def f497_12:AC:=.seq (.reg f497_10) f497_11
def f497_13:List AI:=[o 40 (.load false 1 t8),
 o 41 (.load false 1 t10),
 o 42 (.iaddr 1 t40 t41),
 v (.store 1 t42 (z 65))]
def f497_14:List AI:=[o 43 (.mov t0),
 o 44 (.mov t6),
 o 45 (.load false 1 t10),
 o 46 (.slice .slc 1 t44 (some t45) none none),
 o 47 (.call (g 505) [t43,t46]),
 o 48 (.call (g 508) [t47])]
def f497_15:List AI:=[o 12 (.mov t50)]
def f497_16:List AI:=[o 51 (.load false 1 t8),
 o 52 (.load false 1 t10),
 o 53 (.mov t12),
 o 54 (.bin .add t52 t53),
 o 55 (.iaddr 1 t51 t54),
 o 56 (.load false 1 t55),
 o 57 (.bin .add t56 (z 1)),
 o 13 (.mov t57)]
def f497_17:List AI:=[o 58 (.mov t13),
 o 59 (.load false 1 t8),
 o 60 (.load false 1 t10),
 o 61 (.iaddr 1 t59 t60),
 o 62 (.load false 1 t61),
 o 63 (.bin .lss t58 t62)]
def f497_18 : List (List AI) := [[o 64 (.load false 1 t8),
 o 65 (.load false 1 t10),
 o 66 (.load false 1 t9),
 o 67 (.load false 1 t10),
 o 68 (.mov t13),
 o 69 (.mov t12),
 o 70 (.iaddr 1 t64 t65),
 v (.store 1 t70 t68),
 o 71 (.iaddr 1 t66 t67),
 v (.store 1 t71 t69)],[o 64 (.load false 1 t8),
 o 65 (.load false 1 t10),
 o 67 (.load false 1 t10),
 o 68 (.mov t13),
 o 69 (.mov t12),
 o 70 (.iaddr 1 t64 t65),
 v (.store 1 t70 t68),
 o 66 (.load false 1 t9),
 o 71 (.iaddr 1 t66 t67),
 v (.store 1 t71 t69)],[o 64 (.load false 1 t8),
 o 65 (.load false 1 t10),
 o 66 (.load false 1 t9),
 o 68 (.mov t13),
 o 69 (.mov t12),
 o 70 (.iaddr 1 t64 t65),
 v (.store 1 t70 t68),
 o 67 (.load false 1 t10),
 o 71 (.iaddr 1 t66 t67),
 v (.store 1 t71 t69)],[o 64 (.load false 1 t8),
 o 65 (.load false 1 t10),
 o 68 (.mov t13),
 o 69 (.mov t12),
 o 70 (.iaddr 1 t64 t65),
 v (.store 1 t70 t68),
 o 66 (.load false 1 t9),
 o 67 (.load false 1 t10),
 o 71 (.iaddr 1 t66 t67),
 v (.store 1 t71 t69)]]
def f497_19:AC:=.cond t63 (.dalt f497_18) .skip
def f497_20:AC:=.seq (.reg f497_17) f497_19
def f497_21:AC:=.seq (.reg f497_16) f497_20
def f497_22:AC:=.block 3 f497_21
def f497_23:AC:=.rangeF t48 [49,50] (.reg f497_15) f497_22
def f497_24:AC:=.block 2 f497_23
def f497_25:AC:=.seq (.reg f497_14) f497_24
def f497_26:AC:=.seq (.reg f497_13) f497_25
def f497_27:AC:=.block 1 f497_26
def f497_28:List AI:=[o 72 (.load false 1 t10)]
def f497_29:List AI:=[o 10 (.new [(.int .i64 0)]),
 v (.store 1 t10 t72)]
def f497_30:AC:=.seq (.reg f497_28) (.reg f497_29)
def f497_31:List AI:=[o 38 (.load false 1 t10),
 o 39 (.bin .sub t38 (z 1)),
 v (.store 1 t10 t39)]
def f497_32:AC:=.seq f497_30 (.reg f497_31)
def f497_33:AC:=.seq f497_27 f497_32
def f497_34:AC:=.seq f497_12 f497_33
def f497_35:AC:=.loop f497_34
def f497_36:AC:=.block 0 f497_35
def f497_37:AC:=.seq (.reg f497_9) f497_36
def f497_38:List AI:=[o 73 (.load false 1 t8),
 o 74 (.iaddr 1 t73 (z 0)),
 o 75 (.load false 1 t74),
 o 76 (.bin .gtr t75 (z 64))]
def f497_39:List AI:=[o 4 (.mov kN),
 o 5 (.mov (z 10))]
def f497_40:AC:=.seq (.reg f497_39) .ret
def f497_41:AC:=.cond t76 f497_40 .skip
def f497_42:AC:=.seq (.reg f497_38) f497_41
def f497_43:List AI:=[o 14 (.mov kN)]
def f497_44:List AI:=[o 15 (.mov (z 0))]
def f497_45:List AI:=[o 77 (.mov t15),
 o 78 (.mov t6),
 o 79 (.len .slc t78),
 o 80 (.bin .lss t77 t79)]
def f497_46:AC:=.cond t80 .skip (.exit 4)
def f497_47:AC:=.seq (.reg f497_45) f497_46
def f497_48:List AI:=[o 87 (.mov t14),
 o 88 (.mov t6),
 o 89 (.mov t15),
 o 90 (.mov t15),
 o 91 (.load false 1 t9),
 o 92 (.mov t15),
 o 93 (.iaddr 1 t91 t92),
 o 94 (.load false 1 t93),
 o 95 (.bin .add t90 t94),
 o 96 (.slice .slc 1 t88 (some t89) (some t95) none),
 o 97 (.call (g 506) [t96]),
 o 98 (.rowLit 1 [(.str [])] 1 [(0,t97)]),
 o 99 (.app 1 16 t87 t98),
 o 14 (.mov t99)]
def f497_49:AC:=.block 5 (.reg f497_48)
def f497_50:List AI:=[o 81 (.mov t15),
 o 82 (.load false 1 t9),
 o 83 (.mov t15),
 o 84 (.iaddr 1 t82 t83),
 o 85 (.load false 1 t84),
 o 86 (.bin .add t81 t85),
 o 15 (.mov t86)]
def f497_51:AC:=.seq f497_49 (.reg f497_50)
def f497_52:AC:=.seq f497_47 f497_51
def f497_53:AC:=.loop f497_52
def f497_54:AC:=.block 4 f497_53
def f497_55:AC:=.seq (.reg f497_44) f497_54
def f497_56:List AI:=[o 100 (.mov t14),
 o 4 (.mov t100),
 o 5 (.mov (z 0))]
def f497_57:AC:=.seq (.reg f497_56) .ret
def f497_58:AC:=.seq f497_55 f497_57
def f497_59:AC:=.seq (.reg f497_43) f497_58
def f497_60:AC:=.seq f497_42 f497_59
def f497_61:AC:=.seq f497_37 f497_60
def f497_62:AC:=.seq (.reg f497_8) f497_61
def f497_63:AC:=.seq (.reg f497_7) f497_62
def f497_64:AC:=.seq f497_6 f497_63
def f497_65:AC:=.seq (.reg f497_1) f497_64
def f497_66:AC:=.seq (.reg f497_0) f497_65
def f497B:AC:=f497_66
def f497:AF:=⟨2,101,[(.t 4),(.t 5)],f497B⟩
def f500_0:List AI:=[o 4 (.mov kN),
 o 5 (.mov (z 0))]
def f500_1:List AI:=[o 8 (.mov t0),
 o 9 (.eqv .ptr false t8 kP)]
def f500_2:List AI:=[o 4 (.mov kN),
 o 5 (.mov (z 1))]
def f500_3:AC:=.seq (.reg f500_2) .ret
def f500_4:AC:=.cond t9 f500_3 .skip
def f500_5:AC:=.seq (.reg f500_1) f500_4
def f500_6:List AI:=[o 11 (.mov t1),
 o 12 (.call (g 17) [t11]),
 o 10 (.mov t12),
 o 13 (.ext t10 0),
 o 14 (.ext t10 1),
 o 6 (.mov t13),
 o 7 (.mov t14)]
def f500_7:List AI:=[o 15 (.mov t7),
 o 16 (.bin .eql t15 (z 0)),
 o 17 (.mov t16),
 ⟨some 18,.mov t6,some (17,true)⟩,
 ⟨some 19,.len .slc t18,some (17,true)⟩,
 ⟨some 20,.bin .gtr t19 (z 64),some (17,true)⟩,
 o 21 (.pick t17 t20 kF)]
def f500_8:List AI:=[o 4 (.mov kN),
 o 5 (.mov (z 5))]
def f500_9:AC:=.seq (.reg f500_8) .ret
def f500_10:AC:=.cond t21 f500_9 .skip
def f500_11:AC:=.seq (.reg f500_7) f500_10
def f500_12:List AI:=[o 22 (.mov t6),
 o 23 (.mov t7),
 o 4 (.mov t22),
 o 5 (.mov t23)]
def f500_13:AC:=.seq (.reg f500_12) .ret
def f500_14:AC:=.seq f500_11 f500_13
def f500_15:AC:=.seq (.reg f500_6) f500_14
def f500_16:AC:=.seq f500_5 f500_15
def f500_17:AC:=.seq (.reg f500_0) f500_16
def f500B:AC:=f500_17
def f500:AF:=⟨2,24,[(.t 4),(.t 5)],f500B⟩
def f501_0:List AI:=[o 2 (.box t0),
 o 3 (.box t1),
 o 4 (.mov (.c (.one .nilf)))]
def f501_1:List AI:=[o 5 (.mkfn 510 [t3,t2]),
 o 4 (.mov t5)]
def f501_2:AC:=.seq (.reg f501_1) .ret
def f501_3:AC:=.seq (.reg f501_0) f501_2
def f501B:AC:=f501_3
def f501:AF:=⟨2,6,[(.t 4)],f501B⟩
def f503_0:List AI:=[o 2 (.box t0),
 o 3 (.box t1),
 o 4 (.mov (z 0)),
 o 5 (.mov (z 0))]
def f503_1:List AI:=[o 8 (.load false 1 t2),
 o 9 (.call (g 284) [t8]),
 o 10 (.mkfn 512 [t2,t3]),
 o 11 (.call (g 511) [t9,t10]),
 o 6 (.new [(.int .i64 0)]),
 v (.store 1 t6 t11)]
def f503_2 : List (List AI) := [[o 12 (.load false 1 t2),
 o 13 (.call (g 284) [t12]),
 o 14 (.load false 1 t6),
 o 15 (.bin .sub t13 t14),
 o 16 (.mkfn 513 [t2,t6,t3])]]
def f503_3:List AI:=[o 17 (.call (g 511) [t15,t16]),
 o 7 (.mov t17)]
def f503_4:List AI:=[o 18 (.load false 1 t6),
 o 19 (.load false 1 t6),
 o 20 (.mov t7),
 o 21 (.bin .add t19 t20),
 o 4 (.mov t18),
 o 5 (.mov t21)]
def f503_5:AC:=.seq (.dreg f503_4) .ret
def f503_6:AC:=.seq (.dtl f503_2 f503_3) f503_5
def f503_7:AC:=.seq (.reg f503_1) f503_6
def f503_8:AC:=.seq (.reg f503_0) f503_7
def f503B:AC:=f503_8
def f503:AF:=⟨2,22,[(.t 4),(.t 5)],f503B⟩
def f505_0:List AI:=[o 2 (.box t0),
 o 4 (.new [.nils])]
def f505_1:List AI:=[o 9 (.load false 1 t2),
 o 10 (.mov t1),
 o 11 (.call (g 501) [t9,t10])]
def f505_2:List AI:=[o 5 (.mov t12)]
def f505_3:List AI:=[o 6 (.mov t13)]
def f505_4:AC:=.seq (.reg f505_2) (.reg f505_3)
def f505_5:List AI:=[o 15 (.load false 1 t2),
 o 16 (.mov t6),
 o 17 (.call (g 286) [t15,t16]),
 o 14 (.mov t17),
 o 18 (.ext t14 0),
 o 19 (.ext t14 1),
 o 7 (.mov t18),
 o 8 (.mov t19)]
def f505_6:List AI:=[o 20 (.mov t7)]
def f505_7:List AI:=[o 21 (.load false 1 t4),
 o 22 (.mov t5),
 o 23 (.rowLit 1 [(.int .i64 0)] 1 [(0,t22)]),
 o 24 (.app 1 8 t21 t23),
 v (.store 1 t4 t24)]
def f505_8:AC:=.cond t20 (.reg f505_7) .skip
def f505_9:AC:=.seq (.reg f505_6) f505_8
def f505_10:AC:=.seq (.reg f505_5) f505_9
def f505_11:AC:=.block 1 f505_10
def f505_12:AC:=.rangeF t11 [12,13] f505_4 f505_11
def f505_13:AC:=.block 0 f505_12
def f505_14:AC:=.seq (.reg f505_1) f505_13
def f505_15:List AI:=[o 25 (.load false 1 t4),
 v (.store 1 t4 t25)]
def f505_16:AC:=.seq (.reg f505_15) .ret
def f505_17:AC:=.seq f505_14 f505_16
def f505_18:AC:=.seq (.reg f505_0) f505_17
def f505B:AC:=f505_18
def f505:AF:=⟨2,26,[(.cell 4 false 1)],f505B⟩
def f506_0:List AI:=[o 2 (.mov (.c (.one (.str []))))]
def f506_1:List AI:=[o 6 (.mov t0),
 o 7 (.call (g 33) [t6]),
 o 5 (.mov t7),
 o 8 (.ext t5 0),
 o 9 (.ext t5 1),
 o 3 (.mov t8),
 o 4 (.mov t9)]
def f506_2:List AI:=[o 10 (.mov t3),
 o 2 (.mov t10)]
def f506_3:AC:=.seq (.reg f506_2) .ret
def f506_4:AC:=.seq (.reg f506_1) f506_3
def f506_5:AC:=.seq (.reg f506_0) f506_4
def f506B:AC:=f506_5
def f506:AF:=⟨1,11,[(.t 2)],f506B⟩
def f507_0:List AI:=[o 4 (.new [(.str []),(.int .i64 0)])]
def f507_1:List AI:=[o 8 (.mov t0),
 o 9 (.mov t1),
 o 10 (.call (g 302) [t8,t9]),
 o 7 (.mov t10),
 o 11 (.ext t7 0),
 o 12 (.ext t7 1),
 o 5 (.new [(.str []),(.int .i64 0)]),
 v (.store 2 t5 t11),
 o 6 (.mov t12)]
def f507_2:List AI:=[o 13 (.load true 2 t5),
 v (.store 2 t4 t13)]
def f507_3:AC:=.seq (.reg f507_2) .ret
def f507_4:AC:=.seq (.reg f507_1) f507_3
def f507_5:AC:=.seq (.reg f507_0) f507_4
def f507B:AC:=f507_5
def f507:AF:=⟨2,14,[(.cell 4 true 2)],f507B⟩
def f508_0:List AI:=[o 1 (.box t0),
 o 2 (.mov (.c (.one .nilf)))]
def f508_1:List AI:=[o 3 (.mkfn 514 [t1]),
 o 2 (.mov t3)]
def f508_2:AC:=.seq (.reg f508_1) .ret
def f508_3:AC:=.seq (.reg f508_0) f508_2
def f508B:AC:=f508_3
def f508:AF:=⟨1,4,[(.t 2)],f508B⟩
def f510_0:List AI:=[o 4 (.mov (z 0))]
def f510_1:List AI:=[o 5 (.mov (z 0))]
def f510_2:List AI:=[o 8 (.mov t0),
 o 9 (.mov t5),
 o 10 (.mov t4),
 o 11 (.call t8 [t9,t10]),
 o 12 (.mov t11),
 ⟨some 13,.mov t5,some (12,true)⟩,
 ⟨some 14,.load false 1 t1,some (12,true)⟩,
 ⟨some 15,.len .slc t14,some (12,true)⟩,
 ⟨some 16,.bin .lss t13 t15,some (12,true)⟩,
 o 17 (.pick t12 t16 kF)]
def f510_3:AC:=.cond t17 .skip (.exit 0)
def f510_4:AC:=.seq (.reg f510_2) f510_3
def f510_5:List AI:=[o 21 (.load false 1 t2),
 o 22 (.mov t4),
 o 23 (.load false 1 t1),
 o 24 (.mov t5),
 o 25 (.iaddr 1 t23 t24),
 o 26 (.load false 1 t25),
 o 27 (.call (g 289) [t21,t22,t26]),
 o 20 (.mov t27),
 o 28 (.ext t20 0),
 o 29 (.ext t20 1),
 o 6 (.mov t28),
 o 7 (.mov t29)]
def f510_6:List AI:=[o 30 (.mov t7),
 o 31 (.bin .neq t30 (z 0))]
def f510_7:AC:=.cond t31 (.exit 0) .skip
def f510_8:AC:=.seq (.reg f510_6) f510_7
def f510_9:List AI:=[o 32 (.mov t6),
 o 4 (.mov t32)]
def f510_10:AC:=.seq f510_8 (.reg f510_9)
def f510_11:AC:=.seq (.dreg f510_5) f510_10
def f510_12:AC:=.block 1 f510_11
def f510_13:List AI:=[o 18 (.mov t5),
 o 19 (.bin .add t18 (z 1)),
 o 5 (.mov t19)]
def f510_14:AC:=.seq f510_12 (.reg f510_13)
def f510_15:AC:=.seq f510_4 f510_14
def f510_16:AC:=.loop f510_15
def f510_17:AC:=.block 0 f510_16
def f510_18:AC:=.seq (.reg f510_1) f510_17
def f510_19:AC:=.seq .skip f510_18
def f510_20:AC:=.seq (.reg f510_0) f510_19
def f510_21:AC:=.seq .skip f510_20
def f510B:AC:=f510_21
def f510:AF:=⟨3,33,[],f510B⟩
def f511_0:List AI:=[o 4 (.mov (z 0))]
def f511_1:List AI:=[o 8 (.mov t0),
 o 5 (.mov (z 0)),
 o 6 (.mov t8)]
def f511_2:List AI:=[o 9 (.mov t5),
 o 10 (.mov t6),
 o 11 (.bin .lss t9 t10)]
def f511_3:AC:=.cond t11 .skip (.exit 0)
def f511_4:AC:=.seq (.reg f511_2) f511_3
def f511_5:List AI:=[o 12 (.mov t5),
 o 13 (.mov t6),
 o 14 (.bin .add t12 t13),
 o 15 (.wrapI .u64 t14),
 o 16 (.bin .shr t15 (.c (.one (.int .u64 1)))),
 o 17 (.wrapI .i64 t16),
 o 7 (.mov t17)]
def f511_6:List AI:=[o 18 (.mov t1),
 o 19 (.mov t7),
 o 20 (.call t18 [t19]),
 o 21 (.un .not t20)]
def f511_7:List AI:=[o 22 (.mov t7),
 o 23 (.bin .add t22 (z 1)),
 o 5 (.mov t23)]
def f511_8:List AI:=[o 24 (.mov t7),
 o 6 (.mov t24)]
def f511_9:AC:=.cond t21 (.reg f511_7) (.reg f511_8)
def f511_10:AC:=.seq (.reg f511_6) f511_9
def f511_11:AC:=.seq (.reg f511_5) f511_10
def f511_12:AC:=.block 1 f511_11
def f511_13:AC:=.seq f511_4 f511_12
def f511_14:AC:=.loop f511_13
def f511_15:AC:=.block 0 f511_14
def f511_16:List AI:=[o 25 (.mov t5),
 o 4 (.mov t25)]
def f511_17:AC:=.seq (.reg f511_16) .ret
def f511_18:AC:=.seq f511_15 f511_17
def f511_19:AC:=.seq (.reg f511_1) f511_18
def f511_20:AC:=.seq (.reg f511_0) f511_19
def f511B:AC:=f511_20
def f511:AF:=⟨2,26,[(.t 4)],f511B⟩
def f512_0:List AI:=[o 4 (.mov kF)]
def f512_1:List AI:=[o 5 (.load false 1 t1),
 o 6 (.mov t0),
 o 7 (.call (g 507) [t5,t6]),
 o 8 (.fld false 0 1 t7),
 o 9 (.load false 1 t2),
 o 10 (.bin .geq t8 t9),
 o 4 (.mov t10)]
def f512_2:AC:=.seq (.dreg f512_1) .ret
def f512_3:AC:=.seq (.reg f512_0) f512_2
def f512B:AC:=f512_3
def f512:AF:=⟨3,11,[(.t 4)],f512B⟩
def f513_0:List AI:=[o 5 (.mov kF)]
def f513_1:List AI:=[o 6 (.load false 1 t1),
 o 7 (.load false 1 t2),
 o 8 (.mov t0),
 o 9 (.bin .add t7 t8),
 o 10 (.call (g 507) [t6,t9]),
 o 11 (.fld false 0 1 t10),
 o 12 (.load false 1 t3),
 o 13 (.call (g 65) [t11,t12]),
 o 14 (.un .not t13),
 o 5 (.mov t14)]
def f513_2:AC:=.seq (.dreg f513_1) .ret
def f513_3:AC:=.seq (.reg f513_0) f513_2
def f513B:AC:=f513_3
def f513:AF:=⟨4,15,[(.t 5)],f513B⟩
def f514_0:List AI:=[o 4 (.load false 1 t1),
 o 5 (.len .slc t4),
 o 6 (.bin .sub t5 (z 1)),
 o 3 (.mov t6)]
def f514_1:List AI:=[o 7 (.mov t3),
 o 8 (.bin .geq t7 (z 0))]
def f514_2:AC:=.cond t8 .skip (.exit 0)
def f514_3:AC:=.seq (.reg f514_1) f514_2
def f514_4:List AI:=[o 11 (.mov t0),
 o 12 (.mov t3),
 o 13 (.load false 1 t1),
 o 14 (.mov t3),
 o 15 (.iaddr 1 t13 t14),
 o 16 (.load false 1 t15),
 o 17 (.call t11 [t12,t16]),
 o 18 (.un .not t17)]
def f514_5:AC:=.cond t18 .ret .skip
def f514_6:AC:=.seq (.reg f514_4) f514_5
def f514_7:AC:=.block 1 f514_6
def f514_8:List AI:=[o 9 (.mov t3),
 o 10 (.bin .sub t9 (z 1)),
 o 3 (.mov t10)]
def f514_9:AC:=.seq f514_7 (.reg f514_8)
def f514_10:AC:=.seq f514_3 f514_9
def f514_11:AC:=.loop f514_10
def f514_12:AC:=.block 0 f514_11
def f514_13:AC:=.seq (.reg f514_0) f514_12
def f514B:AC:=f514_13
def f514:AF:=⟨2,19,[],f514B⟩
end Go.EA.F
