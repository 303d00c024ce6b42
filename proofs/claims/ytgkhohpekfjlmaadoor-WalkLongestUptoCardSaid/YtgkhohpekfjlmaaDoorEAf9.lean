/- Functions of the program, as abstract code (printed by a program). Conditions: none (definitions). -/
import Derived.Test.YtgkhohpekfjlmaaDoorEK1
namespace Go.EA.F
namespace AF381
def o (d:Nat) (x:AOp):AI:=⟨some d,x,none⟩
def v (x:AOp):AI:=⟨none,x,none⟩
def kF:Opd:=.c (.one (.bool false))
def kT:Opd:=.c (.one (.bool true))
def kN:Opd:=.c (.one .nils)
def kP:Opd:=.c (.one .nilp)
def z (n:Int):Opd:=.c (.one (.int .i64 n))
def g (n:Nat):Opd:=.c (.one (.fn n []))
def t0:Opd:=.t 0
def t1:Opd:=.t 1
def t2:Opd:=.t 2
def t3:Opd:=.t 3
def t4:Opd:=.t 4
def t5:Opd:=.t 5
def t6:Opd:=.t 6
def t7:Opd:=.t 7
def t8:Opd:=.t 8
def t9:Opd:=.t 9
def t10:Opd:=.t 10
def t11:Opd:=.t 11
def t12:Opd:=.t 12
def t13:Opd:=.t 13
def t14:Opd:=.t 14
def t15:Opd:=.t 15
def t16:Opd:=.t 16
def t17:Opd:=.t 17
def t18:Opd:=.t 18
def t19:Opd:=.t 19
def t20:Opd:=.t 20
def t21:Opd:=.t 21
def t22:Opd:=.t 22
def t23:Opd:=.t 23
def t24:Opd:=.t 24
def t25:Opd:=.t 25
def t26:Opd:=.t 26
def t27:Opd:=.t 27
def t28:Opd:=.t 28
def t29:Opd:=.t 29
def t30:Opd:=.t 30
def t31:Opd:=.t 31
def t32:Opd:=.t 32
def t33:Opd:=.t 33
def t34:Opd:=.t 34
def t35:Opd:=.t 35
def t36:Opd:=.t 36
def t37:Opd:=.t 37
def t38:Opd:=.t 38
def t39:Opd:=.t 39
def t40:Opd:=.t 40
def t41:Opd:=.t 41
def t42:Opd:=.t 42
def t43:Opd:=.t 43
def t44:Opd:=.t 44
def t45:Opd:=.t 45
def t46:Opd:=.t 46
def t47:Opd:=.t 47
def t48:Opd:=.t 48
def t49:Opd:=.t 49
def t50:Opd:=.t 50
def t51:Opd:=.t 51
def t52:Opd:=.t 52
def t53:Opd:=.t 53
def t54:Opd:=.t 54
def t55:Opd:=.t 55
def t56:Opd:=.t 56
def t57:Opd:=.t 57
def t58:Opd:=.t 58
def t59:Opd:=.t 59
def t60:Opd:=.t 60
def t61:Opd:=.t 61
def t62:Opd:=.t 62
def t63:Opd:=.t 63
def t64:Opd:=.t 64
def t65:Opd:=.t 65
def t66:Opd:=.t 66
def t67:Opd:=.t 67
def t68:Opd:=.t 68
def t69:Opd:=.t 69
def t70:Opd:=.t 70
def t71:Opd:=.t 71
def t72:Opd:=.t 72
def t73:Opd:=.t 73
def t74:Opd:=.t 74
def t75:Opd:=.t 75
def t76:Opd:=.t 76
def t77:Opd:=.t 77
def t78:Opd:=.t 78
def t79:Opd:=.t 79
def t80:Opd:=.t 80
def t81:Opd:=.t 81
def t82:Opd:=.t 82
def t83:Opd:=.t 83
def t84:Opd:=.t 84
def t85:Opd:=.t 85
def t86:Opd:=.t 86
def t87:Opd:=.t 87
def t88:Opd:=.t 88
def t89:Opd:=.t 89
def t90:Opd:=.t 90
def t91:Opd:=.t 91
def t92:Opd:=.t 92
def t93:Opd:=.t 93
def t94:Opd:=.t 94
def t95:Opd:=.t 95
def t96:Opd:=.t 96
def t97:Opd:=.t 97
def t98:Opd:=.t 98
def t99:Opd:=.t 99
def t100:Opd:=.t 100
def t101:Opd:=.t 101
def t102:Opd:=.t 102
def t103:Opd:=.t 103
def t104:Opd:=.t 104
def t105:Opd:=.t 105
def t106:Opd:=.t 106
def t107:Opd:=.t 107
def t108:Opd:=.t 108
def t109:Opd:=.t 109
def t110:Opd:=.t 110
def t111:Opd:=.t 111
def t112:Opd:=.t 112
def t113:Opd:=.t 113
def t114:Opd:=.t 114
def t115:Opd:=.t 115
def t116:Opd:=.t 116
def t117:Opd:=.t 117
def t118:Opd:=.t 118
def t119:Opd:=.t 119
def t120:Opd:=.t 120
def t121:Opd:=.t 121
end AF381
open AF381
def f278_0:List AI:=[o 2 (.mov kP),
 o 3 (.mov (z 0))]
def f278_1:List AI:=[o 9 (.mov t0),
 o 10 (.call (g 296) [t9]),
 o 4 (.mov t10)]
def f278_2:List AI:=[o 11 (.mov t4),
 o 12 (.bin .neq t11 (z 0))]
def f278_3:List AI:=[o 13 (.mov t4),
 o 2 (.mov kP),
 o 3 (.mov t13)]
def f278_4:AC:=.seq (.reg f278_3) .ret
def f278_5:AC:=.cond t12 f278_4 .skip
def f278_6:AC:=.seq (.reg f278_2) f278_5
def f278_7:AC:=.seq (.reg f278_1) f278_6
def f278_8:List AI:=[o 14 (.build [.nils,(.bool false),(.int .i64 0)] []),
 o 15 (.rowLit 3 [.nils,(.bool false),(.int .i64 0)] 1 [(0,t14)]),
 o 16 (.mkmap),
 o 17 (.build [.nils,.nilm] [(0,(1,t15)),(1,(1,t16))]),
 o 18 (.box t17),
 o 5 (.mov t18)]
def f278_9:List AI:=[o 19 (.mov t5),
 o 20 (.mov t0),
 o 21 (.call (g 311) [t19,t20])]
def f278_10:List AI:=[o 22 (.build [.nils,(.int .i64 0),.nils] []),
 o 23 (.box t22),
 o 6 (.mov t23)]
def f278_11:List AI:=[o 24 (.mov t6),
 o 25 (.mov t5),
 o 26 (.mkmap),
 o 27 (.call (g 312) [t24,t25,(z 0),t26])]
def f278_12:List AI:=[o 28 (.mov t0),
 o 29 (.len .slc t28),
 o 30 (.mov (z 0))]
def f278_13:List AI:=[o 31 (.bin .lss t30 t29)]
def f278_14:AC:=.cond t31 .skip (.exit 0)
def f278_15:List AI:=[o 32 (.iaddr 2 t28 t30),
 o 33 (.load true 2 t32),
 o 8 (.new [(.str []),(.int .i64 0)]),
 v (.store 2 t8 t33)]
def f278_16:List AI:=[o 34 (.mov t6),
 o 35 (.mov t6),
 o 36 (.nilck t35),
 o 37 (.faddr 2 t36),
 o 38 (.load false 1 t37),
 o 39 (.faddr 1 t8),
 o 40 (.load false 1 t39),
 o 41 (.rowLit 1 [(.int .i64 0)] 1 [(0,t40)]),
 o 42 (.app 1 8 t38 t41),
 o 43 (.nilck t34),
 o 44 (.faddr 2 t43),
 v (.store 1 t44 t42)]
def f278_17:AC:=.seq (.reg f278_15) (.dreg f278_16)
def f278_18:AC:=.block 1 f278_17
def f278_19:List AI:=[o 45 (.bin .add t30 (z 1)),
 o 30 (.mov t45)]
def f278_20:AC:=.seq f278_18 (.reg f278_19)
def f278_21:AC:=.seq f278_14 f278_20
def f278_22:AC:=.seq (.reg f278_13) f278_21
def f278_23:AC:=.loop f278_22
def f278_24:AC:=.block 0 f278_23
def f278_25:AC:=.seq (.reg f278_12) f278_24
def f278_26:List AI:=[o 46 (.mov t6),
 o 2 (.mov t46),
 o 3 (.mov (z 0))]
def f278_27:AC:=.seq (.reg f278_26) .ret
def f278_28:AC:=.seq f278_25 f278_27
def f278_29:AC:=.seq (.reg f278_11) f278_28
def f278_30:AC:=.seq (.reg f278_10) f278_29
def f278_31:AC:=.seq (.reg f278_9) f278_30
def f278_32:AC:=.seq (.reg f278_8) f278_31
def f278_33:AC:=.seq f278_7 f278_32
def f278_34:AC:=.seq (.reg f278_0) f278_33
def f278B:AC:=f278_34
def f278:AF:=⟨1,47,[(.t 2),(.t 3)],f278B⟩
def f286_0:List AI:=[o 4 (.mov kF),
 o 5 (.mov (z 0))]
def f286_1:List AI:=[o 9 (.mov t0),
 o 10 (.mov t1),
 o 11 (.call (g 314) [t9,t10]),
 o 8 (.mov t11),
 o 12 (.ext t8 0),
 o 13 (.ext t8 1),
 o 6 (.mov t12),
 o 7 (.mov t13)]
def f286_2:List AI:=[o 14 (.mov t7),
 o 15 (.bin .neq t14 (z 0))]
def f286_3:List AI:=[o 16 (.mov t7),
 o 4 (.mov kF),
 o 5 (.mov t16)]
def f286_4:AC:=.seq (.reg f286_3) .ret
def f286_5:AC:=.cond t15 f286_4 .skip
def f286_6:AC:=.seq (.reg f286_2) f286_5
def f286_7:List AI:=[o 17 (.mov t6),
 o 18 (.nilck t17),
 o 19 (.faddr 1 t18),
 o 20 (.load false 1 t19),
 o 4 (.mov t20),
 o 5 (.mov (z 0))]
def f286_8:AC:=.seq (.reg f286_7) .ret
def f286_9:AC:=.seq f286_6 f286_8
def f286_10:AC:=.seq (.reg f286_1) f286_9
def f286_11:AC:=.seq (.reg f286_0) f286_10
def f286B:AC:=f286_11
def f286:AF:=⟨2,21,[(.t 4),(.t 5)],f286B⟩
def f289_0:List AI:=[o 6 (.mov (z 0)),
 o 7 (.mov (z 0))]
def f289_1:List AI:=[o 13 (.mov t0),
 o 14 (.mov t1),
 o 15 (.call (g 314) [t13,t14]),
 o 12 (.mov t15),
 o 16 (.ext t12 0),
 o 17 (.ext t12 1),
 o 8 (.mov t16),
 o 9 (.mov t17)]
def f289_2:List AI:=[o 18 (.mov t9),
 o 19 (.bin .neq t18 (z 0))]
def f289_3:List AI:=[o 20 (.mov t9),
 o 6 (.mov (z 0)),
 o 7 (.mov t20)]
def f289_4:AC:=.seq (.reg f289_3) .ret
def f289_5:AC:=.cond t19 f289_4 .skip
def f289_6:AC:=.seq (.reg f289_2) f289_5
def f289_7:List AI:=[o 22 (.mov t8),
 o 23 (.mov t2),
 o 24 (.call (g 316) [t22,t23]),
 o 21 (.mov t24),
 o 25 (.ext t21 0),
 o 26 (.ext t21 1),
 o 10 (.mov t25),
 o 11 (.mov t26)]
def f289_8:List AI:=[o 27 (.mov t11),
 o 28 (.un .not t27)]
def f289_9:List AI:=[o 6 (.mov (z 0)),
 o 7 (.mov (z 10))]
def f289_10:AC:=.seq (.reg f289_9) .ret
def f289_11:AC:=.cond t28 f289_10 .skip
def f289_12:AC:=.seq (.reg f289_8) f289_11
def f289_13:List AI:=[o 29 (.mov t8),
 o 30 (.nilck t29),
 o 31 (.faddr 0 t30),
 o 32 (.load false 1 t31),
 o 33 (.mov t10),
 o 34 (.iaddr 2 t32 t33),
 o 35 (.faddr 1 t34),
 o 36 (.load false 1 t35),
 o 6 (.mov t36),
 o 7 (.mov (z 0))]
def f289_14:AC:=.seq (.reg f289_13) .ret
def f289_15:AC:=.seq f289_12 f289_14
def f289_16:AC:=.seq (.reg f289_7) f289_15
def f289_17:AC:=.seq f289_6 f289_16
def f289_18:AC:=.seq (.reg f289_1) f289_17
def f289_19:AC:=.seq (.reg f289_0) f289_18
def f289B:AC:=f289_19
def f289:AF:=⟨3,37,[(.t 6),(.t 7)],f289B⟩
def f291_0:List AI:=[o 2 (.mov kN),
 o 3 (.mov (z 0))]
def f291_1:List AI:=[o 9 (.mov t0),
 o 10 (.call (g 317) [t9]),
 o 4 (.mov t10)]
def f291_2:List AI:=[o 11 (.mov t4),
 o 12 (.bin .neq t11 (z 0))]
def f291_3:List AI:=[o 13 (.mov t4),
 o 2 (.mov kN),
 o 3 (.mov t13)]
def f291_4:AC:=.seq (.reg f291_3) .ret
def f291_5:AC:=.cond t12 f291_4 .skip
def f291_6:AC:=.seq (.reg f291_2) f291_5
def f291_7:AC:=.seq (.reg f291_1) f291_6
def f291_8:List AI:=[o 5 (.mov kN)]
def f291_9:List AI:=[o 14 (.mov t0),
 o 15 (.len .slc t14),
 o 16 (.mov (z 0))]
def f291_10:List AI:=[o 17 (.bin .lss t16 t15)]
def f291_11:AC:=.cond t17 .skip (.exit 0)
def f291_12:List AI:=[o 18 (.iaddr 2 t14 t16),
 o 19 (.load true 2 t18),
 o 7 (.new [(.str []),(.int .i64 0)]),
 v (.store 2 t7 t19)]
def f291_13:List AI:=[o 8 (.mov (z 0))]
def f291_14:List AI:=[o 20 (.mov t8),
 o 21 (.mov t5),
 o 22 (.len .slc t21),
 o 23 (.bin .lss t20 t22),
 o 24 (.mov t23),
 ⟨some 25,.mov t5,some (24,true)⟩,
 ⟨some 26,.mov t8,some (24,true)⟩,
 ⟨some 27,.iaddr 2 t25 t26,some (24,true)⟩,
 ⟨some 28,.faddr 0 t27,some (24,true)⟩,
 ⟨some 29,.load false 1 t28,some (24,true)⟩,
 ⟨some 30,.faddr 0 t7,some (24,true)⟩,
 ⟨some 31,.load false 1 t30,some (24,true)⟩,
 ⟨some 32,.bin .lss t29 t31,some (24,true)⟩,
 o 33 (.pick t24 t32 kF)]
def f291_15:AC:=.cond t33 .skip (.exit 2)
def f291_16:AC:=.seq (.dreg f291_14) f291_15
def f291_17:List AI:=[o 34 (.mov t8),
 o 35 (.bin .add t34 (z 1)),
 o 8 (.mov t35)]
def f291_18:AC:=.block 3 (.reg f291_17)
def f291_19:AC:=.seq f291_16 f291_18
def f291_20:AC:=.loop f291_19
def f291_21:AC:=.block 2 f291_20
def f291_22:List AI:=[o 36 (.mov t8),
 o 37 (.mov t5),
 o 38 (.len .slc t37),
 o 39 (.bin .lss t36 t38),
 o 40 (.mov t39),
 ⟨some 41,.mov t5,some (40,true)⟩,
 ⟨some 42,.mov t8,some (40,true)⟩,
 ⟨some 43,.iaddr 2 t41 t42,some (40,true)⟩,
 ⟨some 44,.faddr 0 t43,some (40,true)⟩,
 ⟨some 45,.load false 1 t44,some (40,true)⟩,
 ⟨some 46,.faddr 0 t7,some (40,true)⟩,
 ⟨some 47,.load false 1 t46,some (40,true)⟩,
 ⟨some 48,.bin .eql t45 t47,some (40,true)⟩,
 o 49 (.pick t40 t48 kF)]
def f291_23:List AI:=[o 50 (.mov t5),
 o 51 (.mov t8),
 o 52 (.mov t5),
 o 53 (.mov t8),
 o 54 (.iaddr 2 t52 t53),
 o 55 (.faddr 1 t54),
 o 56 (.load false 1 t55),
 o 57 (.faddr 1 t7),
 o 58 (.load false 1 t57),
 o 59 (.bin .add t56 t58),
 o 60 (.best false [(z 1073741824),t59]),
 o 61 (.iaddr 2 t50 t51),
 o 62 (.faddr 1 t61),
 v (.store 1 t62 t60)]
def f291_24:AC:=.seq (.dreg f291_23) (.exit 1)
def f291_25:AC:=.cond t49 f291_24 .skip
def f291_26:AC:=.seq (.dreg f291_22) f291_25
def f291_27 : List (List AI) := [[o 64 (.mov t5),
 o 65 (.mov t8),
 o 66 (.slice .slc 2 t64 none (some t65) none),
 o 71 (.mov t5),
 o 72 (.mov t8),
 o 63 (.rowLit 2 [(.str []),(.int .i64 0)] 0 []),
 o 67 (.app 2 24 t63 t66),
 o 68 (.load true 2 t7),
 o 69 (.rowLit 2 [(.str []),(.int .i64 0)] 1 [(0,t68)]),
 o 70 (.app 2 24 t67 t69),
 o 73 (.slice .slc 2 t71 (some t72) none none),
 o 74 (.app 2 24 t70 t73),
 o 5 (.mov t74)],[o 64 (.mov t5),
 o 65 (.mov t8),
 o 66 (.slice .slc 2 t64 none (some t65) none),
 o 68 (.load true 2 t7),
 o 71 (.mov t5),
 o 72 (.mov t8),
 o 63 (.rowLit 2 [(.str []),(.int .i64 0)] 0 []),
 o 67 (.app 2 24 t63 t66),
 o 69 (.rowLit 2 [(.str []),(.int .i64 0)] 1 [(0,t68)]),
 o 70 (.app 2 24 t67 t69),
 o 73 (.slice .slc 2 t71 (some t72) none none),
 o 74 (.app 2 24 t70 t73),
 o 5 (.mov t74)],[o 64 (.mov t5),
 o 65 (.mov t8),
 o 66 (.slice .slc 2 t64 none (some t65) none),
 o 68 (.load true 2 t7),
 o 71 (.mov t5),
 o 72 (.mov t8),
 o 63 (.rowLit 2 [(.str []),(.int .i64 0)] 0 []),
 o 69 (.rowLit 2 [(.str []),(.int .i64 0)] 1 [(0,t68)]),
 o 67 (.app 2 24 t63 t66),
 o 70 (.app 2 24 t67 t69),
 o 73 (.slice .slc 2 t71 (some t72) none none),
 o 74 (.app 2 24 t70 t73),
 o 5 (.mov t74)],[o 64 (.mov t5),
 o 65 (.mov t8),
 o 66 (.slice .slc 2 t64 none (some t65) none),
 o 68 (.load true 2 t7),
 o 71 (.mov t5),
 o 72 (.mov t8),
 o 69 (.rowLit 2 [(.str []),(.int .i64 0)] 1 [(0,t68)]),
 o 63 (.rowLit 2 [(.str []),(.int .i64 0)] 0 []),
 o 67 (.app 2 24 t63 t66),
 o 70 (.app 2 24 t67 t69),
 o 73 (.slice .slc 2 t71 (some t72) none none),
 o 74 (.app 2 24 t70 t73),
 o 5 (.mov t74)],[o 64 (.mov t5),
 o 65 (.mov t8),
 o 66 (.slice .slc 2 t64 none (some t65) none),
 o 71 (.mov t5),
 o 72 (.mov t8),
 o 63 (.rowLit 2 [(.str []),(.int .i64 0)] 0 []),
 o 67 (.app 2 24 t63 t66),
 o 68 (.load true 2 t7),
 o 73 (.slice .slc 2 t71 (some t72) none none),
 o 69 (.rowLit 2 [(.str []),(.int .i64 0)] 1 [(0,t68)]),
 o 70 (.app 2 24 t67 t69),
 o 74 (.app 2 24 t70 t73),
 o 5 (.mov t74)],[o 64 (.mov t5),
 o 65 (.mov t8),
 o 66 (.slice .slc 2 t64 none (some t65) none),
 o 68 (.load true 2 t7),
 o 71 (.mov t5),
 o 72 (.mov t8),
 o 63 (.rowLit 2 [(.str []),(.int .i64 0)] 0 []),
 o 67 (.app 2 24 t63 t66),
 o 73 (.slice .slc 2 t71 (some t72) none none),
 o 69 (.rowLit 2 [(.str []),(.int .i64 0)] 1 [(0,t68)]),
 o 70 (.app 2 24 t67 t69),
 o 74 (.app 2 24 t70 t73),
 o 5 (.mov t74)],[o 64 (.mov t5),
 o 65 (.mov t8),
 o 66 (.slice .slc 2 t64 none (some t65) none),
 o 68 (.load true 2 t7),
 o 71 (.mov t5),
 o 72 (.mov t8),
 o 63 (.rowLit 2 [(.str []),(.int .i64 0)] 0 []),
 o 69 (.rowLit 2 [(.str []),(.int .i64 0)] 1 [(0,t68)]),
 o 67 (.app 2 24 t63 t66),
 o 73 (.slice .slc 2 t71 (some t72) none none),
 o 70 (.app 2 24 t67 t69),
 o 74 (.app 2 24 t70 t73),
 o 5 (.mov t74)],[o 64 (.mov t5),
 o 65 (.mov t8),
 o 66 (.slice .slc 2 t64 none (some t65) none),
 o 68 (.load true 2 t7),
 o 71 (.mov t5),
 o 72 (.mov t8),
 o 69 (.rowLit 2 [(.str []),(.int .i64 0)] 1 [(0,t68)]),
 o 63 (.rowLit 2 [(.str []),(.int .i64 0)] 0 []),
 o 67 (.app 2 24 t63 t66),
 o 73 (.slice .slc 2 t71 (some t72) none none),
 o 70 (.app 2 24 t67 t69),
 o 74 (.app 2 24 t70 t73),
 o 5 (.mov t74)],[o 64 (.mov t5),
 o 65 (.mov t8),
 o 66 (.slice .slc 2 t64 none (some t65) none),
 o 71 (.mov t5),
 o 72 (.mov t8),
 o 73 (.slice .slc 2 t71 (some t72) none none),
 o 63 (.rowLit 2 [(.str []),(.int .i64 0)] 0 []),
 o 67 (.app 2 24 t63 t66),
 o 68 (.load true 2 t7),
 o 69 (.rowLit 2 [(.str []),(.int .i64 0)] 1 [(0,t68)]),
 o 70 (.app 2 24 t67 t69),
 o 74 (.app 2 24 t70 t73),
 o 5 (.mov t74)],[o 64 (.mov t5),
 o 65 (.mov t8),
 o 66 (.slice .slc 2 t64 none (some t65) none),
 o 68 (.load true 2 t7),
 o 71 (.mov t5),
 o 72 (.mov t8),
 o 73 (.slice .slc 2 t71 (some t72) none none),
 o 63 (.rowLit 2 [(.str []),(.int .i64 0)] 0 []),
 o 67 (.app 2 24 t63 t66),
 o 69 (.rowLit 2 [(.str []),(.int .i64 0)] 1 [(0,t68)]),
 o 70 (.app 2 24 t67 t69),
 o 74 (.app 2 24 t70 t73),
 o 5 (.mov t74)],[o 64 (.mov t5),
 o 65 (.mov t8),
 o 66 (.slice .slc 2 t64 none (some t65) none),
 o 68 (.load true 2 t7),
 o 71 (.mov t5),
 o 72 (.mov t8),
 o 73 (.slice .slc 2 t71 (some t72) none none),
 o 63 (.rowLit 2 [(.str []),(.int .i64 0)] 0 []),
 o 69 (.rowLit 2 [(.str []),(.int .i64 0)] 1 [(0,t68)]),
 o 67 (.app 2 24 t63 t66),
 o 70 (.app 2 24 t67 t69),
 o 74 (.app 2 24 t70 t73),
 o 5 (.mov t74)],[o 64 (.mov t5),
 o 65 (.mov t8),
 o 66 (.slice .slc 2 t64 none (some t65) none),
 o 68 (.load true 2 t7),
 o 71 (.mov t5),
 o 72 (.mov t8),
 o 73 (.slice .slc 2 t71 (some t72) none none),
 o 69 (.rowLit 2 [(.str []),(.int .i64 0)] 1 [(0,t68)]),
 o 63 (.rowLit 2 [(.str []),(.int .i64 0)] 0 []),
 o 67 (.app 2 24 t63 t66),
 o 70 (.app 2 24 t67 t69),
 o 74 (.app 2 24 t70 t73),
 o 5 (.mov t74)]]
def f291_28:AC:=.seq f291_26 (.dalt f291_27)
def f291_29:AC:=.seq f291_21 f291_28
def f291_30:AC:=.seq (.reg f291_13) f291_29
def f291_31:AC:=.seq (.reg f291_12) f291_30
def f291_32:AC:=.block 1 f291_31
def f291_33:List AI:=[o 75 (.bin .add t16 (z 1)),
 o 16 (.mov t75)]
def f291_34:AC:=.seq f291_32 (.reg f291_33)
def f291_35:AC:=.seq f291_11 f291_34
def f291_36:AC:=.seq (.reg f291_10) f291_35
def f291_37:AC:=.loop f291_36
def f291_38:AC:=.block 0 f291_37
def f291_39:AC:=.seq (.reg f291_9) f291_38
def f291_40:List AI:=[o 76 (.mov t5),
 o 77 (.len .slc t76),
 o 78 (.bin .gtr t77 (z 65536))]
def f291_41:List AI:=[o 2 (.mov kN),
 o 3 (.mov (z 6))]
def f291_42:AC:=.seq (.reg f291_41) .ret
def f291_43:AC:=.cond t78 f291_42 .skip
def f291_44:AC:=.seq (.reg f291_40) f291_43
def f291_45:List AI:=[o 79 (.mov t5),
 o 2 (.mov t79),
 o 3 (.mov (z 0))]
def f291_46:AC:=.seq (.reg f291_45) .ret
def f291_47:AC:=.seq f291_44 f291_46
def f291_48:AC:=.seq f291_39 f291_47
def f291_49:AC:=.seq (.reg f291_8) f291_48
def f291_50:AC:=.seq f291_7 f291_49
def f291_51:AC:=.seq (.reg f291_0) f291_50
def f291B:AC:=f291_51
def f291:AF:=⟨1,80,[(.t 2),(.t 3)],f291B⟩
def f296_0:List AI:=[o 2 (.mov (z 0))]
def f296_1:List AI:=[o 5 (.mov t0),
 o 6 (.call (g 318) [t5]),
 o 3 (.mov t6)]
def f296_2:List AI:=[o 7 (.mov t3),
 o 8 (.bin .neq t7 (z 0))]
def f296_3:List AI:=[o 9 (.mov t3),
 o 2 (.mov t9)]
def f296_4:AC:=.seq (.reg f296_3) .ret
def f296_5:AC:=.cond t8 f296_4 .skip
def f296_6:AC:=.seq (.reg f296_2) f296_5
def f296_7:AC:=.seq (.reg f296_1) f296_6
def f296_8:List AI:=[o 10 (.mov t0),
 o 11 (.len .slc t10),
 o 12 (.mov (z 0))]
def f296_9:List AI:=[o 13 (.bin .lss t12 t11)]
def f296_10:AC:=.cond t13 .skip (.exit 0)
def f296_11:List AI:=[o 14 (.mov t12),
 o 4 (.mov t14)]
def f296_12:List AI:=[o 15 (.mov t4),
 o 16 (.bin .gtr t15 (z 0)),
 o 17 (.mov t16),
 ⟨some 18,.mov t0,some (17,true)⟩,
 ⟨some 19,.mov t4,some (17,true)⟩,
 ⟨some 20,.bin .sub t19 (z 1),some (17,true)⟩,
 ⟨some 21,.iaddr 2 t18 t20,some (17,true)⟩,
 ⟨some 22,.faddr 0 t21,some (17,true)⟩,
 ⟨some 23,.load false 1 t22,some (17,true)⟩,
 ⟨some 24,.mov t0,some (17,true)⟩,
 ⟨some 25,.mov t4,some (17,true)⟩,
 ⟨some 26,.iaddr 2 t24 t25,some (17,true)⟩,
 ⟨some 27,.faddr 0 t26,some (17,true)⟩,
 ⟨some 28,.load false 1 t27,some (17,true)⟩,
 ⟨some 29,.bin .geq t23 t28,some (17,true)⟩,
 o 30 (.pick t17 t29 kF)]
def f296_13:List AI:=[o 2 (.mov (z 7))]
def f296_14:AC:=.seq (.reg f296_13) .ret
def f296_15:AC:=.cond t30 f296_14 .skip
def f296_16:AC:=.seq (.dreg f296_12) f296_15
def f296_17:AC:=.seq (.reg f296_11) f296_16
def f296_18:AC:=.block 1 f296_17
def f296_19:List AI:=[o 31 (.bin .add t12 (z 1)),
 o 12 (.mov t31)]
def f296_20:AC:=.seq f296_18 (.reg f296_19)
def f296_21:AC:=.seq f296_10 f296_20
def f296_22:AC:=.seq (.reg f296_9) f296_21
def f296_23:AC:=.loop f296_22
def f296_24:AC:=.block 0 f296_23
def f296_25:AC:=.seq (.reg f296_8) f296_24
def f296_26:List AI:=[o 32 (.mov t0),
 o 33 (.len .slc t32),
 o 34 (.bin .gtr t33 (z 65536))]
def f296_27:List AI:=[o 2 (.mov (z 6))]
def f296_28:AC:=.seq (.reg f296_27) .ret
def f296_29:AC:=.cond t34 f296_28 .skip
def f296_30:AC:=.seq (.reg f296_26) f296_29
def f296_31:List AI:=[o 2 (.mov (z 0))]
def f296_32:AC:=.seq (.reg f296_31) .ret
def f296_33:AC:=.seq f296_30 f296_32
def f296_34:AC:=.seq f296_25 f296_33
def f296_35:AC:=.seq f296_7 f296_34
def f296_36:AC:=.seq (.reg f296_0) f296_35
def f296B:AC:=f296_36
def f296:AF:=⟨1,35,[(.t 2)],f296B⟩
def f298_0:List AI:=[o 1 (.box t0),
 o 2 (.mov (z 0))]
def f298_1:List AI:=[o 6 (.faddr 0 t1),
 o 7 (.load false 1 t6),
 o 8 (.call (g 20) [t7]),
 o 5 (.mov t8),
 o 9 (.ext t5 0),
 o 10 (.ext t5 1),
 o 3 (.mov t9),
 o 4 (.mov t10)]
def f298_2:List AI:=[o 11 (.mov t4),
 o 12 (.bin .eql t11 (z 0)),
 o 13 (.mov t12),
 ⟨some 14,.faddr 1 t1,some (13,true)⟩,
 ⟨some 15,.load false 1 t14,some (13,true)⟩,
 ⟨some 16,.bin .lss t15 (z 1),some (13,true)⟩,
 ⟨some 17,.mov t16,some (13,true)⟩,
 ⟨some 18,.faddr 1 t1,some (17,false)⟩,
 ⟨some 19,.load false 1 t18,some (17,false)⟩,
 ⟨some 20,.bin .gtr t19 (z 1073741824),some (17,false)⟩,
 ⟨some 21,.pick t17 kT t20,some (13,true)⟩,
 o 22 (.pick t13 t21 kF)]
def f298_3:List AI:=[o 2 (.mov (z 2))]
def f298_4:AC:=.seq (.reg f298_3) .ret
def f298_5:AC:=.cond t22 f298_4 .skip
def f298_6:AC:=.seq (.reg f298_2) f298_5
def f298_7:List AI:=[o 23 (.mov t4),
 o 2 (.mov t23)]
def f298_8:AC:=.seq (.reg f298_7) .ret
def f298_9:AC:=.seq f298_6 f298_8
def f298_10:AC:=.seq (.reg f298_1) f298_9
def f298_11:AC:=.seq (.reg f298_0) f298_10
def f298B:AC:=f298_11
def f298:AF:=⟨1,24,[(.t 2)],f298B⟩
def f299_0:List AI:=[o 1 (.box t0),
 o 2 (.mov (z 0))]
def f299_1:List AI:=[o 6 (.faddr 0 t1),
 o 7 (.load false 1 t6),
 o 8 (.call (g 21) [t7]),
 o 5 (.mov t8),
 o 9 (.ext t5 0),
 o 10 (.ext t5 1),
 o 3 (.mov t9),
 o 4 (.mov t10)]
def f299_2:List AI:=[o 11 (.mov t4),
 o 12 (.bin .neq t11 (z 0))]
def f299_3:List AI:=[o 13 (.mov t4),
 o 2 (.mov t13)]
def f299_4:AC:=.seq (.reg f299_3) .ret
def f299_5:AC:=.cond t12 f299_4 .skip
def f299_6:AC:=.seq (.reg f299_2) f299_5
def f299_7:AC:=.seq (.reg f299_1) f299_6
def f299_8:List AI:=[o 14 (.faddr 1 t1),
 o 15 (.load false 1 t14),
 o 16 (.bin .lss t15 (z 1)),
 o 17 (.mov t16),
 ⟨some 18,.faddr 1 t1,some (17,false)⟩,
 ⟨some 19,.load false 1 t18,some (17,false)⟩,
 ⟨some 20,.bin .gtr t19 (z 1073741824),some (17,false)⟩,
 o 21 (.pick t17 kT t20)]
def f299_9:List AI:=[o 2 (.mov (z 2))]
def f299_10:AC:=.seq (.reg f299_9) .ret
def f299_11:AC:=.cond t21 f299_10 .skip
def f299_12:AC:=.seq (.reg f299_8) f299_11
def f299_13:List AI:=[o 2 (.mov (z 0))]
def f299_14:AC:=.seq (.reg f299_13) .ret
def f299_15:AC:=.seq f299_12 f299_14
def f299_16:AC:=.seq f299_7 f299_15
def f299_17:AC:=.seq (.reg f299_0) f299_16
def f299B:AC:=f299_17
def f299:AF:=⟨1,22,[(.t 2)],f299B⟩
def f303_0:List AI:=[o 4 (.mov (z 0)),
 o 5 (.mov (z 0))]
def f303_1:List AI:=[o 9 (.mov t0),
 o 10 (.call (g 296) [t9]),
 o 6 (.mov t10)]
def f303_2:List AI:=[o 11 (.mov t6),
 o 12 (.bin .neq t11 (z 0))]
def f303_3:List AI:=[o 13 (.mov t6),
 o 4 (.mov (z 0)),
 o 5 (.mov t13)]
def f303_4:AC:=.seq (.reg f303_3) .ret
def f303_5:AC:=.cond t12 f303_4 .skip
def f303_6:AC:=.seq (.reg f303_2) f303_5
def f303_7:AC:=.seq (.reg f303_1) f303_6
def f303_8:List AI:=[o 15 (.mov t0),
 o 16 (.mov t1),
 o 17 (.call (g 324) [t15,t16]),
 o 14 (.mov t17),
 o 18 (.ext t14 0),
 o 19 (.ext t14 1),
 o 7 (.mov t18),
 o 8 (.mov t19)]
def f303_9:List AI:=[o 20 (.mov t8),
 o 21 (.un .not t20)]
def f303_10:List AI:=[o 4 (.mov (z 0)),
 o 5 (.mov (z 10))]
def f303_11:AC:=.seq (.reg f303_10) .ret
def f303_12:AC:=.cond t21 f303_11 .skip
def f303_13:AC:=.seq (.reg f303_9) f303_12
def f303_14:List AI:=[o 22 (.mov t0),
 o 23 (.mov t7),
 o 24 (.iaddr 2 t22 t23),
 o 25 (.faddr 1 t24),
 o 26 (.load false 1 t25),
 o 4 (.mov t26),
 o 5 (.mov (z 0))]
def f303_15:AC:=.seq (.reg f303_14) .ret
def f303_16:AC:=.seq f303_13 f303_15
def f303_17:AC:=.seq (.reg f303_8) f303_16
def f303_18:AC:=.seq f303_7 f303_17
def f303_19:AC:=.seq (.reg f303_0) f303_18
def f303B:AC:=f303_19
def f303:AF:=⟨2,27,[(.t 4),(.t 5)],f303B⟩
def f311_0:List AI:=[o 14 (.rowLit 1 [(.int .i64 0)] 1 [(0,(z 0))]),
 o 4 (.mov t14)]
def f311_1:List AI:=[o 5 (.mov kN)]
def f311_2:List AI:=[o 15 (.mov t1),
 o 16 (.len .slc t15),
 o 17 (.mov (z 0))]
def f311_3:List AI:=[o 18 (.bin .lss t17 t16)]
def f311_4:AC:=.cond t18 .skip (.exit 0)
def f311_5:List AI:=[o 19 (.iaddr 2 t15 t17),
 o 20 (.load true 2 t19),
 o 7 (.new [(.str []),(.int .i64 0)]),
 v (.store 2 t7 t20)]
def f311_6:List AI:=[o 22 (.faddr 0 t7),
 o 23 (.load false 1 t22),
 o 24 (.call (g 17) [t23]),
 o 21 (.mov t24),
 o 25 (.ext t21 0),
 o 26 (.ext t21 1),
 o 8 (.mov t25),
 o 9 (.mov t26)]
def f311_7:List AI:=[o 27 (.mov t0),
 o 28 (.mov t4),
 o 29 (.mov t5),
 o 30 (.mov t8),
 o 31 (.call (g 330) [t29,t30]),
 o 32 (.call (g 329) [t27,t28,t31]),
 o 4 (.mov t32)]
def f311_8:List AI:=[o 33 (.mov t8),
 o 34 (.mov t4),
 o 35 (.len .slc t34),
 o 36 (.bin .sub t35 (z 1)),
 o 37 (.slice .slc 1 t33 (some t36) none none),
 o 38 (.len .slc t37),
 o 39 (.mov (z 0))]
def f311_9:List AI:=[o 40 (.bin .lss t39 t38)]
def f311_10:AC:=.cond t40 .skip (.exit 2)
def f311_11:List AI:=[o 41 (.iaddr 1 t37 t39),
 o 42 (.load false 1 t41),
 o 11 (.mov t42)]
def f311_12:List AI:=[o 43 (.mov t0),
 o 44 (.nilck t43),
 o 45 (.faddr 0 t44),
 o 46 (.load false 1 t45),
 o 47 (.len .slc t46),
 o 12 (.mov t47)]
def f311_13:List AI:=[o 48 (.mov t0),
 o 49 (.mov t0),
 o 50 (.nilck t49),
 o 51 (.faddr 0 t50),
 o 52 (.load false 1 t51),
 o 53 (.build [.nils,(.bool false),(.int .i64 0)] []),
 o 54 (.rowLit 3 [.nils,(.bool false),(.int .i64 0)] 1 [(0,t53)]),
 o 55 (.app 3 40 t52 t54),
 o 56 (.nilck t48),
 o 57 (.faddr 0 t56),
 v (.store 1 t57 t55)]
def f311_14:List AI:=[o 58 (.mov t4),
 o 59 (.mov t4),
 o 60 (.len .slc t59),
 o 61 (.bin .sub t60 (z 1)),
 o 62 (.iaddr 1 t58 t61),
 o 63 (.load false 1 t62),
 o 13 (.mov t63)]
def f311_15 : List (List AI) := [[o 64 (.mov t0),
 o 65 (.nilck t64),
 o 66 (.faddr 0 t65),
 o 67 (.load false 1 t66),
 o 68 (.mov t13),
 o 69 (.mov t0),
 o 70 (.nilck t69),
 o 71 (.faddr 0 t70),
 o 72 (.load false 1 t71),
 o 73 (.mov t13),
 o 74 (.iaddr 3 t72 t73),
 o 75 (.faddr 0 t74),
 o 76 (.load false 1 t75),
 o 77 (.mov t11),
 o 78 (.mov t12),
 o 79 (.build [(.int .i32 0),(.int .i64 0)] [(0,(1,t77)),(1,(1,t78))]),
 o 80 (.rowLit 2 [(.int .i32 0),(.int .i64 0)] 1 [(0,t79)]),
 o 81 (.app 2 16 t76 t80),
 o 82 (.iaddr 3 t67 t68),
 o 83 (.faddr 0 t82),
 v (.store 1 t83 t81)],[o 64 (.mov t0),
 o 65 (.nilck t64),
 o 66 (.faddr 0 t65),
 o 68 (.mov t13),
 o 69 (.mov t0),
 o 70 (.nilck t69),
 o 71 (.faddr 0 t70),
 o 72 (.load false 1 t71),
 o 73 (.mov t13),
 o 74 (.iaddr 3 t72 t73),
 o 75 (.faddr 0 t74),
 o 76 (.load false 1 t75),
 o 77 (.mov t11),
 o 78 (.mov t12),
 o 79 (.build [(.int .i32 0),(.int .i64 0)] [(0,(1,t77)),(1,(1,t78))]),
 o 80 (.rowLit 2 [(.int .i32 0),(.int .i64 0)] 1 [(0,t79)]),
 o 81 (.app 2 16 t76 t80),
 o 67 (.load false 1 t66),
 o 82 (.iaddr 3 t67 t68),
 o 83 (.faddr 0 t82),
 v (.store 1 t83 t81)]]
def f311_16:List AI:=[o 84 (.mov t4),
 o 85 (.mov t12),
 o 86 (.rowLit 1 [(.int .i64 0)] 1 [(0,t85)]),
 o 87 (.app 1 8 t84 t86),
 o 4 (.mov t87)]
def f311_17:AC:=.seq (.dalt f311_15) (.reg f311_16)
def f311_18:AC:=.seq (.reg f311_14) f311_17
def f311_19:AC:=.seq (.reg f311_13) f311_18
def f311_20:AC:=.seq (.reg f311_12) f311_19
def f311_21:AC:=.seq (.reg f311_11) f311_20
def f311_22:AC:=.block 3 f311_21
def f311_23:List AI:=[o 88 (.bin .add t39 (z 1)),
 o 39 (.mov t88)]
def f311_24:AC:=.seq f311_22 (.reg f311_23)
def f311_25:AC:=.seq f311_10 f311_24
def f311_26:AC:=.seq (.reg f311_9) f311_25
def f311_27:AC:=.loop f311_26
def f311_28:AC:=.block 2 f311_27
def f311_29:AC:=.seq (.reg f311_8) f311_28
def f311_30:List AI:=[o 89 (.mov t0),
 o 90 (.nilck t89),
 o 91 (.faddr 0 t90),
 o 92 (.load false 1 t91),
 o 93 (.mov t4),
 o 94 (.mov t4),
 o 95 (.len .slc t94),
 o 96 (.bin .sub t95 (z 1)),
 o 97 (.iaddr 1 t93 t96),
 o 98 (.load false 1 t97),
 o 99 (.iaddr 3 t92 t98),
 o 100 (.faddr 1 t99),
 v (.store 1 t100 kT)]
def f311_31:List AI:=[o 101 (.mov t8),
 o 5 (.mov t101)]
def f311_32:AC:=.seq (.dreg f311_30) (.reg f311_31)
def f311_33:AC:=.seq f311_29 f311_32
def f311_34:AC:=.seq (.reg f311_7) f311_33
def f311_35:AC:=.seq (.reg f311_6) f311_34
def f311_36:AC:=.seq (.reg f311_5) f311_35
def f311_37:AC:=.block 1 f311_36
def f311_38:List AI:=[o 102 (.bin .add t17 (z 1)),
 o 17 (.mov t102)]
def f311_39:AC:=.seq f311_37 (.reg f311_38)
def f311_40:AC:=.seq f311_4 f311_39
def f311_41:AC:=.seq (.reg f311_3) f311_40
def f311_42:AC:=.loop f311_41
def f311_43:AC:=.block 0 f311_42
def f311_44:AC:=.seq (.reg f311_2) f311_43
def f311_45:List AI:=[o 103 (.mov t0),
 o 104 (.mov t4),
 o 105 (.call (g 329) [t103,t104,(z 0)])]
def f311_46:AC:=.seq f311_44 (.reg f311_45)
def f311_47:AC:=.seq (.reg f311_1) f311_46
def f311_48:AC:=.seq (.reg f311_0) f311_47
def f311B:AC:=f311_48
def f311:AF:=⟨2,106,[],f311B⟩
def f312_0:List AI:=[o 8 (.mov (z 0))]
def f312_1:List AI:=[o 18 (.mov t3),
 o 19 (.mov t2),
 o 20 (.lookup (.int .i64) (.int .i64 0) t18 t19 true),
 o 17 (.mov t20),
 o 21 (.ext t17 0),
 o 22 (.ext t17 1),
 o 9 (.mov t21),
 o 10 (.mov t22)]
def f312_2:List AI:=[o 23 (.mov t10)]
def f312_3:List AI:=[o 24 (.mov t9),
 o 8 (.mov t24)]
def f312_4:AC:=.seq (.reg f312_3) .ret
def f312_5:AC:=.cond t23 f312_4 .skip
def f312_6:AC:=.seq (.reg f312_2) f312_5
def f312_7:AC:=.seq (.reg f312_1) f312_6
def f312_8:List AI:=[o 25 (.mov t0),
 o 26 (.nilck t25),
 o 27 (.faddr 0 t26),
 o 28 (.load false 1 t27),
 o 29 (.len .slc t28),
 o 11 (.mov t29)]
def f312_9:List AI:=[o 30 (.mov t3),
 o 31 (.mov t2),
 o 32 (.mov t11),
 v (.mapset (.int .i64) t30 t31 t32)]
def f312_10:List AI:=[o 33 (.mov t0),
 o 34 (.mov t0),
 o 35 (.nilck t34),
 o 36 (.faddr 0 t35),
 o 37 (.load false 1 t36),
 o 38 (.mov t1),
 o 39 (.nilck t38),
 o 40 (.faddr 0 t39),
 o 41 (.load false 1 t40),
 o 42 (.mov t2),
 o 43 (.iaddr 3 t41 t42),
 o 44 (.faddr 1 t43),
 o 45 (.load false 1 t44),
 o 46 (.build [.nils,(.bool false),(.int .i64 0)] [(1,(1,t45))]),
 o 47 (.rowLit 3 [.nils,(.bool false),(.int .i64 0)] 1 [(0,t46)]),
 o 48 (.app 3 40 t37 t47),
 o 49 (.nilck t33),
 o 50 (.faddr 0 t49),
 v (.store 1 t50 t48)]
def f312_11:List AI:=[o 12 (.mov (z 0))]
def f312_12:List AI:=[o 51 (.mov t1),
 o 52 (.nilck t51),
 o 53 (.faddr 0 t52),
 o 54 (.load false 1 t53),
 o 55 (.mov t2),
 o 56 (.iaddr 3 t54 t55),
 o 57 (.faddr 1 t56),
 o 58 (.load false 1 t57)]
def f312_13:List AI:=[o 12 (.mov (z 1))]
def f312_14:AC:=.cond t58 (.reg f312_13) .skip
def f312_15:AC:=.seq (.reg f312_12) f312_14
def f312_16:List AI:=[o 13 (.mov kN)]
def f312_17:List AI:=[o 59 (.mov t1),
 o 60 (.nilck t59),
 o 61 (.faddr 0 t60),
 o 62 (.load false 1 t61),
 o 63 (.mov t2),
 o 64 (.iaddr 3 t62 t63),
 o 65 (.faddr 0 t64),
 o 66 (.load false 1 t65),
 o 67 (.len .slc t66),
 o 68 (.mov (z 0))]
def f312_18:List AI:=[o 69 (.bin .lss t68 t67)]
def f312_19:AC:=.cond t69 .skip (.exit 0)
def f312_20:List AI:=[o 70 (.iaddr 2 t66 t68),
 o 71 (.load true 2 t70),
 o 15 (.new [(.int .i32 0),(.int .i64 0)]),
 v (.store 2 t15 t71)]
def f312_21:List AI:=[o 72 (.mov t0),
 o 73 (.mov t1),
 o 74 (.faddr 1 t15),
 o 75 (.load false 1 t74),
 o 76 (.mov t3),
 o 77 (.call (g 312) [t72,t73,t75,t76]),
 o 16 (.mov t77)]
def f312_22:List AI:=[o 78 (.mov t13),
 o 79 (.faddr 0 t15),
 o 80 (.load false 1 t79),
 o 81 (.mov t16),
 o 82 (.build [(.int .i32 0),(.int .i64 0)] [(0,(1,t80)),(1,(1,t81))]),
 o 83 (.rowLit 2 [(.int .i32 0),(.int .i64 0)] 1 [(0,t82)]),
 o 84 (.app 2 16 t78 t83),
 o 13 (.mov t84)]
def f312_23:List AI:=[o 85 (.mov t12),
 o 86 (.mov t0),
 o 87 (.nilck t86),
 o 88 (.faddr 0 t87),
 o 89 (.load false 1 t88),
 o 90 (.mov t16),
 o 91 (.iaddr 3 t89 t90),
 o 92 (.faddr 2 t91),
 o 93 (.load false 1 t92),
 o 94 (.bin .add t85 t93),
 o 12 (.mov t94)]
def f312_24:AC:=.seq (.reg f312_22) (.reg f312_23)
def f312_25:AC:=.seq (.reg f312_21) f312_24
def f312_26:AC:=.seq (.reg f312_20) f312_25
def f312_27:AC:=.block 1 f312_26
def f312_28:List AI:=[o 95 (.bin .add t68 (z 1)),
 o 68 (.mov t95)]
def f312_29:AC:=.seq f312_27 (.reg f312_28)
def f312_30:AC:=.seq f312_19 f312_29
def f312_31:AC:=.seq (.reg f312_18) f312_30
def f312_32:AC:=.loop f312_31
def f312_33:AC:=.block 0 f312_32
def f312_34:AC:=.seq (.reg f312_17) f312_33
def f312_35:List AI:=[o 96 (.mov t0),
 o 97 (.nilck t96),
 o 98 (.faddr 0 t97),
 o 99 (.load false 1 t98),
 o 100 (.mov t11),
 o 101 (.mov t0),
 o 102 (.nilck t101),
 o 103 (.faddr 0 t102),
 o 104 (.load false 1 t103),
 o 105 (.mov t11),
 o 106 (.mov t13),
 o 107 (.mov t12),
 o 108 (.iaddr 3 t99 t100),
 o 109 (.faddr 0 t108),
 v (.store 1 t109 t106),
 o 110 (.iaddr 3 t104 t105),
 o 111 (.faddr 2 t110),
 v (.store 1 t111 t107)]
def f312_36:List AI:=[o 112 (.mov t0),
 o 113 (.nilck t112),
 o 114 (.faddr 1 t113),
 o 115 (.load false 1 t114),
 o 116 (.mov t13),
 o 117 (.len .slc t116),
 o 118 (.bin .add t115 t117),
 o 119 (.nilck t112),
 o 120 (.faddr 1 t119),
 v (.store 1 t120 t118)]
def f312_37:List AI:=[o 121 (.mov t11),
 o 8 (.mov t121)]
def f312_38:AC:=.seq (.reg f312_37) .ret
def f312_39:AC:=.seq (.reg f312_36) f312_38
def f312_40:AC:=.seq (.dreg f312_35) f312_39
def f312_41:AC:=.seq f312_34 f312_40
def f312_42:AC:=.seq (.reg f312_16) f312_41
def f312_43:AC:=.seq f312_15 f312_42
def f312_44:AC:=.seq (.reg f312_11) f312_43
def f312_45:AC:=.seq (.dreg f312_10) f312_44
def f312_46:AC:=.seq (.reg f312_9) f312_45
def f312_47:AC:=.seq (.reg f312_8) f312_46
def f312_48:AC:=.seq f312_7 f312_47
def f312_49:AC:=.seq (.reg f312_0) f312_48
def f312B:AC:=f312_49
def f312:AF:=⟨4,122,[(.t 8)],f312B⟩
def f314_0:List AI:=[o 4 (.mov kP),
 o 5 (.mov (z 0))]
def f314_1:List AI:=[o 7 (.mov t0),
 o 8 (.eqv .ptr false t7 kP),
 o 6 (.mov t8)]
def f314_2:List AI:=[o 4 (.mov kP),
 o 5 (.mov (z 1))]
def f314_3:AC:=.seq (.reg f314_2) .ret
def f314_4:List AI:=[o 10 (.mov t1),
 o 11 (.bin .lss t10 (z 0)),
 o 12 (.mov t11),
 ⟨some 13,.mov t1,some (12,false)⟩,
 ⟨some 14,.mov t0,some (12,false)⟩,
 ⟨some 15,.nilck t14,some (12,false)⟩,
 ⟨some 16,.faddr 0 t15,some (12,false)⟩,
 ⟨some 17,.load false 1 t16,some (12,false)⟩,
 ⟨some 18,.len .slc t17,some (12,false)⟩,
 ⟨some 19,.bin .geq t13 t18,some (12,false)⟩,
 o 20 (.pick t12 kT t19),
 o 9 (.mov t20)]
def f314_5:List AI:=[o 4 (.mov kP),
 o 5 (.mov (z 2))]
def f314_6:AC:=.seq (.reg f314_5) .ret
def f314_7:AC:=.cond t9 f314_6 .skip
def f314_8:AC:=.seq (.reg f314_4) f314_7
def f314_9:AC:=.cond t6 f314_3 f314_8
def f314_10:AC:=.seq (.reg f314_1) f314_9
def f314_11:AC:=.block 0 f314_10
def f314_12:List AI:=[o 21 (.mov t0),
 o 22 (.nilck t21),
 o 23 (.faddr 0 t22),
 o 24 (.load false 1 t23),
 o 25 (.mov t1),
 o 26 (.iaddr 3 t24 t25),
 o 4 (.mov t26),
 o 5 (.mov (z 0))]
def f314_13:AC:=.seq (.reg f314_12) .ret
def f314_14:AC:=.seq f314_11 f314_13
def f314_15:AC:=.seq (.reg f314_0) f314_14
def f314B:AC:=f314_15
def f314:AF:=⟨2,27,[(.t 4),(.t 5)],f314B⟩
def f316_0:List AI:=[o 4 (.mov (z 0)),
 o 5 (.mov kF)]
def f316_1:List AI:=[o 6 (.mov t0),
 o 7 (.nilck t6),
 o 8 (.faddr 0 t7),
 o 9 (.load false 1 t8),
 o 10 (.mov t1),
 o 11 (.call (g 334) [t9,t10,(g 335)]),
 o 12 (.ext t11 0),
 o 13 (.ext t11 1),
 o 4 (.mov t12),
 o 5 (.mov t13)]
def f316_2:AC:=.seq (.reg f316_1) .ret
def f316_3:AC:=.seq (.reg f316_0) f316_2
def f316B:AC:=f316_3
def f316:AF:=⟨2,14,[(.t 4),(.t 5)],f316B⟩
def f317_0:List AI:=[o 2 (.mov (z 0))]
def f317_1:List AI:=[o 6 (.mov t0),
 o 7 (.len .slc t6),
 o 8 (.mov (z 0))]
def f317_2:List AI:=[o 9 (.bin .lss t8 t7)]
def f317_3:AC:=.cond t9 .skip (.exit 0)
def f317_4:List AI:=[o 10 (.iaddr 2 t6 t8),
 o 11 (.load true 2 t10),
 o 4 (.new [(.str []),(.int .i64 0)]),
 v (.store 2 t4 t11)]
def f317_5:List AI:=[o 12 (.load true 2 t4),
 o 13 (.call (g 299) [t12]),
 o 5 (.mov t13)]
def f317_6:List AI:=[o 14 (.mov t5),
 o 15 (.bin .neq t14 (z 0))]
def f317_7:List AI:=[o 16 (.mov t5),
 o 2 (.mov t16)]
def f317_8:AC:=.seq (.reg f317_7) .ret
def f317_9:AC:=.cond t15 f317_8 .skip
def f317_10:AC:=.seq (.reg f317_6) f317_9
def f317_11:AC:=.seq (.reg f317_5) f317_10
def f317_12:AC:=.seq (.reg f317_4) f317_11
def f317_13:AC:=.block 1 f317_12
def f317_14:List AI:=[o 17 (.bin .add t8 (z 1)),
 o 8 (.mov t17)]
def f317_15:AC:=.seq f317_13 (.reg f317_14)
def f317_16:AC:=.seq f317_3 f317_15
def f317_17:AC:=.seq (.reg f317_2) f317_16
def f317_18:AC:=.loop f317_17
def f317_19:AC:=.block 0 f317_18
def f317_20:AC:=.seq (.reg f317_1) f317_19
def f317_21:List AI:=[o 2 (.mov (z 0))]
def f317_22:AC:=.seq (.reg f317_21) .ret
def f317_23:AC:=.seq f317_20 f317_22
def f317_24:AC:=.seq (.reg f317_0) f317_23
def f317B:AC:=f317_24
def f317:AF:=⟨1,18,[(.t 2)],f317B⟩
def f318_0:List AI:=[o 2 (.mov (z 0))]
def f318_1:List AI:=[o 4 (.mov t0),
 o 5 (.call (g 336) [t4,(g 337)]),
 o 3 (.mov t5)]
def f318_2:List AI:=[o 6 (.mov t3),
 o 7 (.bin .lss t6 (z 0))]
def f318_3:List AI:=[o 2 (.mov (z 0))]
def f318_4:AC:=.seq (.reg f318_3) .ret
def f318_5:AC:=.cond t7 f318_4 .skip
def f318_6:AC:=.seq (.reg f318_2) f318_5
def f318_7:List AI:=[o 8 (.mov t0),
 o 9 (.mov t3),
 o 10 (.iaddr 2 t8 t9),
 o 11 (.load true 2 t10),
 o 12 (.call (g 298) [t11]),
 o 2 (.mov t12)]
def f318_8:AC:=.seq (.reg f318_7) .ret
def f318_9:AC:=.seq f318_6 f318_8
def f318_10:AC:=.seq (.reg f318_1) f318_9
def f318_11:AC:=.seq (.reg f318_0) f318_10
def f318B:AC:=f318_11
def f318:AF:=⟨1,13,[(.t 2)],f318B⟩
def f321_0:List AI:=[o 2 (.box t0),
 o 3 (.box t1),
 o 4 (.mov (z 0))]
def f321_1:List AI:=[o 5 (.faddr 0 t2),
 o 6 (.load false 1 t5),
 o 7 (.faddr 0 t3),
 o 8 (.load false 1 t7),
 o 9 (.call (g 252) [t6,t8]),
 o 4 (.mov t9)]
def f321_2:AC:=.seq (.reg f321_1) .ret
def f321_3:AC:=.seq (.reg f321_0) f321_2
def f321B:AC:=f321_3
def f321:AF:=⟨2,10,[(.t 4)],f321B⟩
def f324_0:List AI:=[o 4 (.mov (z 0)),
 o 5 (.mov kF)]
def f324_1:List AI:=[o 6 (.mov t0),
 o 7 (.mov t1),
 o 8 (.build [(.str []),(.int .i64 0)] [(0,(1,t7))]),
 o 9 (.call (g 342) [t6,t8,(g 321)]),
 o 10 (.ext t9 0),
 o 11 (.ext t9 1),
 o 4 (.mov t10),
 o 5 (.mov t11)]
def f324_2:AC:=.seq (.reg f324_1) .ret
def f324_3:AC:=.seq (.reg f324_0) f324_2
def f324B:AC:=f324_3
def f324:AF:=⟨2,12,[(.t 4),(.t 5)],f324B⟩
def f329_0:List AI:=[o 6 (.mov kN)]
def f329_1:List AI:=[o 12 (.mov t1),
 o 13 (.len .slc t12),
 o 14 (.mov t2),
 o 15 (.bin .add t14 (z 1)),
 o 16 (.bin .gtr t13 t15)]
def f329_2:AC:=.cond t16 .skip (.exit 0)
def f329_3:AC:=.seq (.reg f329_1) f329_2
def f329_4:List AI:=[o 17 (.mov t1),
 o 18 (.mov t1),
 o 19 (.len .slc t18),
 o 20 (.bin .sub t19 (z 1)),
 o 21 (.iaddr 1 t17 t20),
 o 22 (.load false 1 t21),
 o 7 (.mov t22)]
def f329_5:List AI:=[o 23 (.mov t1),
 o 24 (.mov t1),
 o 25 (.len .slc t24),
 o 26 (.bin .sub t25 (z 1)),
 o 27 (.slice .slc 1 t23 none (some t26) none),
 o 1 (.mov t27)]
def f329_6:List AI:=[o 28 (.mov t0),
 o 29 (.nilck t28),
 o 30 (.faddr 0 t29),
 o 31 (.load false 1 t30),
 o 32 (.mov t1),
 o 33 (.mov t1),
 o 34 (.len .slc t33),
 o 35 (.bin .sub t34 (z 1)),
 o 36 (.iaddr 1 t32 t35),
 o 37 (.load false 1 t36),
 o 38 (.iaddr 3 t31 t37),
 o 8 (.mov t38)]
def f329_7:List AI:=[o 39 (.mov t0),
 o 40 (.nilck t39),
 o 41 (.faddr 0 t40),
 o 42 (.load false 1 t41),
 o 43 (.mov t7),
 o 44 (.iaddr 3 t42 t43),
 o 45 (.load true 3 t44),
 o 46 (.call (g 346) [t45]),
 o 9 (.mov t46)]
def f329_8:List AI:=[o 48 (.mov t0),
 o 49 (.nilck t48),
 o 50 (.faddr 1 t49),
 o 51 (.load false 1 t50),
 o 52 (.mov t9),
 o 53 (.lookup .str (.int .i64 0) t51 t52 true),
 o 47 (.mov t53),
 o 54 (.ext t47 0),
 o 55 (.ext t47 1),
 o 10 (.mov t54),
 o 11 (.mov t55)]
def f329_9:List AI:=[o 56 (.mov t11)]
def f329_10:List AI:=[o 57 (.mov t8),
 o 58 (.nilck t57),
 o 59 (.faddr 0 t58),
 o 60 (.load false 1 t59),
 o 61 (.mov t8),
 o 62 (.nilck t61),
 o 63 (.faddr 0 t62),
 o 64 (.load false 1 t63),
 o 65 (.len .slc t64),
 o 66 (.bin .sub t65 (z 1)),
 o 67 (.mov t10),
 o 68 (.iaddr 2 t60 t66),
 o 69 (.faddr 1 t68),
 v (.store 1 t69 t67)]
def f329_11:AC:=.seq (.dreg f329_10) (.exit 1)
def f329_12:AC:=.cond t56 f329_11 .skip
def f329_13:AC:=.seq (.reg f329_9) f329_12
def f329_14:AC:=.seq (.reg f329_8) f329_13
def f329_15:List AI:=[o 70 (.mov t0),
 o 71 (.nilck t70),
 o 72 (.faddr 1 t71),
 o 73 (.load false 1 t72),
 o 74 (.mov t9),
 o 75 (.mov t7),
 v (.mapset .str t73 t74 t75)]
def f329_16:AC:=.seq f329_14 (.reg f329_15)
def f329_17:AC:=.seq (.reg f329_7) f329_16
def f329_18:AC:=.seq (.dreg f329_6) f329_17
def f329_19:AC:=.seq (.reg f329_5) f329_18
def f329_20:AC:=.seq (.reg f329_4) f329_19
def f329_21:AC:=.block 1 f329_20
def f329_22:AC:=.seq f329_3 f329_21
def f329_23:AC:=.loop f329_22
def f329_24:AC:=.block 0 f329_23
def f329_25:List AI:=[o 76 (.mov t1),
 o 6 (.mov t76)]
def f329_26:AC:=.seq (.reg f329_25) .ret
def f329_27:AC:=.seq f329_24 f329_26
def f329_28:AC:=.seq .skip f329_27
def f329_29:AC:=.seq .skip f329_28
def f329_30:AC:=.seq (.reg f329_0) f329_29
def f329B:AC:=f329_30
def f329:AF:=⟨3,77,[(.t 6)],f329B⟩
def f330_0:List AI:=[o 4 (.mov (z 0))]
def f330_1:List AI:=[o 5 (.mov t4),
 o 6 (.mov t0),
 o 7 (.len .slc t6),
 o 8 (.bin .lss t5 t7),
 o 9 (.mov t8),
 ⟨some 10,.mov t4,some (9,true)⟩,
 ⟨some 11,.mov t1,some (9,true)⟩,
 ⟨some 12,.len .slc t11,some (9,true)⟩,
 ⟨some 13,.bin .lss t10 t12,some (9,true)⟩,
 o 14 (.pick t9 t13 kF),
 o 15 (.mov t14),
 ⟨some 16,.mov t0,some (15,true)⟩,
 ⟨some 17,.mov t4,some (15,true)⟩,
 ⟨some 18,.iaddr 1 t16 t17,some (15,true)⟩,
 ⟨some 19,.load false 1 t18,some (15,true)⟩,
 ⟨some 20,.mov t1,some (15,true)⟩,
 ⟨some 21,.mov t4,some (15,true)⟩,
 ⟨some 22,.iaddr 1 t20 t21,some (15,true)⟩,
 ⟨some 23,.load false 1 t22,some (15,true)⟩,
 ⟨some 24,.bin .eql t19 t23,some (15,true)⟩,
 o 25 (.pick t15 t24 kF)]
def f330_2:AC:=.cond t25 .skip (.exit 0)
def f330_3:AC:=.seq (.dreg f330_1) f330_2
def f330_4:List AI:=[o 26 (.mov t4),
 o 27 (.bin .add t26 (z 1)),
 o 4 (.mov t27)]
def f330_5:AC:=.block 1 (.reg f330_4)
def f330_6:AC:=.seq f330_3 f330_5
def f330_7:AC:=.loop f330_6
def f330_8:AC:=.block 0 f330_7
def f330_9:List AI:=[o 28 (.mov t4),
 o 4 (.mov t28)]
def f330_10:AC:=.seq (.reg f330_9) .ret
def f330_11:AC:=.seq f330_8 f330_10
def f330_12:AC:=.seq (.reg f330_0) f330_11
def f330B:AC:=f330_12
def f330:AF:=⟨2,29,[(.t 4)],f330B⟩
def f334_0:List AI:=[o 6 (.mov (z 0)),
 o 7 (.mov kF)]
def f334_1:List AI:=[o 12 (.mov t0),
 o 13 (.len .slc t12),
 o 8 (.mov t13)]
def f334_2:List AI:=[o 14 (.mov t8),
 o 9 (.mov (z 0)),
 o 10 (.mov t14)]
def f334_3:List AI:=[o 15 (.mov t9),
 o 16 (.mov t10),
 o 17 (.bin .lss t15 t16)]
def f334_4:AC:=.cond t17 .skip (.exit 0)
def f334_5:AC:=.seq (.reg f334_3) f334_4
def f334_6:List AI:=[o 18 (.mov t9),
 o 19 (.mov t10),
 o 20 (.bin .add t18 t19),
 o 21 (.wrapI .u64 t20),
 o 22 (.bin .shr t21 (.c (.one (.int .u64 1)))),
 o 23 (.wrapI .i64 t22),
 o 11 (.mov t23)]
def f334_7:List AI:=[o 24 (.mov t2),
 o 25 (.mov t0),
 o 26 (.mov t11),
 o 27 (.iaddr 2 t25 t26),
 o 28 (.load true 2 t27),
 o 29 (.mov t1),
 o 30 (.call t24 [t28,t29]),
 o 31 (.bin .lss t30 (z 0))]
def f334_8:List AI:=[o 32 (.mov t11),
 o 33 (.bin .add t32 (z 1)),
 o 9 (.mov t33)]
def f334_9:List AI:=[o 34 (.mov t11),
 o 10 (.mov t34)]
def f334_10:AC:=.cond t31 (.reg f334_8) (.reg f334_9)
def f334_11:AC:=.seq (.reg f334_7) f334_10
def f334_12:AC:=.seq (.reg f334_6) f334_11
def f334_13:AC:=.block 1 f334_12
def f334_14:AC:=.seq f334_5 f334_13
def f334_15:AC:=.loop f334_14
def f334_16:AC:=.block 0 f334_15
def f334_17:List AI:=[o 35 (.mov t9),
 o 36 (.mov t9),
 o 37 (.mov t8),
 o 38 (.bin .lss t36 t37),
 o 39 (.mov t38),
 ⟨some 40,.mov t2,some (39,true)⟩,
 ⟨some 41,.mov t0,some (39,true)⟩,
 ⟨some 42,.mov t9,some (39,true)⟩,
 ⟨some 43,.iaddr 2 t41 t42,some (39,true)⟩,
 ⟨some 44,.load true 2 t43,some (39,true)⟩,
 ⟨some 45,.mov t1,some (39,true)⟩,
 ⟨some 46,.call t40 [t44,t45],some (39,true)⟩,
 ⟨some 47,.bin .eql t46 (z 0),some (39,true)⟩,
 o 48 (.pick t39 t47 kF),
 o 6 (.mov t35),
 o 7 (.mov t48)]
def f334_18:AC:=.seq (.reg f334_17) .ret
def f334_19:AC:=.seq f334_16 f334_18
def f334_20:AC:=.seq (.reg f334_2) f334_19
def f334_21:AC:=.seq (.reg f334_1) f334_20
def f334_22:AC:=.seq (.reg f334_0) f334_21
def f334B:AC:=f334_22
def f334:AF:=⟨3,49,[(.t 6),(.t 7)],f334B⟩
def f335_0:List AI:=[o 2 (.box t0),
 o 4 (.mov (z 0))]
def f335_1:List AI:=[o 5 (.faddr 0 t2),
 o 6 (.load false 1 t5),
 o 7 (.wrapI .i64 t6),
 o 8 (.mov t1),
 o 9 (.wrapI .i64 t8),
 o 10 (.bin .sub t7 t9),
 o 4 (.mov t10)]
def f335_2:AC:=.seq (.reg f335_1) .ret
def f335_3:AC:=.seq (.reg f335_0) f335_2
def f335B:AC:=f335_3
def f335:AF:=⟨2,11,[(.t 4)],f335B⟩
def f336_0:List AI:=[o 4 (.mov (z 0))]
def f336_1:List AI:=[o 6 (.mov t0),
 o 7 (.len .slc t6),
 o 8 (.mov (z 0))]
def f336_2:List AI:=[o 9 (.bin .lss t8 t7)]
def f336_3:AC:=.cond t9 .skip (.exit 0)
def f336_4:List AI:=[o 10 (.mov t8),
 o 5 (.mov t10)]
def f336_5:List AI:=[o 11 (.mov t1),
 o 12 (.mov t0),
 o 13 (.mov t5),
 o 14 (.iaddr 2 t12 t13),
 o 15 (.load true 2 t14),
 o 16 (.call t11 [t15])]
def f336_6:List AI:=[o 17 (.mov t5),
 o 4 (.mov t17)]
def f336_7:AC:=.seq (.reg f336_6) .ret
def f336_8:AC:=.cond t16 f336_7 .skip
def f336_9:AC:=.seq (.reg f336_5) f336_8
def f336_10:AC:=.seq (.reg f336_4) f336_9
def f336_11:AC:=.block 1 f336_10
def f336_12:List AI:=[o 18 (.bin .add t8 (z 1)),
 o 8 (.mov t18)]
def f336_13:AC:=.seq f336_11 (.reg f336_12)
def f336_14:AC:=.seq f336_3 f336_13
def f336_15:AC:=.seq (.reg f336_2) f336_14
def f336_16:AC:=.loop f336_15
def f336_17:AC:=.block 0 f336_16
def f336_18:AC:=.seq (.reg f336_1) f336_17
def f336_19:List AI:=[(o 4 (.mov (.c (.one (.int .i64 (-1))))))]
def f336_20:AC:=.seq (.reg f336_19) .ret
def f336_21:AC:=.seq f336_18 f336_20
def f336_22:AC:=.seq (.reg f336_0) f336_21
def f336B:AC:=f336_22
def f336:AF:=⟨2,19,[(.t 4)],f336B⟩
def f337_0:List AI:=[o 1 (.box t0),
 o 2 (.mov kF)]
def f337_1:List AI:=[o 3 (.load true 2 t1),
 o 4 (.call (g 298) [t3]),
 o 5 (.bin .neq t4 (z 0)),
 o 2 (.mov t5)]
def f337_2:AC:=.seq (.reg f337_1) .ret
def f337_3:AC:=.seq (.reg f337_0) f337_2
def f337B:AC:=f337_3
def f337:AF:=⟨1,6,[(.t 2)],f337B⟩
def f342_0:List AI:=[o 4 (.box t1),
 o 6 (.mov (z 0)),
 o 7 (.mov kF)]
def f342_1:List AI:=[o 12 (.mov t0),
 o 13 (.len .slc t12),
 o 8 (.mov t13)]
def f342_2:List AI:=[o 14 (.mov t8),
 o 9 (.mov (z 0)),
 o 10 (.mov t14)]
def f342_3:List AI:=[o 15 (.mov t9),
 o 16 (.mov t10),
 o 17 (.bin .lss t15 t16)]
def f342_4:AC:=.cond t17 .skip (.exit 0)
def f342_5:AC:=.seq (.reg f342_3) f342_4
def f342_6:List AI:=[o 18 (.mov t9),
 o 19 (.mov t10),
 o 20 (.bin .add t18 t19),
 o 21 (.wrapI .u64 t20),
 o 22 (.bin .shr t21 (.c (.one (.int .u64 1)))),
 o 23 (.wrapI .i64 t22),
 o 11 (.mov t23)]
def f342_7:List AI:=[o 24 (.mov t2),
 o 25 (.mov t0),
 o 26 (.mov t11),
 o 27 (.iaddr 2 t25 t26),
 o 28 (.load true 2 t27),
 o 29 (.load true 2 t4),
 o 30 (.call t24 [t28,t29]),
 o 31 (.bin .lss t30 (z 0))]
def f342_8:List AI:=[o 32 (.mov t11),
 o 33 (.bin .add t32 (z 1)),
 o 9 (.mov t33)]
def f342_9:List AI:=[o 34 (.mov t11),
 o 10 (.mov t34)]
def f342_10:AC:=.cond t31 (.reg f342_8) (.reg f342_9)
def f342_11:AC:=.seq (.dreg f342_7) f342_10
def f342_12:AC:=.seq (.reg f342_6) f342_11
def f342_13:AC:=.block 1 f342_12
def f342_14:AC:=.seq f342_5 f342_13
def f342_15:AC:=.loop f342_14
def f342_16:AC:=.block 0 f342_15
def f342_17:List AI:=[o 35 (.mov t9),
 o 36 (.mov t9),
 o 37 (.mov t8),
 o 38 (.bin .lss t36 t37),
 o 39 (.mov t38),
 ⟨some 40,.mov t2,some (39,true)⟩,
 ⟨some 41,.mov t0,some (39,true)⟩,
 ⟨some 42,.mov t9,some (39,true)⟩,
 ⟨some 43,.iaddr 2 t41 t42,some (39,true)⟩,
 ⟨some 44,.load true 2 t43,some (39,true)⟩,
 ⟨some 45,.load true 2 t4,some (39,true)⟩,
 ⟨some 46,.call t40 [t44,t45],some (39,true)⟩,
 ⟨some 47,.bin .eql t46 (z 0),some (39,true)⟩,
 o 48 (.pick t39 t47 kF),
 o 6 (.mov t35),
 o 7 (.mov t48)]
def f342_18:AC:=.seq (.dreg f342_17) .ret
def f342_19:AC:=.seq f342_16 f342_18
def f342_20:AC:=.seq (.reg f342_2) f342_19
def f342_21:AC:=.seq (.reg f342_1) f342_20
def f342_22:AC:=.seq (.reg f342_0) f342_21
def f342B:AC:=f342_22
def f342:AF:=⟨3,49,[(.t 6),(.t 7)],f342B⟩
def f346_0:List AI:=[o 1 (.box t0),
 o 2 (.mov (.c (.one (.str []))))]
def f346_1:List AI:=[(o 7 (.rowLit 1 [(.int .u8 0)] 1 [(0,(.c (.one (.int .u8 45))))])),
 o 3 (.mov t7)]
def f346_2:List AI:=[o 8 (.faddr 1 t1),
 o 9 (.load false 1 t8)]
def f346_3:List AI:=[o 10 (.mov t3),
 o 11 (.iaddr 1 t10 (z 0)),
 v (.store 1 t11 (.c (.one (.int .u8 43))))]
def f346_4:AC:=.cond t9 (.reg f346_3) .skip
def f346_5:AC:=.seq (.reg f346_2) f346_4
def f346_6:List AI:=[o 12 (.faddr 0 t1),
 o 13 (.load false 1 t12),
 o 14 (.len .slc t13),
 o 15 (.mov (z 0))]
def f346_7:List AI:=[o 16 (.bin .lss t15 t14)]
def f346_8:AC:=.cond t16 .skip (.exit 0)
def f346_9:List AI:=[o 17 (.iaddr 2 t13 t15),
 o 18 (.load true 2 t17),
 o 5 (.new [(.int .i32 0),(.int .i64 0)]),
 v (.store 2 t5 t18)]
def f346_10:List AI:=[o 19 (.mov t3),
 o 20 (.faddr 0 t5),
 o 21 (.load false 1 t20),
 o 22 (.call (g 56) [t19,t21]),
 o 3 (.mov t22)]
def f346_11:List AI:=[o 23 (.faddr 1 t5),
 o 24 (.load false 1 t23),
 o 6 (.mov t24)]
def f346_12:List AI:=[o 27 (.mov t3),
 o 28 (.mov t6),
 o 29 (.bin .rem t28 (z 128)),
 o 30 (.wrapI .u8 t29),
 o 31 (.bin .or t30 (.c (.one (.int .u8 128)))),
 o 32 (.rowLit 1 [(.int .u8 0)] 1 [(0,t31)]),
 o 33 (.app 1 1 t27 t32),
 o 3 (.mov t33)]
def f346_13:List AI:=[o 34 (.mov t6),
 o 35 (.bin .lss t34 (z 128))]
def f346_14:AC:=.cond t35 (.exit 2) .skip
def f346_15:AC:=.seq (.reg f346_13) f346_14
def f346_16:AC:=.seq (.reg f346_12) f346_15
def f346_17:AC:=.block 3 f346_16
def f346_18:List AI:=[o 25 (.mov t6),
 o 26 (.bin .quo t25 (z 128)),
 o 6 (.mov t26)]
def f346_19:AC:=.seq f346_17 (.reg f346_18)
def f346_20:AC:=.loop f346_19
def f346_21:AC:=.block 2 f346_20
def f346_22:AC:=.seq (.reg f346_11) f346_21
def f346_23:List AI:=[o 36 (.mov t3),
 (o 37 (.rowLit 1 [(.int .u8 0)] 1 [(0,(.c (.one (.int .u8 0))))])),
 o 38 (.app 1 1 t36 t37),
 o 3 (.mov t38)]
def f346_24:AC:=.seq f346_22 (.reg f346_23)
def f346_25:AC:=.seq (.reg f346_10) f346_24
def f346_26:AC:=.seq (.reg f346_9) f346_25
def f346_27:AC:=.block 1 f346_26
def f346_28:List AI:=[o 39 (.bin .add t15 (z 1)),
 o 15 (.mov t39)]
def f346_29:AC:=.seq f346_27 (.reg f346_28)
def f346_30:AC:=.seq f346_8 f346_29
def f346_31:AC:=.seq (.reg f346_7) f346_30
def f346_32:AC:=.loop f346_31
def f346_33:AC:=.block 0 f346_32
def f346_34:AC:=.seq (.reg f346_6) f346_33
def f346_35:List AI:=[o 40 (.mov t3),
 o 41 (.b2s t40),
 o 2 (.mov t41)]
def f346_36:AC:=.seq (.reg f346_35) .ret
def f346_37:AC:=.seq f346_34 f346_36
def f346_38:AC:=.seq f346_5 f346_37
def f346_39:AC:=.seq (.reg f346_1) f346_38
def f346_40:AC:=.seq (.reg f346_0) f346_39
def f346B:AC:=f346_40
def f346:AF:=⟨1,42,[(.t 2)],f346B⟩
end Go.EA.F
