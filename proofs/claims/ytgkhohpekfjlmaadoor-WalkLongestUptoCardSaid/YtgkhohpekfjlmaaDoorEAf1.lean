/- Functions of the program, as abstract code (printed by a program). Conditions: none (definitions). -/
import Derived.Test.YtgkhohpekfjlmaaDoorEK1
namespace Go.EA.F
namespace AF3
def o (d:Nat) (x:AOp):AI:=⟨some d,x,none⟩
def v (x:AOp):AI:=⟨none,x,none⟩
def kF:Opd:=.c (.one (.bool false))
def kT:Opd:=.c (.one (.bool true))
def kN:Opd:=.c (.one .nils)
def kP:Opd:=.c (.one .nilp)
def z (n:Int):Opd:=.c (.one (.int .i64 n))
def g (n:Nat):Opd:=.c (.one (.fn n []))
def t0:Opd:=.t 0
def t1:Opd:=.t 1
def t2:Opd:=.t 2
def t3:Opd:=.t 3
def t4:Opd:=.t 4
def t5:Opd:=.t 5
def t6:Opd:=.t 6
def t7:Opd:=.t 7
def t8:Opd:=.t 8
def t9:Opd:=.t 9
def t10:Opd:=.t 10
def t11:Opd:=.t 11
def t12:Opd:=.t 12
def t13:Opd:=.t 13
def t14:Opd:=.t 14
def t15:Opd:=.t 15
def t16:Opd:=.t 16
def t17:Opd:=.t 17
def t18:Opd:=.t 18
def t19:Opd:=.t 19
def t20:Opd:=.t 20
def t21:Opd:=.t 21
def t22:Opd:=.t 22
def t23:Opd:=.t 23
def t24:Opd:=.t 24
def t25:Opd:=.t 25
def t26:Opd:=.t 26
def t27:Opd:=.t 27
def t28:Opd:=.t 28
def t29:Opd:=.t 29
def t30:Opd:=.t 30
def t31:Opd:=.t 31
def t32:Opd:=.t 32
def t33:Opd:=.t 33
def t34:Opd:=.t 34
def t35:Opd:=.t 35
def t36:Opd:=.t 36
def t37:Opd:=.t 37
def t38:Opd:=.t 38
def t39:Opd:=.t 39
def t40:Opd:=.t 40
def t41:Opd:=.t 41
def t42:Opd:=.t 42
def t43:Opd:=.t 43
def t44:Opd:=.t 44
def t45:Opd:=.t 45
def t46:Opd:=.t 46
def t47:Opd:=.t 47
def t48:Opd:=.t 48
def t49:Opd:=.t 49
def t50:Opd:=.t 50
def t51:Opd:=.t 51
def t52:Opd:=.t 52
def t53:Opd:=.t 53
def t54:Opd:=.t 54
def t55:Opd:=.t 55
def t56:Opd:=.t 56
def t57:Opd:=.t 57
def t58:Opd:=.t 58
def t59:Opd:=.t 59
def t60:Opd:=.t 60
def t61:Opd:=.t 61
def t62:Opd:=.t 62
def t63:Opd:=.t 63
def t64:Opd:=.t 64
def t65:Opd:=.t 65
def t66:Opd:=.t 66
def t67:Opd:=.t 67
def t68:Opd:=.t 68
def t69:Opd:=.t 69
def t70:Opd:=.t 70
def t71:Opd:=.t 71
def t72:Opd:=.t 72
def t73:Opd:=.t 73
def t74:Opd:=.t 74
def t75:Opd:=.t 75
def t76:Opd:=.t 76
def t77:Opd:=.t 77
end AF3
open AF3
def f3_0:List AI:=[o 4 (.mov kF)]
def f3_1:List AI:=[o 11 (.call (g 16) []),
 o 12 (.un .not t11)]
def f3_2:List AI:=[o 4 (.mov kF)]
def f3_3:AC:=.seq (.reg f3_2) .ret
def f3_4:AC:=.cond t12 f3_3 .skip
def f3_5:AC:=.seq (.reg f3_1) f3_4
def f3_6:List AI:=[o 13 (.mov t0),
 o 14 (.len .str t13),
 o 15 (.bin .gtr t14 (z 2000)),
 o 16 (.mov t15),
 ⟨some 17,.mov t1,some (16,false)⟩,
 ⟨some 18,.len .str t17,some (16,false)⟩,
 ⟨some 19,.bin .gtr t18 (z 2000),some (16,false)⟩,
 o 20 (.pick t16 kT t19)]
def f3_7:List AI:=[o 4 (.mov kT)]
def f3_8:AC:=.seq (.reg f3_7) .ret
def f3_9:AC:=.cond t20 f3_8 .skip
def f3_10:AC:=.seq (.reg f3_6) f3_9
def f3_11:List AI:=[o 22 (.mov t0),
 o 23 (.call (g 17) [t22]),
 o 21 (.mov t23),
 o 24 (.ext t21 0),
 o 25 (.ext t21 1),
 o 5 (.mov t24),
 o 6 (.mov t25)]
def f3_12:List AI:=[o 27 (.mov t1),
 o 28 (.call (g 17) [t27]),
 o 26 (.mov t28),
 o 29 (.ext t26 0),
 o 30 (.ext t26 1),
 o 7 (.mov t29),
 o 8 (.mov t30)]
def f3_13:List AI:=[o 32 (.mov t0),
 o 33 (.mov t1),
 o 34 (.bin .add t32 t33),
 o 35 (.call (g 17) [t34]),
 o 31 (.mov t35),
 o 36 (.ext t31 0),
 o 37 (.ext t31 1),
 o 9 (.mov t36),
 o 10 (.mov t37)]
def f3_14:List AI:=[o 38 (.mov t6),
 o 39 (.bin .eql t38 (z 0)),
 o 40 (.mov t39),
 ⟨some 41,.mov t8,some (40,true)⟩,
 ⟨some 42,.bin .eql t41 (z 0),some (40,true)⟩,
 o 43 (.pick t40 t42 kF)]
def f3_15:List AI:=[o 44 (.mov t10),
 o 45 (.bin .eql t44 (z 0)),
 o 46 (.mov t45),
 ⟨some 47,.mov t9,some (46,true)⟩,
 ⟨some 48,.rowLit 1 [(.int .i32 0)] 0 [],some (46,true)⟩,
 ⟨some 49,.mov t5,some (46,true)⟩,
 ⟨some 50,.app 1 4 t48 t49,some (46,true)⟩,
 ⟨some 51,.mov t7,some (46,true)⟩,
 ⟨some 52,.app 1 4 t50 t51,some (46,true)⟩,
 ⟨some 53,.call (g 18) [t47,t52],some (46,true)⟩,
 o 54 (.pick t46 t53 kF),
 o 4 (.mov t54)]
def f3_16:AC:=.seq (.reg f3_15) .ret
def f3_17:AC:=.cond t43 f3_16 .skip
def f3_18:AC:=.seq (.reg f3_14) f3_17
def f3_19:List AI:=[o 55 (.mov t6),
 o 56 (.bin .neq t55 (z 0)),
 o 57 (.mov t56),
 ⟨some 58,.mov t8,some (57,true)⟩,
 ⟨some 59,.bin .neq t58 (z 0),some (57,true)⟩,
 o 60 (.pick t57 t59 kF),
 o 61 (.mov t60),
 ⟨some 62,.mov t10,some (61,false)⟩,
 ⟨some 63,.bin .neq t62 (z 0),some (61,false)⟩,
 o 64 (.pick t61 kT t63),
 o 4 (.mov t64)]
def f3_20:AC:=.seq (.reg f3_19) .ret
def f3_21:AC:=.seq f3_18 f3_20
def f3_22:AC:=.seq (.reg f3_13) f3_21
def f3_23:AC:=.seq (.reg f3_12) f3_22
def f3_24:AC:=.seq (.reg f3_11) f3_23
def f3_25:AC:=.seq f3_10 f3_24
def f3_26:AC:=.seq f3_5 f3_25
def f3_27:AC:=.seq (.reg f3_0) f3_26
def f3B:AC:=f3_27
def f3:AF:=⟨2,65,[(.t 4)],f3B⟩
def f4_0:List AI:=[o 2 (.mov kF)]
def f4_1:List AI:=[o 11 (.call (g 16) []),
 o 12 (.un .not t11)]
def f4_2:List AI:=[o 2 (.mov kF)]
def f4_3:AC:=.seq (.reg f4_2) .ret
def f4_4:AC:=.cond t12 f4_3 .skip
def f4_5:AC:=.seq (.reg f4_1) f4_4
def f4_6:List AI:=[o 13 (.mov t0),
 o 14 (.len .str t13),
 o 15 (.bin .gtr t14 (z 3000))]
def f4_7:List AI:=[o 2 (.mov kT)]
def f4_8:AC:=.seq (.reg f4_7) .ret
def f4_9:AC:=.cond t15 f4_8 .skip
def f4_10:AC:=.seq (.reg f4_6) f4_9
def f4_11:List AI:=[o 17 (.mov t0),
 o 18 (.call (g 17) [t17]),
 o 16 (.mov t18),
 o 19 (.ext t16 0),
 o 20 (.ext t16 1),
 o 3 (.mov t19),
 o 4 (.mov t20)]
def f4_12:List AI:=[o 22 (.mov t0),
 o 23 (.call (g 19) [t22]),
 o 21 (.mov t23),
 o 24 (.ext t21 0),
 o 25 (.ext t21 1),
 o 5 (.mov t24),
 o 6 (.mov t25)]
def f4_13:List AI:=[o 27 (.mov t0),
 o 28 (.call (g 20) [t27]),
 o 26 (.mov t28),
 o 29 (.ext t26 0),
 o 30 (.ext t26 1),
 o 7 (.mov t29),
 o 8 (.mov t30)]
def f4_14:List AI:=[o 32 (.mov t0),
 o 33 (.call (g 21) [t32]),
 o 31 (.mov t33),
 o 34 (.ext t31 0),
 o 35 (.ext t31 1),
 o 9 (.mov t34),
 o 10 (.mov t35)]
def f4_15:List AI:=[o 36 (.mov t3),
 o 37 (.mov t5),
 o 38 (.call (g 18) [t36,t37]),
 o 39 (.mov t38),
 ⟨some 40,.mov t4,some (39,true)⟩,
 ⟨some 41,.mov t6,some (39,true)⟩,
 ⟨some 42,.bin .eql t40 t41,some (39,true)⟩,
 o 43 (.pick t39 t42 kF),
 o 44 (.mov t43),
 ⟨some 45,.mov t0,some (44,true)⟩,
 ⟨some 46,.call (g 22) [t45],some (44,true)⟩,
 ⟨some 47,.mov t0,some (44,true)⟩,
 ⟨some 48,.call (g 23) [t47],some (44,true)⟩,
 ⟨some 49,.eqv .bool false t46 t48,some (44,true)⟩,
 o 50 (.pick t44 t49 kF),
 o 51 (.mov t50),
 ⟨some 52,.mov t7,some (51,true)⟩,
 ⟨some 53,.mov t9,some (51,true)⟩,
 ⟨some 54,.call (g 18) [t52,t53],some (51,true)⟩,
 o 55 (.pick t51 t54 kF),
 o 56 (.mov t55),
 ⟨some 57,.mov t8,some (56,true)⟩,
 ⟨some 58,.mov t10,some (56,true)⟩,
 ⟨some 59,.bin .eql t57 t58,some (56,true)⟩,
 o 60 (.pick t56 t59 kF),
 o 2 (.mov t60)]
def f4_16:AC:=.seq (.reg f4_15) .ret
def f4_17:AC:=.seq (.reg f4_14) f4_16
def f4_18:AC:=.seq (.reg f4_13) f4_17
def f4_19:AC:=.seq (.reg f4_12) f4_18
def f4_20:AC:=.seq (.reg f4_11) f4_19
def f4_21:AC:=.seq f4_10 f4_20
def f4_22:AC:=.seq f4_5 f4_21
def f4_23:AC:=.seq (.reg f4_0) f4_22
def f4B:AC:=f4_23
def f4:AF:=⟨1,61,[(.t 2)],f4B⟩
def f9_0:List AI:=[o 4 (.mov kF)]
def f9_1:List AI:=[o 13 (.call (g 16) []),
 o 14 (.un .not t13)]
def f9_2:List AI:=[o 4 (.mov kF)]
def f9_3:AC:=.seq (.reg f9_2) .ret
def f9_4:AC:=.cond t14 f9_3 .skip
def f9_5:AC:=.seq (.reg f9_1) f9_4
def f9_6:List AI:=[o 15 (.mov t0),
 o 16 (.len .slc t15),
 o 17 (.bin .gtr t16 (z 3000)),
 o 18 (.mov t17),
 ⟨some 19,.mov t1,some (18,false)⟩,
 ⟨some 20,.len .str t19,some (18,false)⟩,
 ⟨some 21,.bin .gtr t20 (z 5000),some (18,false)⟩,
 o 22 (.pick t18 kT t21)]
def f9_7:List AI:=[o 4 (.mov kT)]
def f9_8:AC:=.seq (.reg f9_7) .ret
def f9_9:AC:=.cond t22 f9_8 .skip
def f9_10:AC:=.seq (.reg f9_6) f9_9
def f9_11:List AI:=[o 24 (.mov t0),
 o 25 (.call (g 33) [t24]),
 o 23 (.mov t25),
 o 26 (.ext t23 0),
 o 27 (.ext t23 1),
 o 5 (.mov t26),
 o 6 (.mov t27)]
def f9_12:List AI:=[o 28 (.mov t6),
 o 29 (.bin .eql t28 (z 0))]
def f9_13:List AI:=[o 31 (.mov t5),
 o 32 (.call (g 17) [t31]),
 o 30 (.mov t32),
 o 33 (.ext t30 0),
 o 34 (.ext t30 1),
 o 7 (.mov t33),
 o 8 (.mov t34)]
def f9_14:List AI:=[o 35 (.mov t8),
 o 36 (.bin .neq t35 (z 0)),
 o 37 (.mov t36),
 ⟨some 38,.mov t7,some (37,false)⟩,
 ⟨some 39,.mov t0,some (37,false)⟩,
 ⟨some 40,.call (g 18) [t38,t39],some (37,false)⟩,
 ⟨some 41,.un .not t40,some (37,false)⟩,
 o 42 (.pick t37 kT t41),
 o 43 (.mov t42),
 ⟨some 44,.mov t5,some (43,false)⟩,
 ⟨some 45,.call (g 38) [t44],some (43,false)⟩,
 ⟨some 46,.un .not t45,some (43,false)⟩,
 o 47 (.pick t43 kT t46)]
def f9_15:List AI:=[o 4 (.mov kF)]
def f9_16:AC:=.seq (.reg f9_15) .ret
def f9_17:AC:=.cond t47 f9_16 .skip
def f9_18:AC:=.seq (.reg f9_14) f9_17
def f9_19:AC:=.seq (.reg f9_13) f9_18
def f9_20:AC:=.cond t29 f9_19 .skip
def f9_21:AC:=.seq (.reg f9_12) f9_20
def f9_22:AC:=.seq (.reg f9_11) f9_21
def f9_23:List AI:=[o 49 (.mov t1),
 o 50 (.call (g 17) [t49]),
 o 48 (.mov t50),
 o 51 (.ext t48 0),
 o 52 (.ext t48 1),
 o 9 (.mov t51),
 o 10 (.mov t52)]
def f9_24:List AI:=[o 53 (.mov t10),
 o 54 (.bin .eql t53 (z 0)),
 o 55 (.mov t1),
 o 56 (.call (g 38) [t55]),
 o 57 (.eqv .bool true t54 t56)]
def f9_25:List AI:=[o 4 (.mov kF)]
def f9_26:AC:=.seq (.reg f9_25) .ret
def f9_27:AC:=.cond t57 f9_26 .skip
def f9_28:AC:=.seq (.reg f9_24) f9_27
def f9_29:List AI:=[o 58 (.mov t10),
 o 59 (.bin .neq t58 (z 0))]
def f9_30:List AI:=[o 60 (.mov t9),
 o 61 (.len .slc t60),
 o 62 (.bin .eql t61 (z 0)),
 o 4 (.mov t62)]
def f9_31:AC:=.seq (.reg f9_30) .ret
def f9_32:AC:=.cond t59 f9_31 .skip
def f9_33:AC:=.seq (.reg f9_29) f9_32
def f9_34:List AI:=[o 64 (.mov t9),
 o 65 (.call (g 33) [t64]),
 o 63 (.mov t65),
 o 66 (.ext t63 0),
 o 67 (.ext t63 1),
 o 11 (.mov t66),
 o 12 (.mov t67)]
def f9_35:List AI:=[o 68 (.mov t12),
 o 69 (.bin .eql t68 (z 0)),
 o 70 (.mov t69),
 ⟨some 71,.mov t11,some (70,true)⟩,
 ⟨some 72,.mov t1,some (70,true)⟩,
 ⟨some 73,.bin .eql t71 t72,some (70,true)⟩,
 o 74 (.pick t70 t73 kF),
 o 4 (.mov t74)]
def f9_36:AC:=.seq (.reg f9_35) .ret
def f9_37:AC:=.seq (.reg f9_34) f9_36
def f9_38:AC:=.seq f9_33 f9_37
def f9_39:AC:=.seq f9_28 f9_38
def f9_40:AC:=.seq (.reg f9_23) f9_39
def f9_41:AC:=.seq f9_22 f9_40
def f9_42:AC:=.seq f9_10 f9_41
def f9_43:AC:=.seq f9_5 f9_42
def f9_44:AC:=.seq (.reg f9_0) f9_43
def f9B:AC:=f9_44
def f9:AF:=⟨2,75,[(.t 4)],f9B⟩
def f17_0:List AI:=[o 2 (.new [.nils]),
 o 3 (.new [(.int .i64 0)])]
def f17_1:List AI:=[o 6 (.mov t0),
 o 7 (.call (g 45) [t6])]
def f17_2:List AI:=[o 4 (.mov t8)]
def f17_3:List AI:=[o 5 (.mov t9)]
def f17_4:AC:=.seq (.reg f17_2) (.reg f17_3)
def f17_5:List AI:=[o 10 (.mov t5),
 o 11 (.un .not t10)]
def f17_6:List AI:=[v (.store 1 t2 kN),
 v (.store 1 t3 (z 3))]
def f17_7:AC:=.seq (.reg f17_6) .ret
def f17_8:AC:=.cond t11 f17_7 .skip
def f17_9:AC:=.seq (.reg f17_5) f17_8
def f17_10:List AI:=[o 12 (.load false 1 t2),
 o 13 (.mov t4),
 o 14 (.rowLit 1 [(.int .i32 0)] 1 [(0,t13)]),
 o 15 (.app 1 4 t12 t14),
 v (.store 1 t2 t15)]
def f17_11:AC:=.seq f17_9 (.reg f17_10)
def f17_12:AC:=.block 1 f17_11
def f17_13:AC:=.rangeF t7 [8,9] f17_4 f17_12
def f17_14:AC:=.block 0 f17_13
def f17_15:AC:=.seq (.reg f17_1) f17_14
def f17_16:List AI:=[o 16 (.load false 1 t2),
 v (.store 1 t2 t16),
 v (.store 1 t3 (z 0))]
def f17_17:AC:=.seq (.reg f17_16) .ret
def f17_18:AC:=.seq f17_15 f17_17
def f17_19:AC:=.seq (.reg f17_0) f17_18
def f17B:AC:=f17_19
def f17:AF:=⟨1,17,[(.cell 2 false 1),(.cell 3 false 1)],f17B⟩
def f19_0:List AI:=[o 2 (.mov kN),
 o 3 (.mov (z 0))]
def f19_1:List AI:=[o 4 (.mov kN)]
def f19_2:List AI:=[o 7 (.mov t0),
 o 8 (.len .str t7),
 o 9 (.bin .gtr t8 (z 0))]
def f19_3:AC:=.cond t9 .skip (.exit 0)
def f19_4:AC:=.seq (.reg f19_2) f19_3
def f19_5:List AI:=[o 11 (.mov t0),
 o 12 (.call (g 46) [t11]),
 o 10 (.mov t12),
 o 13 (.ext t10 0),
 o 14 (.ext t10 1),
 o 5 (.mov t13),
 o 6 (.mov t14)]
def f19_6:List AI:=[o 15 (.mov t6),
 o 16 (.bin .eql t15 (z 0))]
def f19_7:List AI:=[o 2 (.mov kN),
 o 3 (.mov (z 3))]
def f19_8:AC:=.seq (.reg f19_7) .ret
def f19_9:AC:=.cond t16 f19_8 .skip
def f19_10:AC:=.seq (.reg f19_6) f19_9
def f19_11:List AI:=[o 17 (.mov t4),
 o 18 (.mov t5),
 o 19 (.rowLit 1 [(.int .i32 0)] 1 [(0,t18)]),
 o 20 (.app 1 4 t17 t19),
 o 4 (.mov t20)]
def f19_12:List AI:=[o 21 (.mov t0),
 o 22 (.mov t6),
 o 23 (.slice .str 1 t21 (some t22) none none),
 o 0 (.mov t23)]
def f19_13:AC:=.seq (.reg f19_11) (.reg f19_12)
def f19_14:AC:=.seq f19_10 f19_13
def f19_15:AC:=.seq (.reg f19_5) f19_14
def f19_16:AC:=.block 1 f19_15
def f19_17:AC:=.seq f19_4 f19_16
def f19_18:AC:=.loop f19_17
def f19_19:AC:=.block 0 f19_18
def f19_20:List AI:=[o 24 (.mov t4),
 o 2 (.mov t24),
 o 3 (.mov (z 0))]
def f19_21:AC:=.seq (.reg f19_20) .ret
def f19_22:AC:=.seq f19_19 f19_21
def f19_23:AC:=.seq (.reg f19_1) f19_22
def f19_24:AC:=.seq (.reg f19_0) f19_23
def f19B:AC:=f19_24
def f19:AF:=⟨1,25,[(.t 2),(.t 3)],f19B⟩
def f20_0:List AI:=[o 2 (.mov kN),
 o 3 (.mov (z 0))]
def f20_1:List AI:=[o 7 (.mov t0),
 o 8 (.call (g 17) [t7]),
 o 6 (.mov t8),
 o 9 (.ext t6 0),
 o 10 (.ext t6 1),
 o 4 (.mov t9),
 o 5 (.mov t10)]
def f20_2:List AI:=[o 12 (.mov t5),
 o 13 (.bin .neq t12 (z 0)),
 o 11 (.mov t13)]
def f20_3:List AI:=[o 14 (.mov t5),
 o 2 (.mov kN),
 o 3 (.mov t14)]
def f20_4:AC:=.seq (.reg f20_3) .ret
def f20_5:List AI:=[o 16 (.mov t4),
 o 17 (.len .slc t16),
 o 18 (.bin .eql t17 (z 0)),
 o 15 (.mov t18)]
def f20_6:List AI:=[o 2 (.mov kN),
 o 3 (.mov (z 4))]
def f20_7:AC:=.seq (.reg f20_6) .ret
def f20_8:List AI:=[o 20 (.mov t4),
 o 21 (.len .slc t20),
 o 22 (.bin .gtr t21 (z 64)),
 o 19 (.mov t22)]
def f20_9:List AI:=[o 2 (.mov kN),
 o 3 (.mov (z 5))]
def f20_10:AC:=.seq (.reg f20_9) .ret
def f20_11:AC:=.cond t19 f20_10 .skip
def f20_12:AC:=.seq (.reg f20_8) f20_11
def f20_13:AC:=.cond t15 f20_7 f20_12
def f20_14:AC:=.seq (.reg f20_5) f20_13
def f20_15:AC:=.cond t11 f20_4 f20_14
def f20_16:AC:=.seq (.reg f20_2) f20_15
def f20_17:AC:=.block 0 f20_16
def f20_18:List AI:=[o 23 (.mov t4),
 o 2 (.mov t23),
 o 3 (.mov (z 0))]
def f20_19:AC:=.seq (.reg f20_18) .ret
def f20_20:AC:=.seq f20_17 f20_19
def f20_21:AC:=.seq (.reg f20_1) f20_20
def f20_22:AC:=.seq (.reg f20_0) f20_21
def f20B:AC:=f20_22
def f20:AF:=⟨1,24,[(.t 2),(.t 3)],f20B⟩
def f21_0:List AI:=[o 2 (.mov kN),
 o 3 (.mov (z 0))]
def f21_1:List AI:=[o 7 (.mov t0),
 o 8 (.call (g 19) [t7]),
 o 6 (.mov t8),
 o 9 (.ext t6 0),
 o 10 (.ext t6 1),
 o 4 (.mov t9),
 o 5 (.mov t10)]
def f21_2:List AI:=[o 11 (.mov t5),
 o 12 (.bin .neq t11 (z 0))]
def f21_3:List AI:=[o 13 (.mov t5),
 o 2 (.mov kN),
 o 3 (.mov t13)]
def f21_4:AC:=.seq (.reg f21_3) .ret
def f21_5:AC:=.cond t12 f21_4 .skip
def f21_6:AC:=.seq (.reg f21_2) f21_5
def f21_7:List AI:=[o 14 (.mov t4),
 o 15 (.len .slc t14),
 o 16 (.bin .eql t15 (z 0))]
def f21_8:List AI:=[o 2 (.mov kN),
 o 3 (.mov (z 4))]
def f21_9:AC:=.seq (.reg f21_8) .ret
def f21_10:AC:=.cond t16 f21_9 .skip
def f21_11:AC:=.seq (.reg f21_7) f21_10
def f21_12:List AI:=[o 17 (.mov t4),
 o 18 (.len .slc t17),
 o 19 (.bin .gtr t18 (z 64))]
def f21_13:List AI:=[o 2 (.mov kN),
 o 3 (.mov (z 5))]
def f21_14:AC:=.seq (.reg f21_13) .ret
def f21_15:AC:=.cond t19 f21_14 .skip
def f21_16:AC:=.seq (.reg f21_12) f21_15
def f21_17:List AI:=[o 20 (.mov t4),
 o 2 (.mov t20),
 o 3 (.mov (z 0))]
def f21_18:AC:=.seq (.reg f21_17) .ret
def f21_19:AC:=.seq f21_16 f21_18
def f21_20:AC:=.seq f21_11 f21_19
def f21_21:AC:=.seq f21_6 f21_20
def f21_22:AC:=.seq (.reg f21_1) f21_21
def f21_23:AC:=.seq (.reg f21_0) f21_22
def f21B:AC:=f21_23
def f21:AF:=⟨1,21,[(.t 2),(.t 3)],f21B⟩
def f23_0:List AI:=[o 2 (.mov kF)]
def f23_1:List AI:=[o 8 (.mov t0),
 o 9 (.call (g 19) [t8]),
 o 7 (.mov t9),
 o 10 (.ext t7 0),
 o 11 (.ext t7 1),
 o 3 (.mov t10),
 o 4 (.mov t11)]
def f23_2:List AI:=[o 12 (.mov t3),
 o 13 (.len .slc t12),
 o 14 (.mov (z 0))]
def f23_3:List AI:=[o 15 (.bin .lss t14 t13)]
def f23_4:AC:=.cond t15 .skip (.exit 0)
def f23_5:List AI:=[o 16 (.iaddr 1 t12 t14),
 o 17 (.load false 1 t16),
 o 6 (.mov t17)]
def f23_6:List AI:=[o 18 (.mov t6),
 o 19 (.call (g 36) [t18]),
 o 20 (.un .not t19)]
def f23_7:List AI:=[o 2 (.mov kF)]
def f23_8:AC:=.seq (.reg f23_7) .ret
def f23_9:AC:=.cond t20 f23_8 .skip
def f23_10:AC:=.seq (.reg f23_6) f23_9
def f23_11:AC:=.seq (.reg f23_5) f23_10
def f23_12:AC:=.block 1 f23_11
def f23_13:List AI:=[o 21 (.bin .add t14 (z 1)),
 o 14 (.mov t21)]
def f23_14:AC:=.seq f23_12 (.reg f23_13)
def f23_15:AC:=.seq f23_4 f23_14
def f23_16:AC:=.seq (.reg f23_3) f23_15
def f23_17:AC:=.loop f23_16
def f23_18:AC:=.block 0 f23_17
def f23_19:AC:=.seq (.reg f23_2) f23_18
def f23_20:List AI:=[o 22 (.mov t4),
 o 23 (.bin .eql t22 (z 0)),
 o 24 (.mov t23),
 ⟨some 25,.mov t3,some (24,true)⟩,
 ⟨some 26,.len .slc t25,some (24,true)⟩,
 ⟨some 27,.bin .gtr t26 (z 0),some (24,true)⟩,
 o 28 (.pick t24 t27 kF),
 o 2 (.mov t28)]
def f23_21:AC:=.seq (.reg f23_20) .ret
def f23_22:AC:=.seq f23_19 f23_21
def f23_23:AC:=.seq (.reg f23_1) f23_22
def f23_24:AC:=.seq (.reg f23_0) f23_23
def f23B:AC:=f23_24
def f23:AF:=⟨1,29,[(.t 2)],f23B⟩
def f24_0:List AI:=[o 4 (.mov (z 0))]
def f24_1:List AI:=[o 5 (.mov t0),
 o 6 (.mov t1),
 o 7 (.call (g 47) [t5,t6,(g 48)]),
 o 4 (.mov t7)]
def f24_2:AC:=.seq (.reg f24_1) .ret
def f24_3:AC:=.seq (.reg f24_0) f24_2
def f24B:AC:=f24_3
def f24:AF:=⟨2,8,[(.t 4)],f24B⟩
def f33_0:List AI:=[o 2 (.mov (.c (.one (.str [])))),
 o 3 (.mov (z 0))]
def f33_1:List AI:=[o 7 (.mov t0),
 o 8 (.call (g 53) [t7,(g 54)])]
def f33_2:List AI:=[o 2 (.mov (.c (.one (.str [])))),
 o 3 (.mov (z 3))]
def f33_3:AC:=.seq (.reg f33_2) .ret
def f33_4:AC:=.cond t8 f33_3 .skip
def f33_5:AC:=.seq (.reg f33_1) f33_4
def f33_6:List AI:=[o 4 (.mov kN)]
def f33_7:List AI:=[o 9 (.mov t0),
 o 10 (.len .slc t9),
 o 11 (.mov (z 0))]
def f33_8:List AI:=[o 12 (.bin .lss t11 t10)]
def f33_9:AC:=.cond t12 .skip (.exit 0)
def f33_10:List AI:=[o 13 (.iaddr 1 t9 t11),
 o 14 (.load false 1 t13),
 o 6 (.mov t14)]
def f33_11:List AI:=[o 15 (.mov t4),
 o 16 (.mov t6),
 o 17 (.call (g 56) [t15,t16]),
 o 4 (.mov t17)]
def f33_12:AC:=.seq (.reg f33_10) (.reg f33_11)
def f33_13:AC:=.block 1 f33_12
def f33_14:List AI:=[o 18 (.bin .add t11 (z 1)),
 o 11 (.mov t18)]
def f33_15:AC:=.seq f33_13 (.reg f33_14)
def f33_16:AC:=.seq f33_9 f33_15
def f33_17:AC:=.seq (.reg f33_8) f33_16
def f33_18:AC:=.loop f33_17
def f33_19:AC:=.block 0 f33_18
def f33_20:AC:=.seq (.reg f33_7) f33_19
def f33_21:List AI:=[o 19 (.mov t4),
 o 20 (.b2s t19),
 o 2 (.mov t20),
 o 3 (.mov (z 0))]
def f33_22:AC:=.seq (.reg f33_21) .ret
def f33_23:AC:=.seq f33_20 f33_22
def f33_24:AC:=.seq (.reg f33_6) f33_23
def f33_25:AC:=.seq f33_5 f33_24
def f33_26:AC:=.seq (.reg f33_0) f33_25
def f33B:AC:=f33_26
def f33:AF:=⟨1,21,[(.t 2),(.t 3)],f33B⟩
def f37_0:List AI:=[o 4 (.mov (z 0))]
def f37_1:List AI:=[o 5 (.mov (z 0))]
def f37_2:List AI:=[o 6 (.mov t5),
 o 7 (.mov t0),
 o 8 (.len .slc t7),
 o 9 (.bin .lss t6 t8),
 o 10 (.mov t9),
 ⟨some 11,.mov t5,some (10,true)⟩,
 ⟨some 12,.mov t1,some (10,true)⟩,
 ⟨some 13,.len .slc t12,some (10,true)⟩,
 ⟨some 14,.bin .lss t11 t13,some (10,true)⟩,
 o 15 (.pick t10 t14 kF)]
def f37_3:AC:=.cond t15 .skip (.exit 0)
def f37_4:AC:=.seq (.reg f37_2) f37_3
def f37_5:List AI:=[o 18 (.mov t0),
 o 19 (.mov t5),
 o 20 (.iaddr 1 t18 t19),
 o 21 (.load false 1 t20),
 o 22 (.mov t1),
 o 23 (.mov t5),
 o 24 (.iaddr 1 t22 t23),
 o 25 (.load false 1 t24),
 o 26 (.bin .lss t21 t25)]
def f37_6:List AI:=[(o 4 (.mov (.c (.one (.int .i64 (-1))))))]
def f37_7:AC:=.seq (.reg f37_6) .ret
def f37_8:AC:=.cond t26 f37_7 .skip
def f37_9:AC:=.seq (.dreg f37_5) f37_8
def f37_10:List AI:=[o 27 (.mov t0),
 o 28 (.mov t5),
 o 29 (.iaddr 1 t27 t28),
 o 30 (.load false 1 t29),
 o 31 (.mov t1),
 o 32 (.mov t5),
 o 33 (.iaddr 1 t31 t32),
 o 34 (.load false 1 t33),
 o 35 (.bin .gtr t30 t34)]
def f37_11:List AI:=[o 4 (.mov (z 1))]
def f37_12:AC:=.seq (.reg f37_11) .ret
def f37_13:AC:=.cond t35 f37_12 .skip
def f37_14:AC:=.seq (.dreg f37_10) f37_13
def f37_15:AC:=.seq f37_9 f37_14
def f37_16:AC:=.block 1 f37_15
def f37_17:List AI:=[o 16 (.mov t5),
 o 17 (.bin .add t16 (z 1)),
 o 5 (.mov t17)]
def f37_18:AC:=.seq f37_16 (.reg f37_17)
def f37_19:AC:=.seq f37_4 f37_18
def f37_20:AC:=.loop f37_19
def f37_21:AC:=.block 0 f37_20
def f37_22:AC:=.seq (.reg f37_1) f37_21
def f37_23:List AI:=[o 36 (.mov t0),
 o 37 (.len .slc t36),
 o 38 (.mov t1),
 o 39 (.len .slc t38),
 o 40 (.bin .lss t37 t39)]
def f37_24:List AI:=[(o 4 (.mov (.c (.one (.int .i64 (-1))))))]
def f37_25:AC:=.seq (.reg f37_24) .ret
def f37_26:AC:=.cond t40 f37_25 .skip
def f37_27:AC:=.seq (.reg f37_23) f37_26
def f37_28:List AI:=[o 41 (.mov t0),
 o 42 (.len .slc t41),
 o 43 (.mov t1),
 o 44 (.len .slc t43),
 o 45 (.bin .gtr t42 t44)]
def f37_29:List AI:=[o 4 (.mov (z 1))]
def f37_30:AC:=.seq (.reg f37_29) .ret
def f37_31:AC:=.cond t45 f37_30 .skip
def f37_32:AC:=.seq (.reg f37_28) f37_31
def f37_33:List AI:=[o 4 (.mov (z 0))]
def f37_34:AC:=.seq (.reg f37_33) .ret
def f37_35:AC:=.seq f37_32 f37_34
def f37_36:AC:=.seq f37_27 f37_35
def f37_37:AC:=.seq f37_22 f37_36
def f37_38:AC:=.seq (.reg f37_0) f37_37
def f37B:AC:=f37_38
def f37:AF:=⟨2,46,[(.t 4)],f37B⟩
def f45_0:List AI:=[o 1 (.box t0),
 o 2 (.mov (.c (.one .nilf)))]
def f45_1:List AI:=[o 3 (.mkfn 68 [t1]),
 o 2 (.mov t3)]
def f45_2:AC:=.seq (.reg f45_1) .ret
def f45_3:AC:=.seq (.reg f45_0) f45_2
def f45B:AC:=f45_3
def f45:AF:=⟨1,4,[(.t 2)],f45B⟩
def f46_0:List AI:=[o 2 (.mov (.c (.one (.int .i32 0)))),
 o 3 (.mov (z 0))]
def f46_1:List AI:=[o 4 (.mov (z 1))]
def f46_2:List AI:=[o 7 (.mov t4),
 o 8 (.bin .leq t7 (z 4)),
 o 9 (.mov t8),
 ⟨some 10,.mov t4,some (9,true)⟩,
 ⟨some 11,.mov t0,some (9,true)⟩,
 ⟨some 12,.len .str t11,some (9,true)⟩,
 ⟨some 13,.bin .leq t10 t12,some (9,true)⟩,
 o 14 (.pick t9 t13 kF)]
def f46_3:AC:=.cond t14 .skip (.exit 0)
def f46_4:AC:=.seq (.reg f46_2) f46_3
def f46_5:List AI:=[o 17 (.mov t0),
 o 18 (.sidx t17 (z 0)),
 o 19 (.wrapI .i32 t18),
 o 5 (.mov t19)]
def f46_6:List AI:=[o 20 (.mov t4)]
def f46_7:List AI:=[o 22 (.bin .eql t20 (z 2)),
 o 21 (.mov t22)]
def f46_8:List AI:=[o 23 (.mov t5),
 o 24 (.bin .sub t23 (.c (.one (.int .i32 192)))),
 o 5 (.mov t24)]
def f46_9:List AI:=[o 26 (.bin .eql t20 (z 3)),
 o 25 (.mov t26)]
def f46_10:List AI:=[o 27 (.mov t5),
 o 28 (.bin .sub t27 (.c (.one (.int .i32 224)))),
 o 5 (.mov t28)]
def f46_11:List AI:=[o 30 (.bin .eql t20 (z 4)),
 o 29 (.mov t30)]
def f46_12:List AI:=[o 31 (.mov t5),
 o 32 (.bin .sub t31 (.c (.one (.int .i32 240)))),
 o 5 (.mov t32)]
def f46_13:AC:=.cond t29 (.reg f46_12) .skip
def f46_14:AC:=.seq (.reg f46_11) f46_13
def f46_15:AC:=.cond t25 (.reg f46_10) f46_14
def f46_16:AC:=.seq (.reg f46_9) f46_15
def f46_17:AC:=.cond t21 (.reg f46_8) f46_16
def f46_18:AC:=.seq (.reg f46_7) f46_17
def f46_19:AC:=.block 2 f46_18
def f46_20:AC:=.seq (.reg f46_6) f46_19
def f46_21:List AI:=[o 6 (.mov (z 1))]
def f46_22:List AI:=[o 33 (.mov t6),
 o 34 (.mov t4),
 o 35 (.bin .lss t33 t34)]
def f46_23:AC:=.cond t35 .skip (.exit 3)
def f46_24:AC:=.seq (.reg f46_22) f46_23
def f46_25:List AI:=[o 38 (.mov t5),
 o 39 (.bin .mul t38 (.c (.one (.int .i32 64)))),
 o 40 (.mov t0),
 o 41 (.mov t6),
 o 42 (.sidx t40 t41),
 o 43 (.wrapI .i32 t42),
 o 44 (.bin .add t39 t43),
 o 45 (.bin .sub t44 (.c (.one (.int .i32 128)))),
 o 5 (.mov t45)]
def f46_26:AC:=.block 4 (.reg f46_25)
def f46_27:List AI:=[o 36 (.mov t6),
 o 37 (.bin .add t36 (z 1)),
 o 6 (.mov t37)]
def f46_28:AC:=.seq f46_26 (.reg f46_27)
def f46_29:AC:=.seq f46_24 f46_28
def f46_30:AC:=.loop f46_29
def f46_31:AC:=.block 3 f46_30
def f46_32:AC:=.seq (.reg f46_21) f46_31
def f46_33:List AI:=[o 46 (.mov t5),
 o 47 (.call (g 57) [t46]),
 o 48 (.mov t47),
 ⟨some 49,.mov t5,some (48,true)⟩,
 ⟨some 50,.call (g 58) [t49],some (48,true)⟩,
 ⟨some 51,.b2s t50,some (48,true)⟩,
 ⟨some 52,.mov t0,some (48,true)⟩,
 ⟨some 53,.mov t4,some (48,true)⟩,
 ⟨some 54,.slice .str 1 t52 none (some t53) none,some (48,true)⟩,
 ⟨some 55,.bin .eql t51 t54,some (48,true)⟩,
 o 56 (.pick t48 t55 kF)]
def f46_34:List AI:=[o 57 (.mov t5),
 o 58 (.mov t4),
 o 2 (.mov t57),
 o 3 (.mov t58)]
def f46_35:AC:=.seq (.reg f46_34) .ret
def f46_36:AC:=.cond t56 f46_35 .skip
def f46_37:AC:=.seq (.dreg f46_33) f46_36
def f46_38:AC:=.seq f46_32 f46_37
def f46_39:AC:=.seq f46_20 f46_38
def f46_40:AC:=.seq (.reg f46_5) f46_39
def f46_41:AC:=.block 1 f46_40
def f46_42:List AI:=[o 15 (.mov t4),
 o 16 (.bin .add t15 (z 1)),
 o 4 (.mov t16)]
def f46_43:AC:=.seq f46_41 (.reg f46_42)
def f46_44:AC:=.seq f46_4 f46_43
def f46_45:AC:=.loop f46_44
def f46_46:AC:=.block 0 f46_45
def f46_47:AC:=.seq (.reg f46_1) f46_46
def f46_48:List AI:=[o 2 (.mov (.c (.one (.int .i32 0)))),
 o 3 (.mov (z 0))]
def f46_49:AC:=.seq (.reg f46_48) .ret
def f46_50:AC:=.seq f46_47 f46_49
def f46_51:AC:=.seq (.reg f46_0) f46_50
def f46B:AC:=f46_51
def f46:AF:=⟨1,59,[(.t 2),(.t 3)],f46B⟩
def f51_0:List AI:=[o 2 (.mov (.c (.one (.str []))))]
def f51_1:List AI:=[o 6 (.mov t0),
 o 7 (.call (g 34) [t6]),
 o 5 (.mov t7),
 o 8 (.ext t5 0),
 o 9 (.ext t5 1),
 o 3 (.mov t8),
 o 4 (.mov t9)]
def f51_2:List AI:=[o 10 (.mov t3),
 o 2 (.mov t10)]
def f51_3:AC:=.seq (.reg f51_2) .ret
def f51_4:AC:=.seq (.reg f51_1) f51_3
def f51_5:AC:=.seq (.reg f51_0) f51_4
def f51B:AC:=f51_5
def f51:AF:=⟨1,11,[(.t 2)],f51B⟩
def f53_0:List AI:=[o 4 (.mov kF)]
def f53_1:List AI:=[o 5 (.mov t0),
 o 6 (.mov t1),
 o 7 (.call (g 74) [t5,t6]),
 o 8 (.bin .geq t7 (z 0)),
 o 4 (.mov t8)]
def f53_2:AC:=.seq (.reg f53_1) .ret
def f53_3:AC:=.seq (.reg f53_0) f53_2
def f53B:AC:=f53_3
def f53:AF:=⟨2,9,[(.t 4)],f53B⟩
def f54_0:List AI:=[o 2 (.mov kF)]
def f54_1:List AI:=[o 3 (.mov t0),
 o 4 (.call (g 55) [t3]),
 o 5 (.un .not t4),
 o 2 (.mov t5)]
def f54_2:AC:=.seq (.reg f54_1) .ret
def f54_3:AC:=.seq (.reg f54_0) f54_2
def f54B:AC:=f54_3
def f54:AF:=⟨1,6,[(.t 2)],f54B⟩
def f55_0:List AI:=[o 2 (.mov kF)]
def f55_1:List AI:=[o 4 (.mov t0),
 o 5 (.bin .leq (.c (.one (.int .i32 0))) t4),
 o 6 (.mov t5),
 ⟨some 7,.mov t0,some (6,true)⟩,
 ⟨some 8,.bin .lss t7 (.c (.one (.int .i32 55296))),some (6,true)⟩,
 o 9 (.pick t6 t8 kF),
 o 3 (.mov t9)]
def f55_2:List AI:=[o 2 (.mov kT)]
def f55_3:AC:=.seq (.reg f55_2) .ret
def f55_4:List AI:=[o 11 (.mov t0),
 o 12 (.bin .lss (.c (.one (.int .i32 57343))) t11),
 o 13 (.mov t12),
 ⟨some 14,.mov t0,some (13,true)⟩,
 ⟨some 15,.bin .leq t14 (.c (.one (.int .i32 1114111))),some (13,true)⟩,
 o 16 (.pick t13 t15 kF),
 o 10 (.mov t16)]
def f55_5:List AI:=[o 2 (.mov kT)]
def f55_6:AC:=.seq (.reg f55_5) .ret
def f55_7:AC:=.cond t10 f55_6 .skip
def f55_8:AC:=.seq (.reg f55_4) f55_7
def f55_9:AC:=.cond t3 f55_3 f55_8
def f55_10:AC:=.seq (.reg f55_1) f55_9
def f55_11:AC:=.block 0 f55_10
def f55_12:List AI:=[o 2 (.mov kF)]
def f55_13:AC:=.seq (.reg f55_12) .ret
def f55_14:AC:=.seq f55_11 f55_13
def f55_15:AC:=.seq (.reg f55_0) f55_14
def f55B:AC:=f55_15
def f55:AF:=⟨1,17,[(.t 2)],f55B⟩
def f56_0:List AI:=[o 4 (.mov kN)]
def f56_1:List AI:=[o 5 (.mov t1),
 o 6 (.wrapI .u32 t5),
 o 7 (.bin .leq t6 (.c (.one (.int .u32 127))))]
def f56_2:List AI:=[o 8 (.mov t0),
 o 9 (.mov t1),
 o 10 (.wrapI .u8 t9),
 o 11 (.rowLit 1 [(.int .u8 0)] 1 [(0,t10)]),
 o 12 (.app 1 1 t8 t11),
 o 4 (.mov t12)]
def f56_3:AC:=.seq (.reg f56_2) .ret
def f56_4:AC:=.cond t7 f56_3 .skip
def f56_5:AC:=.seq (.reg f56_1) f56_4
def f56_6:List AI:=[o 13 (.mov t0),
 o 14 (.mov t1),
 o 15 (.call (g 75) [t13,t14]),
 o 4 (.mov t15)]
def f56_7:AC:=.seq (.reg f56_6) .ret
def f56_8:AC:=.seq f56_5 f56_7
def f56_9:AC:=.seq (.reg f56_0) f56_8
def f56B:AC:=f56_9
def f56:AF:=⟨2,16,[(.t 4)],f56B⟩
def f57_0:List AI:=[o 2 (.mov kF)]
def f57_1:List AI:=[o 3 (.mov t0),
 o 4 (.bin .geq t3 (.c (.one (.int .i32 0)))),
 o 5 (.mov t4),
 ⟨some 6,.mov t0,some (5,true)⟩,
 ⟨some 7,.bin .leq t6 (.c (.one (.int .i32 1114111))),some (5,true)⟩,
 o 8 (.pick t5 t7 kF),
 o 9 (.mov t8),
 ⟨some 10,.mov t0,some (9,true)⟩,
 ⟨some 11,.bin .geq t10 (.c (.one (.int .i32 55296))),some (9,true)⟩,
 ⟨some 12,.mov t11,some (9,true)⟩,
 ⟨some 13,.mov t0,some (12,true)⟩,
 ⟨some 14,.bin .leq t13 (.c (.one (.int .i32 57343))),some (12,true)⟩,
 ⟨some 15,.pick t12 t14 kF,some (9,true)⟩,
 ⟨some 16,.un .not t15,some (9,true)⟩,
 o 17 (.pick t9 t16 kF),
 o 2 (.mov t17)]
def f57_2:AC:=.seq (.reg f57_1) .ret
def f57_3:AC:=.seq (.reg f57_0) f57_2
def f57B:AC:=f57_3
def f57:AF:=⟨1,18,[(.t 2)],f57B⟩
def f58_0:List AI:=[o 2 (.mov kN)]
def f58_1:List AI:=[o 4 (.mov t0),
 o 5 (.bin .lss t4 (.c (.one (.int .i32 128)))),
 o 3 (.mov t5)]
def f58_2:List AI:=[o 6 (.mov t0),
 o 7 (.wrapI .u8 t6),
 o 8 (.rowLit 1 [(.int .u8 0)] 1 [(0,t7)]),
 o 2 (.mov t8)]
def f58_3:AC:=.seq (.reg f58_2) .ret
def f58_4:List AI:=[o 10 (.mov t0),
 o 11 (.bin .lss t10 (.c (.one (.int .i32 2048)))),
 o 9 (.mov t11)]
def f58_5:List AI:=[o 12 (.mov t0),
 o 13 (.bin .quo t12 (.c (.one (.int .i32 64)))),
 o 14 (.bin .add (.c (.one (.int .i32 192))) t13),
 o 15 (.wrapI .u8 t14),
 o 16 (.mov t0),
 o 17 (.bin .rem t16 (.c (.one (.int .i32 64)))),
 o 18 (.bin .add (.c (.one (.int .i32 128))) t17),
 o 19 (.wrapI .u8 t18),
 o 20 (.rowLit 1 [(.int .u8 0)] 2 [(0,t15),(1,t19)]),
 o 2 (.mov t20)]
def f58_6:AC:=.seq (.reg f58_5) .ret
def f58_7:List AI:=[o 22 (.mov t0),
 o 23 (.bin .lss t22 (.c (.one (.int .i32 65536)))),
 o 21 (.mov t23)]
def f58_8:List AI:=[o 24 (.mov t0),
 o 25 (.bin .quo t24 (.c (.one (.int .i32 4096)))),
 o 26 (.bin .add (.c (.one (.int .i32 224))) t25),
 o 27 (.wrapI .u8 t26),
 o 28 (.mov t0),
 o 29 (.bin .quo t28 (.c (.one (.int .i32 64)))),
 o 30 (.bin .rem t29 (.c (.one (.int .i32 64)))),
 o 31 (.bin .add (.c (.one (.int .i32 128))) t30),
 o 32 (.wrapI .u8 t31),
 o 33 (.mov t0),
 o 34 (.bin .rem t33 (.c (.one (.int .i32 64)))),
 o 35 (.bin .add (.c (.one (.int .i32 128))) t34),
 o 36 (.wrapI .u8 t35),
 o 37 (.rowLit 1 [(.int .u8 0)] 3 [(0,t27),(1,t32),(2,t36)]),
 o 2 (.mov t37)]
def f58_9:AC:=.seq (.reg f58_8) .ret
def f58_10:AC:=.cond t21 f58_9 .skip
def f58_11:AC:=.seq (.reg f58_7) f58_10
def f58_12:AC:=.cond t9 f58_6 f58_11
def f58_13:AC:=.seq (.reg f58_4) f58_12
def f58_14:AC:=.cond t3 f58_3 f58_13
def f58_15:AC:=.seq (.reg f58_1) f58_14
def f58_16:AC:=.block 0 f58_15
def f58_17:List AI:=[o 38 (.mov t0),
 o 39 (.bin .quo t38 (.c (.one (.int .i32 262144)))),
 o 40 (.bin .add (.c (.one (.int .i32 240))) t39),
 o 41 (.wrapI .u8 t40),
 o 42 (.mov t0),
 o 43 (.bin .quo t42 (.c (.one (.int .i32 4096)))),
 o 44 (.bin .rem t43 (.c (.one (.int .i32 64)))),
 o 45 (.bin .add (.c (.one (.int .i32 128))) t44),
 o 46 (.wrapI .u8 t45),
 o 47 (.mov t0),
 o 48 (.bin .quo t47 (.c (.one (.int .i32 64)))),
 o 49 (.bin .rem t48 (.c (.one (.int .i32 64)))),
 o 50 (.bin .add (.c (.one (.int .i32 128))) t49),
 o 51 (.wrapI .u8 t50),
 o 52 (.mov t0),
 o 53 (.bin .rem t52 (.c (.one (.int .i32 64)))),
 o 54 (.bin .add (.c (.one (.int .i32 128))) t53),
 o 55 (.wrapI .u8 t54),
 o 56 (.rowLit 1 [(.int .u8 0)] 4 [(0,t41),(1,t46),(2,t51),(3,t55)]),
 o 2 (.mov t56)]
def f58_18:AC:=.seq (.reg f58_17) .ret
def f58_19:AC:=.seq f58_16 f58_18
def f58_20:AC:=.seq (.reg f58_0) f58_19
def f58B:AC:=f58_20
def f58:AF:=⟨1,57,[(.t 2)],f58B⟩
def f68_0:List AI:=[o 5 (.load false 1 t1),
 o 6 (.len .str t5),
 o 7 (.bin .gtr t6 (z 0))]
def f68_1:AC:=.cond t7 .skip (.exit 0)
def f68_2:AC:=.seq (.reg f68_0) f68_1
def f68_3:List AI:=[o 9 (.load false 1 t1),
 o 10 (.call (g 69) [t9]),
 o 8 (.mov t10),
 o 11 (.ext t8 0),
 o 12 (.ext t8 1),
 o 3 (.mov t11),
 o 4 (.mov t12)]
def f68_4:List AI:=[o 13 (.mov t0),
 o 14 (.mov t3),
 o 15 (.mov t3),
 o 16 (.bin .neq t15 (.c (.one (.int .i32 65533)))),
 o 17 (.mov t16),
 ⟨some 18,.mov t4,some (17,false)⟩,
 ⟨some 19,.bin .gtr t18 (z 1),some (17,false)⟩,
 o 20 (.pick t17 kT t19),
 o 21 (.call t13 [t14,t20]),
 o 22 (.un .not t21)]
def f68_5:AC:=.cond t22 .ret .skip
def f68_6:AC:=.seq (.reg f68_4) f68_5
def f68_7:List AI:=[o 23 (.load false 1 t1),
 o 24 (.mov t4),
 o 25 (.slice .str 1 t23 (some t24) none none),
 v (.store 1 t1 t25)]
def f68_8:AC:=.seq f68_6 (.reg f68_7)
def f68_9:AC:=.seq (.reg f68_3) f68_8
def f68_10:AC:=.block 1 f68_9
def f68_11:AC:=.seq f68_2 f68_10
def f68_12:AC:=.loop f68_11
def f68_13:AC:=.block 0 f68_12
def f68B:AC:=f68_13
def f68:AF:=⟨2,26,[],f68B⟩
def f74_0:List AI:=[o 4 (.mov (z 0))]
def f74_1:List AI:=[o 6 (.mov t0),
 o 7 (.len .slc t6),
 o 8 (.mov (z 0))]
def f74_2:List AI:=[o 9 (.bin .lss t8 t7)]
def f74_3:AC:=.cond t9 .skip (.exit 0)
def f74_4:List AI:=[o 10 (.mov t8),
 o 5 (.mov t10)]
def f74_5:List AI:=[o 11 (.mov t1),
 o 12 (.mov t0),
 o 13 (.mov t5),
 o 14 (.iaddr 1 t12 t13),
 o 15 (.load false 1 t14),
 o 16 (.call t11 [t15])]
def f74_6:List AI:=[o 17 (.mov t5),
 o 4 (.mov t17)]
def f74_7:AC:=.seq (.reg f74_6) .ret
def f74_8:AC:=.cond t16 f74_7 .skip
def f74_9:AC:=.seq (.reg f74_5) f74_8
def f74_10:AC:=.seq (.reg f74_4) f74_9
def f74_11:AC:=.block 1 f74_10
def f74_12:List AI:=[o 18 (.bin .add t8 (z 1)),
 o 8 (.mov t18)]
def f74_13:AC:=.seq f74_11 (.reg f74_12)
def f74_14:AC:=.seq f74_3 f74_13
def f74_15:AC:=.seq (.reg f74_2) f74_14
def f74_16:AC:=.loop f74_15
def f74_17:AC:=.block 0 f74_16
def f74_18:AC:=.seq (.reg f74_1) f74_17
def f74_19:List AI:=[(o 4 (.mov (.c (.one (.int .i64 (-1))))))]
def f74_20:AC:=.seq (.reg f74_19) .ret
def f74_21:AC:=.seq f74_18 f74_20
def f74_22:AC:=.seq (.reg f74_0) f74_21
def f74B:AC:=f74_22
def f74:AF:=⟨2,19,[(.t 4)],f74B⟩
def f75_0:List AI:=[o 4 (.mov kN)]
def f75_1:List AI:=[o 6 (.mov t1),
 o 7 (.wrapI .u32 t6),
 o 5 (.mov t7)]
def f75_2:List AI:=[o 12 (.mov t5),
 o 13 (.bin .leq t12 (.c (.one (.int .u32 2047)))),
 o 11 (.mov t13)]
def f75_3:List AI:=[o 14 (.mov t0),
 o 15 (.mov t1),
 o 16 (.bin .shr t15 (.c (.one (.int .u64 6)))),
 o 17 (.wrapI .u8 t16),
 o 18 (.bin .or (.c (.one (.int .u8 192))) t17),
 o 19 (.mov t1),
 o 20 (.wrapI .u8 t19),
 o 21 (.bin .and t20 (.c (.one (.int .u8 63)))),
 o 22 (.bin .or (.c (.one (.int .u8 128))) t21),
 o 23 (.rowLit 1 [(.int .u8 0)] 2 [(0,t18),(1,t22)]),
 o 24 (.app 1 1 t14 t23),
 o 4 (.mov t24)]
def f75_4:AC:=.seq (.reg f75_3) .ret
def f75_5:List AI:=[o 26 (.mov t5),
 o 27 (.bin .lss t26 (.c (.one (.int .u32 55296)))),
 o 25 (.mov t27)]
def f75_6:List AI:=[o 28 (.mov t5),
 o 29 (.bin .lss (.c (.one (.int .u32 57343))) t28),
 o 30 (.mov t29),
 ⟨some 31,.mov t5,some (30,true)⟩,
 ⟨some 32,.bin .leq t31 (.c (.one (.int .u32 65535))),some (30,true)⟩,
 o 33 (.pick t30 t32 kF),
 o 25 (.mov t33)]
def f75_7:AC:=.cond t25 .skip (.reg f75_6)
def f75_8:AC:=.seq (.reg f75_5) f75_7
def f75_9:List AI:=[o 34 (.mov t0),
 o 35 (.mov t1),
 o 36 (.bin .shr t35 (.c (.one (.int .u64 12)))),
 o 37 (.wrapI .u8 t36),
 o 38 (.bin .or (.c (.one (.int .u8 224))) t37),
 o 39 (.mov t1),
 o 40 (.bin .shr t39 (.c (.one (.int .u64 6)))),
 o 41 (.wrapI .u8 t40),
 o 42 (.bin .and t41 (.c (.one (.int .u8 63)))),
 o 43 (.bin .or (.c (.one (.int .u8 128))) t42),
 o 44 (.mov t1),
 o 45 (.wrapI .u8 t44),
 o 46 (.bin .and t45 (.c (.one (.int .u8 63)))),
 o 47 (.bin .or (.c (.one (.int .u8 128))) t46),
 o 48 (.rowLit 1 [(.int .u8 0)] 3 [(0,t38),(1,t43),(2,t47)]),
 o 49 (.app 1 1 t34 t48),
 o 4 (.mov t49)]
def f75_10:AC:=.seq (.reg f75_9) .ret
def f75_11:List AI:=[o 51 (.mov t5),
 o 52 (.bin .gtr t51 (.c (.one (.int .u32 65535)))),
 o 53 (.mov t52),
 ⟨some 54,.mov t5,some (53,true)⟩,
 ⟨some 55,.bin .leq t54 (.c (.one (.int .u32 1114111))),some (53,true)⟩,
 o 56 (.pick t53 t55 kF),
 o 50 (.mov t56)]
def f75_12:List AI:=[o 57 (.mov t0),
 o 58 (.mov t1),
 o 59 (.bin .shr t58 (.c (.one (.int .u64 18)))),
 o 60 (.wrapI .u8 t59),
 o 61 (.bin .or (.c (.one (.int .u8 240))) t60),
 o 62 (.mov t1),
 o 63 (.bin .shr t62 (.c (.one (.int .u64 12)))),
 o 64 (.wrapI .u8 t63),
 o 65 (.bin .and t64 (.c (.one (.int .u8 63)))),
 o 66 (.bin .or (.c (.one (.int .u8 128))) t65),
 o 67 (.mov t1),
 o 68 (.bin .shr t67 (.c (.one (.int .u64 6)))),
 o 69 (.wrapI .u8 t68),
 o 70 (.bin .and t69 (.c (.one (.int .u8 63)))),
 o 71 (.bin .or (.c (.one (.int .u8 128))) t70),
 o 72 (.mov t1),
 o 73 (.wrapI .u8 t72),
 o 74 (.bin .and t73 (.c (.one (.int .u8 63)))),
 o 75 (.bin .or (.c (.one (.int .u8 128))) t74),
 o 76 (.rowLit 1 [(.int .u8 0)] 4 [(0,t61),(1,t66),(2,t71),(3,t75)]),
 o 77 (.app 1 1 t57 t76),
 o 4 (.mov t77)]
def f75_13:AC:=.seq (.reg f75_12) .ret
def f75_14:List AI:=[o 8 (.mov t0),
 (o 9 (.rowLit 1 [(.int .u8 0)] 3 [(0,(.c (.one (.int .u8 239)))),(1,(.c (.one (.int .u8 191)))),(2,(.c (.one (.int .u8 189))))])),
 o 10 (.app 1 1 t8 t9),
 o 4 (.mov t10)]
def f75_15:AC:=.seq (.reg f75_14) .ret
def f75_16:AC:=.cond t50 f75_13 f75_15
def f75_17:AC:=.seq (.reg f75_11) f75_16
def f75_18:AC:=.cond t25 f75_10 f75_17
def f75_19:AC:=.seq f75_8 f75_18
def f75_20:AC:=.cond t11 f75_4 f75_19
def f75_21:AC:=.seq (.reg f75_2) f75_20
def f75_22:AC:=.block 0 f75_21
def f75_23:AC:=.seq (.reg f75_1) f75_22
def f75_24:AC:=.seq (.reg f75_0) f75_23
def f75B:AC:=f75_24
def f75:AF:=⟨2,78,[(.t 4)],f75B⟩
def f65_0:List AI:=[o 4 (.mov kF)]
def f65_1:List AI:=[o 5 (.mov t0),
 o 6 (.mov t1),
 o 7 (.call (g 79) [t5,t6]),
 o 4 (.mov t7)]
def f65_2:AC:=.seq (.reg f65_1) .ret
def f65_3:AC:=.seq (.reg f65_0) f65_2
def f65B:AC:=f65_3
def f65:AF:=⟨2,8,[(.t 4)],f65B⟩
def f79_0:List AI:=[o 4 (.mov kF)]
def f79_1:List AI:=[o 5 (.mov t0),
 o 6 (.len .str t5),
 o 7 (.mov t1),
 o 8 (.len .str t7),
 o 9 (.bin .geq t6 t8),
 o 10 (.mov t9),
 ⟨some 11,.mov t0,some (10,true)⟩,
 ⟨some 12,.mov t1,some (10,true)⟩,
 ⟨some 13,.len .str t12,some (10,true)⟩,
 ⟨some 14,.slice .str 1 t11 none (some t13) none,some (10,true)⟩,
 ⟨some 15,.mov t1,some (10,true)⟩,
 ⟨some 16,.bin .eql t14 t15,some (10,true)⟩,
 o 17 (.pick t10 t16 kF),
 o 4 (.mov t17)]
def f79_2:AC:=.seq (.reg f79_1) .ret
def f79_3:AC:=.seq (.reg f79_0) f79_2
def f79B:AC:=f79_3
def f79:AF:=⟨2,18,[(.t 4)],f79B⟩
end Go.EA.F
