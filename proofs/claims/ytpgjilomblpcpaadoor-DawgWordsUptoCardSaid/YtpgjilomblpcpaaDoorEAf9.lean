/- Functions of the program, as abstract code (printed by a program). Conditions: none (definitions). -/
import Derived.Test.YtpgjilomblpcpaaDoorEK1
namespace Go.EA.F
namespace AF475
def o (d:Nat) (x:AOp):AI:=⟨some d,x,none⟩
def v (x:AOp):AI:=⟨none,x,none⟩
def kF:Opd:=.c (.one (.bool false))
def kT:Opd:=.c (.one (.bool true))
def kN:Opd:=.c (.one .nils)
def kP:Opd:=.c (.one .nilp)
def z (n:Int):Opd:=.c (.one (.int .i64 n))
def g (n:Nat):Opd:=.c (.one (.fn n []))
def t0:Opd:=.t 0
def t1:Opd:=.t 1
def t2:Opd:=.t 2
def t3:Opd:=.t 3
def t4:Opd:=.t 4
def t5:Opd:=.t 5
def t6:Opd:=.t 6
def t7:Opd:=.t 7
def t8:Opd:=.t 8
def t9:Opd:=.t 9
def t10:Opd:=.t 10
def t11:Opd:=.t 11
def t12:Opd:=.t 12
def t13:Opd:=.t 13
def t14:Opd:=.t 14
def t15:Opd:=.t 15
def t16:Opd:=.t 16
def t17:Opd:=.t 17
def t18:Opd:=.t 18
def t19:Opd:=.t 19
def t20:Opd:=.t 20
def t21:Opd:=.t 21
def t22:Opd:=.t 22
def t23:Opd:=.t 23
def t24:Opd:=.t 24
def t25:Opd:=.t 25
def t26:Opd:=.t 26
def t27:Opd:=.t 27
def t28:Opd:=.t 28
def t29:Opd:=.t 29
def t30:Opd:=.t 30
def t31:Opd:=.t 31
def t32:Opd:=.t 32
def t33:Opd:=.t 33
def t34:Opd:=.t 34
def t35:Opd:=.t 35
def t36:Opd:=.t 36
def t37:Opd:=.t 37
def t38:Opd:=.t 38
def t39:Opd:=.t 39
def t40:Opd:=.t 40
def t41:Opd:=.t 41
def t42:Opd:=.t 42
def t43:Opd:=.t 43
def t44:Opd:=.t 44
def t45:Opd:=.t 45
def t46:Opd:=.t 46
def t47:Opd:=.t 47
def t48:Opd:=.t 48
def t49:Opd:=.t 49
def t50:Opd:=.t 50
def t51:Opd:=.t 51
def t52:Opd:=.t 52
def t53:Opd:=.t 53
def t54:Opd:=.t 54
def t55:Opd:=.t 55
def t56:Opd:=.t 56
def t57:Opd:=.t 57
def t58:Opd:=.t 58
def t59:Opd:=.t 59
def t60:Opd:=.t 60
def t61:Opd:=.t 61
def t62:Opd:=.t 62
def t63:Opd:=.t 63
def t64:Opd:=.t 64
def t65:Opd:=.t 65
def t66:Opd:=.t 66
def t67:Opd:=.t 67
def t68:Opd:=.t 68
def t69:Opd:=.t 69
def t70:Opd:=.t 70
def t71:Opd:=.t 71
def t72:Opd:=.t 72
def t73:Opd:=.t 73
def t74:Opd:=.t 74
def t75:Opd:=.t 75
def t76:Opd:=.t 76
def t77:Opd:=.t 77
def t78:Opd:=.t 78
def t79:Opd:=.t 79
def t80:Opd:=.t 80
def t81:Opd:=.t 81
def t82:Opd:=.t 82
def t83:Opd:=.t 83
def t84:Opd:=.t 84
def t85:Opd:=.t 85
def t86:Opd:=.t 86
def t87:Opd:=.t 87
def t88:Opd:=.t 88
def t89:Opd:=.t 89
def t90:Opd:=.t 90
def t91:Opd:=.t 91
def t92:Opd:=.t 92
def t93:Opd:=.t 93
def t94:Opd:=.t 94
def t95:Opd:=.t 95
def t96:Opd:=.t 96
def t97:Opd:=.t 97
def t98:Opd:=.t 98
def t99:Opd:=.t 99
def t100:Opd:=.t 100
def t101:Opd:=.t 101
def t102:Opd:=.t 102
def t103:Opd:=.t 103
def t104:Opd:=.t 104
def t105:Opd:=.t 105
def t106:Opd:=.t 106
def t107:Opd:=.t 107
def t108:Opd:=.t 108
def t109:Opd:=.t 109
def t110:Opd:=.t 110
def t111:Opd:=.t 111
def t112:Opd:=.t 112
def t113:Opd:=.t 113
def t114:Opd:=.t 114
def t115:Opd:=.t 115
def t116:Opd:=.t 116
def t117:Opd:=.t 117
def t118:Opd:=.t 118
def t119:Opd:=.t 119
def t120:Opd:=.t 120
def t121:Opd:=.t 121
def t122:Opd:=.t 122
def t123:Opd:=.t 123
def t124:Opd:=.t 124
def t125:Opd:=.t 125
def t126:Opd:=.t 126
def t127:Opd:=.t 127
def t128:Opd:=.t 128
def t129:Opd:=.t 129
def t130:Opd:=.t 130
def t131:Opd:=.t 131
def t132:Opd:=.t 132
def t133:Opd:=.t 133
def t134:Opd:=.t 134
def t135:Opd:=.t 135
def t136:Opd:=.t 136
def t137:Opd:=.t 137
def t138:Opd:=.t 138
def t139:Opd:=.t 139
def t140:Opd:=.t 140
def t141:Opd:=.t 141
def t142:Opd:=.t 142
def t143:Opd:=.t 143
def t144:Opd:=.t 144
def t145:Opd:=.t 145
def t146:Opd:=.t 146
def t147:Opd:=.t 147
def t148:Opd:=.t 148
def t149:Opd:=.t 149
def t150:Opd:=.t 150
def t151:Opd:=.t 151
def t152:Opd:=.t 152
def t153:Opd:=.t 153
def t154:Opd:=.t 154
def t155:Opd:=.t 155
def t156:Opd:=.t 156
def t157:Opd:=.t 157
def t158:Opd:=.t 158
def t159:Opd:=.t 159
def t160:Opd:=.t 160
def t161:Opd:=.t 161
def t162:Opd:=.t 162
def t163:Opd:=.t 163
def t164:Opd:=.t 164
def t165:Opd:=.t 165
def t166:Opd:=.t 166
def t167:Opd:=.t 167
def t168:Opd:=.t 168
def t169:Opd:=.t 169
def t170:Opd:=.t 170
def t171:Opd:=.t 171
def t172:Opd:=.t 172
def t173:Opd:=.t 173
def t174:Opd:=.t 174
def t175:Opd:=.t 175
def t176:Opd:=.t 176
def t177:Opd:=.t 177
def t178:Opd:=.t 178
def t179:Opd:=.t 179
def t180:Opd:=.t 180
def t181:Opd:=.t 181
def t182:Opd:=.t 182
def t183:Opd:=.t 183
def t184:Opd:=.t 184
def t185:Opd:=.t 185
def t186:Opd:=.t 186
def t187:Opd:=.t 187
def t188:Opd:=.t 188
def t189:Opd:=.t 189
def t190:Opd:=.t 190
def t192:Opd:=.t 192
def t193:Opd:=.t 193
def t194:Opd:=.t 194
def t195:Opd:=.t 195
def t196:Opd:=.t 196
def t197:Opd:=.t 197
def t198:Opd:=.t 198
def t199:Opd:=.t 199
def t200:Opd:=.t 200
def t201:Opd:=.t 201
def t202:Opd:=.t 202
def t203:Opd:=.t 203
def t204:Opd:=.t 204
def t206:Opd:=.t 206
def t207:Opd:=.t 207
def t208:Opd:=.t 208
def t209:Opd:=.t 209
def t210:Opd:=.t 210
def t211:Opd:=.t 211
def t212:Opd:=.t 212
def t213:Opd:=.t 213
def t214:Opd:=.t 214
def t215:Opd:=.t 215
def t216:Opd:=.t 216
def t217:Opd:=.t 217
def t218:Opd:=.t 218
end AF475
open AF475
def f273_0:List AI:=[o 6 (.mov kF)]
def f273_1:List AI:=[o 16 (.call (g 276) []),
 o 17 (.un .not t16)]
def f273_2:List AI:=[o 6 (.mov kF)]
def f273_3:AC:=.seq (.reg f273_2) .ret
def f273_4:AC:=.cond t17 f273_3 .skip
def f273_5:AC:=.seq (.reg f273_1) f273_4
def f273_6:List AI:=[o 19 (.mov t0),
 o 20 (.call (g 295) [t19]),
 o 18 (.mov t20),
 o 21 (.ext t18 0),
 o 22 (.ext t18 1),
 o 0 (.mov t21),
 o 7 (.mov t22)]
def f273_7:List AI:=[o 23 (.mov t0),
 o 24 (.call (g 277) [t23]),
 o 25 (.mov t24),
 ⟨some 26,.mov t1,some (25,false)⟩,
 ⟨some 27,.len .str t26,some (25,false)⟩,
 ⟨some 28,.bin .gtr t27 (z 1000),some (25,false)⟩,
 o 29 (.pick t25 kT t28),
 o 30 (.mov t29),
 ⟨some 31,.mov t7,some (30,false)⟩,
 ⟨some 32,.bin .neq t31 (z 0),some (30,false)⟩,
 o 33 (.pick t30 kT t32)]
def f273_8:List AI:=[o 6 (.mov kT)]
def f273_9:AC:=.seq (.reg f273_8) .ret
def f273_10:AC:=.cond t33 f273_9 .skip
def f273_11:AC:=.seq (.reg f273_7) f273_10
def f273_12:List AI:=[o 35 (.mov t0),
 o 36 (.call (g 278) [t35]),
 o 34 (.mov t36),
 o 37 (.ext t34 0),
 o 38 (.ext t34 1),
 o 8 (.mov t37),
 o 9 (.mov t38)]
def f273_13:List AI:=[o 39 (.mov t9),
 o 40 (.bin .neq t39 (z 0))]
def f273_14:List AI:=[o 6 (.mov kF)]
def f273_15:AC:=.seq (.reg f273_14) .ret
def f273_16:AC:=.cond t40 f273_15 .skip
def f273_17:AC:=.seq (.reg f273_13) f273_16
def f273_18:List AI:=[o 42 (.mov t8),
 o 43 (.mov t1),
 o 44 (.call (g 292) [t42,t43]),
 o 41 (.mov t44),
 o 45 (.ext t41 0),
 o 46 (.ext t41 1),
 o 10 (.mov t45),
 o 11 (.mov t46)]
def f273_19:List AI:=[o 48 (.mov t0),
 o 49 (.mov t1),
 o 50 (.call (g 306) [t48,t49]),
 o 47 (.mov t50),
 o 51 (.ext t47 0),
 o 52 (.ext t47 1),
 o 12 (.mov t51),
 o 13 (.mov t52)]
def f273_20:List AI:=[o 54 (.mov t8),
 o 55 (.mov t2),
 o 56 (.call (g 302) [t54,t55]),
 o 53 (.mov t56),
 o 57 (.ext t53 0),
 o 58 (.ext t53 1),
 o 14 (.new [(.str []),(.int .i64 0)]),
 v (.store 2 t14 t57),
 o 15 (.mov t58)]
def f273_21:List AI:=[o 59 (.mov t10),
 o 60 (.mov t12),
 o 61 (.bin .neq t59 t60),
 o 62 (.mov t61),
 ⟨some 63,.mov t13,some (62,false)⟩,
 ⟨some 64,.mov t11,some (62,false)⟩,
 ⟨some 65,.bin .eql t64 (z 0),some (62,false)⟩,
 ⟨some 66,.eqv .bool true t63 t65,some (62,false)⟩,
 o 67 (.pick t62 kT t66),
 o 68 (.mov t67),
 ⟨some 69,.mov t13,some (68,false)⟩,
 ⟨some 70,.un .not t69,some (68,false)⟩,
 ⟨some 71,.mov t70,some (68,false)⟩,
 ⟨some 72,.mov t11,some (71,true)⟩,
 ⟨some 73,.bin .neq t72 (z 10),some (71,true)⟩,
 ⟨some 74,.pick t71 t73 kF,some (68,false)⟩,
 o 75 (.pick t68 kT t74)]
def f273_22:List AI:=[o 6 (.mov kF)]
def f273_23:AC:=.seq (.reg f273_22) .ret
def f273_24:AC:=.cond t75 f273_23 .skip
def f273_25:AC:=.seq (.reg f273_21) f273_24
def f273_26:List AI:=[o 76 (.mov t2),
 o 77 (.bin .lss t76 (z 0)),
 o 78 (.mov t77),
 ⟨some 79,.mov t2,some (78,false)⟩,
 ⟨some 80,.mov t0,some (78,false)⟩,
 ⟨some 81,.len .slc t80,some (78,false)⟩,
 ⟨some 82,.bin .geq t79 t81,some (78,false)⟩,
 o 83 (.pick t78 kT t82)]
def f273_27:List AI:=[o 84 (.mov t15),
 o 85 (.bin .eql t84 (z 2)),
 o 86 (.mov t85),
 ⟨some 87,.load true 2 t14,some (86,true)⟩,
 ⟨some 88,.build [(.str []),(.int .i64 0)] [],some (86,true)⟩,
 ⟨some 89,.eqv (.cells [.str,(.int .i64)]) false t87 t88,some (86,true)⟩,
 o 90 (.pick t86 t89 kF),
 o 6 (.mov t90)]
def f273_28:AC:=.seq (.reg f273_27) .ret
def f273_29:AC:=.cond t83 f273_28 .skip
def f273_30:AC:=.seq (.reg f273_26) f273_29
def f273_31:List AI:=[o 91 (.mov t15),
 o 92 (.bin .eql t91 (z 0)),
 o 93 (.mov t92),
 ⟨some 94,.load true 2 t14,some (93,true)⟩,
 ⟨some 95,.mov t0,some (93,true)⟩,
 ⟨some 96,.mov t2,some (93,true)⟩,
 ⟨some 97,.iaddr 2 t95 t96,some (93,true)⟩,
 ⟨some 98,.load true 2 t97,some (93,true)⟩,
 ⟨some 99,.eqv (.cells [.str,(.int .i64)]) false t94 t98,some (93,true)⟩,
 o 100 (.pick t93 t99 kF),
 o 6 (.mov t100)]
def f273_32:AC:=.seq (.dreg f273_31) .ret
def f273_33:AC:=.seq f273_30 f273_32
def f273_34:AC:=.seq f273_25 f273_33
def f273_35:AC:=.seq (.reg f273_20) f273_34
def f273_36:AC:=.seq (.reg f273_19) f273_35
def f273_37:AC:=.seq (.reg f273_18) f273_36
def f273_38:AC:=.seq f273_17 f273_37
def f273_39:AC:=.seq (.reg f273_12) f273_38
def f273_40:AC:=.seq f273_11 f273_39
def f273_41:AC:=.seq (.reg f273_6) f273_40
def f273_42:AC:=.seq f273_5 f273_41
def f273_43:AC:=.seq (.reg f273_0) f273_42
def f273B:AC:=f273_43
def f273:AF:=⟨3,101,[(.t 6)],f273B⟩
def f276_0:List AI:=[o 0 (.mov kF)]
def f276_1:List AI:=[(o 7 (.build [(.str []),(.int .i64 0)] [(0,(1,(.c (.one (.str [97,109]))))),(1,(1,(z 1)))])),
 (o 8 (.build [(.str []),(.int .i64 0)] [(0,(1,(.c (.one (.str [97,110]))))),(1,(1,(z 1)))])),
 (o 9 (.build [(.str []),(.int .i64 0)] [(0,(1,(.c (.one (.str [105,109]))))),(1,(1,(z 1)))])),
 (o 10 (.build [(.str []),(.int .i64 0)] [(0,(1,(.c (.one (.str [105,110]))))),(1,(1,(z 1)))])),
 o 11 (.rowLit 2 [(.str []),(.int .i64 0)] 4 [(0,t7),(1,t8),(2,t9),(3,t10)]),
 o 12 (.call (g 278) [t11]),
 o 6 (.mov t12),
 o 13 (.ext t6 0),
 o 14 (.ext t6 1),
 o 1 (.mov t13),
 o 2 (.mov t14)]
def f276_2:List AI:=[o 15 (.mov t1),
 o 16 (.eqv .ptr false t15 kP),
 o 17 (.mov t16),
 ⟨some 18,.mov t2,some (17,false)⟩,
 ⟨some 19,.bin .neq t18 (z 0),some (17,false)⟩,
 o 20 (.pick t17 kT t19)]
def f276_3:List AI:=[o 0 (.mov kF)]
def f276_4:AC:=.seq (.reg f276_3) .ret
def f276_5:AC:=.cond t20 f276_4 .skip
def f276_6:AC:=.seq (.reg f276_2) f276_5
def f276_7:List AI:=[o 3 (.mov kP)]
def f276_8:List AI:=[o 22 (.mov t3),
 o 23 (.call (g 289) [t22,(z 0),(.c (.one (.int .i32 97)))]),
 o 21 (.mov t23),
 o 24 (.ext t21 0),
 o 25 (.ext t21 1),
 o 4 (.mov t24),
 o 5 (.mov t25)]
def f276_9:List AI:=[o 26 (.mov t1),
 o 27 (.call (g 281) [t26]),
 o 28 (.bin .eql t27 (z 3)),
 o 29 (.mov t28),
 ⟨some 30,.mov t1,some (29,true)⟩,
 ⟨some 31,.call (g 282) [t30],some (29,true)⟩,
 ⟨some 32,.bin .eql t31 (z 4),some (29,true)⟩,
 o 33 (.pick t29 t32 kF),
 o 34 (.mov t33),
 ⟨some 35,.mov t1,some (34,true)⟩,
 ⟨some 36,.call (g 284) [t35],some (34,true)⟩,
 ⟨some 37,.bin .eql t36 (z 4),some (34,true)⟩,
 o 38 (.pick t34 t37 kF),
 o 39 (.mov t38),
 ⟨some 40,.mov t5,some (39,true)⟩,
 ⟨some 41,.bin .eql t40 (z 1),some (39,true)⟩,
 o 42 (.pick t39 t41 kF),
 o 0 (.mov t42)]
def f276_10:AC:=.seq (.reg f276_9) .ret
def f276_11:AC:=.seq (.reg f276_8) f276_10
def f276_12:AC:=.seq (.reg f276_7) f276_11
def f276_13:AC:=.seq f276_6 f276_12
def f276_14:AC:=.seq (.reg f276_1) f276_13
def f276_15:AC:=.seq (.reg f276_0) f276_14
def f276B:AC:=f276_15
def f276:AF:=⟨0,43,[(.t 0)],f276B⟩
def f277_0:List AI:=[o 2 (.mov kF)]
def f277_1:List AI:=[o 3 (.mov (z 0))]
def f277_2:List AI:=[o 6 (.mov t0),
 o 7 (.len .slc t6),
 o 8 (.mov (z 0))]
def f277_3:List AI:=[o 9 (.bin .lss t8 t7)]
def f277_4:AC:=.cond t9 .skip (.exit 0)
def f277_5:List AI:=[o 10 (.iaddr 2 t6 t8),
 o 11 (.load true 2 t10),
 o 5 (.new [(.str []),(.int .i64 0)]),
 v (.store 2 t5 t11)]
def f277_6:List AI:=[o 12 (.mov t3),
 o 13 (.faddr 0 t5),
 o 14 (.load false 1 t13),
 o 15 (.len .str t14),
 o 16 (.bin .add t12 t15),
 o 3 (.mov t16)]
def f277_7:AC:=.seq (.reg f277_5) (.reg f277_6)
def f277_8:AC:=.block 1 f277_7
def f277_9:List AI:=[o 17 (.bin .add t8 (z 1)),
 o 8 (.mov t17)]
def f277_10:AC:=.seq f277_8 (.reg f277_9)
def f277_11:AC:=.seq f277_4 f277_10
def f277_12:AC:=.seq (.reg f277_3) f277_11
def f277_13:AC:=.loop f277_12
def f277_14:AC:=.block 0 f277_13
def f277_15:AC:=.seq (.reg f277_2) f277_14
def f277_16:List AI:=[o 18 (.mov t0),
 o 19 (.len .slc t18),
 o 20 (.bin .gtr t19 (z 60)),
 o 21 (.mov t20),
 ⟨some 22,.mov t3,some (21,false)⟩,
 ⟨some 23,.bin .gtr t22 (z 500),some (21,false)⟩,
 o 24 (.pick t21 kT t23),
 o 2 (.mov t24)]
def f277_17:AC:=.seq (.reg f277_16) .ret
def f277_18:AC:=.seq f277_15 f277_17
def f277_19:AC:=.seq (.reg f277_1) f277_18
def f277_20:AC:=.seq (.reg f277_0) f277_19
def f277B:AC:=f277_20
def f277:AF:=⟨1,25,[(.t 2)],f277B⟩
def f278_0:List AI:=[o 2 (.mov kP),
 o 3 (.mov (z 0))]
def f278_1:List AI:=[o 9 (.mov t0),
 o 10 (.call (g 296) [t9]),
 o 4 (.mov t10)]
def f278_2:List AI:=[o 11 (.mov t4),
 o 12 (.bin .neq t11 (z 0))]
def f278_3:List AI:=[o 13 (.mov t4),
 o 2 (.mov kP),
 o 3 (.mov t13)]
def f278_4:AC:=.seq (.reg f278_3) .ret
def f278_5:AC:=.cond t12 f278_4 .skip
def f278_6:AC:=.seq (.reg f278_2) f278_5
def f278_7:AC:=.seq (.reg f278_1) f278_6
def f278_8:List AI:=[o 14 (.build [.nils,(.bool false),(.int .i64 0)] []),
 o 15 (.rowLit 3 [.nils,(.bool false),(.int .i64 0)] 1 [(0,t14)]),
 o 16 (.mkmap),
 o 17 (.build [.nils,.nilm] [(0,(1,t15)),(1,(1,t16))]),
 o 18 (.box t17),
 o 5 (.mov t18)]
def f278_9:List AI:=[o 19 (.mov t5),
 o 20 (.mov t0),
 o 21 (.call (g 311) [t19,t20])]
def f278_10:List AI:=[o 22 (.build [.nils,(.int .i64 0),.nils] []),
 o 23 (.box t22),
 o 6 (.mov t23)]
def f278_11:List AI:=[o 24 (.mov t6),
 o 25 (.mov t5),
 o 26 (.mkmap),
 o 27 (.call (g 312) [t24,t25,(z 0),t26])]
def f278_12:List AI:=[o 28 (.mov t0),
 o 29 (.len .slc t28),
 o 30 (.mov (z 0))]
def f278_13:List AI:=[o 31 (.bin .lss t30 t29)]
def f278_14:AC:=.cond t31 .skip (.exit 0)
def f278_15:List AI:=[o 32 (.iaddr 2 t28 t30),
 o 33 (.load true 2 t32),
 o 8 (.new [(.str []),(.int .i64 0)]),
 v (.store 2 t8 t33)]
def f278_16:List AI:=[o 34 (.mov t6),
 o 35 (.mov t6),
 o 36 (.nilck t35),
 o 37 (.faddr 2 t36),
 o 38 (.load false 1 t37),
 o 39 (.faddr 1 t8),
 o 40 (.load false 1 t39),
 o 41 (.rowLit 1 [(.int .i64 0)] 1 [(0,t40)]),
 o 42 (.app 1 8 t38 t41),
 o 43 (.nilck t34),
 o 44 (.faddr 2 t43),
 v (.store 1 t44 t42)]
def f278_17:AC:=.seq (.reg f278_15) (.dreg f278_16)
def f278_18:AC:=.block 1 f278_17
def f278_19:List AI:=[o 45 (.bin .add t30 (z 1)),
 o 30 (.mov t45)]
def f278_20:AC:=.seq f278_18 (.reg f278_19)
def f278_21:AC:=.seq f278_14 f278_20
def f278_22:AC:=.seq (.reg f278_13) f278_21
def f278_23:AC:=.loop f278_22
def f278_24:AC:=.block 0 f278_23
def f278_25:AC:=.seq (.reg f278_12) f278_24
def f278_26:List AI:=[o 46 (.mov t6),
 o 2 (.mov t46),
 o 3 (.mov (z 0))]
def f278_27:AC:=.seq (.reg f278_26) .ret
def f278_28:AC:=.seq f278_25 f278_27
def f278_29:AC:=.seq (.reg f278_11) f278_28
def f278_30:AC:=.seq (.reg f278_10) f278_29
def f278_31:AC:=.seq (.reg f278_9) f278_30
def f278_32:AC:=.seq (.reg f278_8) f278_31
def f278_33:AC:=.seq f278_7 f278_32
def f278_34:AC:=.seq (.reg f278_0) f278_33
def f278B:AC:=f278_34
def f278:AF:=⟨1,47,[(.t 2),(.t 3)],f278B⟩
def f281_0:List AI:=[o 2 (.mov (z 0))]
def f281_1:List AI:=[o 3 (.mov t0),
 o 4 (.eqv .ptr false t3 kP)]
def f281_2:List AI:=[o 2 (.mov (z 0))]
def f281_3:AC:=.seq (.reg f281_2) .ret
def f281_4:AC:=.cond t4 f281_3 .skip
def f281_5:AC:=.seq (.reg f281_1) f281_4
def f281_6:List AI:=[o 5 (.mov t0),
 o 6 (.nilck t5),
 o 7 (.faddr 0 t6),
 o 8 (.load false 1 t7),
 o 9 (.len .slc t8),
 o 2 (.mov t9)]
def f281_7:AC:=.seq (.reg f281_6) .ret
def f281_8:AC:=.seq f281_5 f281_7
def f281_9:AC:=.seq (.reg f281_0) f281_8
def f281B:AC:=f281_9
def f281:AF:=⟨1,10,[(.t 2)],f281B⟩
def f282_0:List AI:=[o 2 (.mov (z 0))]
def f282_1:List AI:=[o 3 (.mov t0),
 o 4 (.eqv .ptr false t3 kP)]
def f282_2:List AI:=[o 2 (.mov (z 0))]
def f282_3:AC:=.seq (.reg f282_2) .ret
def f282_4:AC:=.cond t4 f282_3 .skip
def f282_5:AC:=.seq (.reg f282_1) f282_4
def f282_6:List AI:=[o 5 (.mov t0),
 o 6 (.nilck t5),
 o 7 (.faddr 1 t6),
 o 8 (.load false 1 t7),
 o 2 (.mov t8)]
def f282_7:AC:=.seq (.reg f282_6) .ret
def f282_8:AC:=.seq f282_5 f282_7
def f282_9:AC:=.seq (.reg f282_0) f282_8
def f282B:AC:=f282_9
def f282:AF:=⟨1,9,[(.t 2)],f282B⟩
def f284_0:List AI:=[o 2 (.mov (z 0))]
def f284_1:List AI:=[o 3 (.mov t0),
 o 4 (.eqv .ptr false t3 kP)]
def f284_2:List AI:=[o 2 (.mov (z 0))]
def f284_3:AC:=.seq (.reg f284_2) .ret
def f284_4:AC:=.cond t4 f284_3 .skip
def f284_5:AC:=.seq (.reg f284_1) f284_4
def f284_6:List AI:=[o 5 (.mov t0),
 o 6 (.nilck t5),
 o 7 (.faddr 2 t6),
 o 8 (.load false 1 t7),
 o 9 (.len .slc t8),
 o 2 (.mov t9)]
def f284_7:AC:=.seq (.reg f284_6) .ret
def f284_8:AC:=.seq f284_5 f284_7
def f284_9:AC:=.seq (.reg f284_0) f284_8
def f284B:AC:=f284_9
def f284:AF:=⟨1,10,[(.t 2)],f284B⟩
def f289_0:List AI:=[o 6 (.mov (z 0)),
 o 7 (.mov (z 0))]
def f289_1:List AI:=[o 13 (.mov t0),
 o 14 (.mov t1),
 o 15 (.call (g 314) [t13,t14]),
 o 12 (.mov t15),
 o 16 (.ext t12 0),
 o 17 (.ext t12 1),
 o 8 (.mov t16),
 o 9 (.mov t17)]
def f289_2:List AI:=[o 18 (.mov t9),
 o 19 (.bin .neq t18 (z 0))]
def f289_3:List AI:=[o 20 (.mov t9),
 o 6 (.mov (z 0)),
 o 7 (.mov t20)]
def f289_4:AC:=.seq (.reg f289_3) .ret
def f289_5:AC:=.cond t19 f289_4 .skip
def f289_6:AC:=.seq (.reg f289_2) f289_5
def f289_7:List AI:=[o 22 (.mov t8),
 o 23 (.mov t2),
 o 24 (.call (g 316) [t22,t23]),
 o 21 (.mov t24),
 o 25 (.ext t21 0),
 o 26 (.ext t21 1),
 o 10 (.mov t25),
 o 11 (.mov t26)]
def f289_8:List AI:=[o 27 (.mov t11),
 o 28 (.un .not t27)]
def f289_9:List AI:=[o 6 (.mov (z 0)),
 o 7 (.mov (z 10))]
def f289_10:AC:=.seq (.reg f289_9) .ret
def f289_11:AC:=.cond t28 f289_10 .skip
def f289_12:AC:=.seq (.reg f289_8) f289_11
def f289_13:List AI:=[o 29 (.mov t8),
 o 30 (.nilck t29),
 o 31 (.faddr 0 t30),
 o 32 (.load false 1 t31),
 o 33 (.mov t10),
 o 34 (.iaddr 2 t32 t33),
 o 35 (.faddr 1 t34),
 o 36 (.load false 1 t35),
 o 6 (.mov t36),
 o 7 (.mov (z 0))]
def f289_14:AC:=.seq (.reg f289_13) .ret
def f289_15:AC:=.seq f289_12 f289_14
def f289_16:AC:=.seq (.reg f289_7) f289_15
def f289_17:AC:=.seq f289_6 f289_16
def f289_18:AC:=.seq (.reg f289_1) f289_17
def f289_19:AC:=.seq (.reg f289_0) f289_18
def f289B:AC:=f289_19
def f289:AF:=⟨3,37,[(.t 6),(.t 7)],f289B⟩
def f292_0:List AI:=[o 4 (.mov (z 0)),
 o 5 (.mov (z 0))]
def f292_1:List AI:=[o 16 (.mov t0),
 o 17 (.eqv .ptr false t16 kP)]
def f292_2:List AI:=[o 4 (.mov (z 0)),
 o 5 (.mov (z 1))]
def f292_3:AC:=.seq (.reg f292_2) .ret
def f292_4:AC:=.cond t17 f292_3 .skip
def f292_5:AC:=.seq (.reg f292_1) f292_4
def f292_6:List AI:=[o 19 (.mov t1),
 o 20 (.call (g 17) [t19]),
 o 18 (.mov t20),
 o 21 (.ext t18 0),
 o 22 (.ext t18 1),
 o 6 (.mov t21),
 o 7 (.mov t22)]
def f292_7:List AI:=[o 23 (.mov t7),
 o 24 (.bin .neq t23 (z 0))]
def f292_8:List AI:=[o 4 (.mov (z 0)),
 o 5 (.mov (z 10))]
def f292_9:AC:=.seq (.reg f292_8) .ret
def f292_10:AC:=.cond t24 f292_9 .skip
def f292_11:AC:=.seq (.reg f292_7) f292_10
def f292_12:List AI:=[o 25 (.mov t0),
 o 26 (.nilck t25),
 o 27 (.faddr 0 t26),
 o 28 (.load false 1 t27),
 o 29 (.iaddr 3 t28 (z 0)),
 o 8 (.mov (z 0)),
 o 9 (.mov t29)]
def f292_13:List AI:=[o 30 (.mov t6),
 o 31 (.len .slc t30),
 o 32 (.mov (z 0))]
def f292_14:List AI:=[o 33 (.bin .lss t32 t31)]
def f292_15:AC:=.cond t33 .skip (.exit 0)
def f292_16:List AI:=[o 34 (.iaddr 1 t30 t32),
 o 35 (.load false 1 t34),
 o 11 (.mov t35)]
def f292_17:List AI:=[o 37 (.mov t9),
 o 38 (.mov t11),
 o 39 (.call (g 316) [t37,t38]),
 o 36 (.mov t39),
 o 40 (.ext t36 0),
 o 41 (.ext t36 1),
 o 12 (.mov t40),
 o 13 (.mov t41)]
def f292_18:List AI:=[o 42 (.mov t13),
 o 43 (.un .not t42)]
def f292_19:List AI:=[o 4 (.mov (z 0)),
 o 5 (.mov (z 10))]
def f292_20:AC:=.seq (.reg f292_19) .ret
def f292_21:AC:=.cond t43 f292_20 .skip
def f292_22:AC:=.seq (.reg f292_18) f292_21
def f292_23:List AI:=[o 44 (.mov t9),
 o 45 (.nilck t44),
 o 46 (.faddr 1 t45),
 o 47 (.load false 1 t46)]
def f292_24:List AI:=[o 48 (.mov t8),
 o 49 (.bin .add t48 (z 1)),
 o 8 (.mov t49)]
def f292_25:AC:=.cond t47 (.reg f292_24) .skip
def f292_26:AC:=.seq (.reg f292_23) f292_25
def f292_27:List AI:=[o 50 (.mov t9),
 o 51 (.nilck t50),
 o 52 (.faddr 0 t51),
 o 53 (.load false 1 t52),
 o 54 (.mov t12),
 o 55 (.slice .slc 2 t53 none (some t54) none),
 o 56 (.len .slc t55),
 o 57 (.mov (z 0))]
def f292_28:List AI:=[o 58 (.bin .lss t57 t56)]
def f292_29:AC:=.cond t58 .skip (.exit 2)
def f292_30:List AI:=[o 59 (.iaddr 2 t55 t57),
 o 60 (.load true 2 t59),
 o 15 (.new [(.int .i32 0),(.int .i64 0)]),
 v (.store 2 t15 t60)]
def f292_31:List AI:=[o 61 (.mov t8),
 o 62 (.mov t0),
 o 63 (.nilck t62),
 o 64 (.faddr 0 t63),
 o 65 (.load false 1 t64),
 o 66 (.faddr 1 t15),
 o 67 (.load false 1 t66),
 o 68 (.iaddr 3 t65 t67),
 o 69 (.faddr 2 t68),
 o 70 (.load false 1 t69),
 o 71 (.bin .add t61 t70),
 o 8 (.mov t71)]
def f292_32:AC:=.seq (.reg f292_30) (.dreg f292_31)
def f292_33:AC:=.block 3 f292_32
def f292_34:List AI:=[o 72 (.bin .add t57 (z 1)),
 o 57 (.mov t72)]
def f292_35:AC:=.seq f292_33 (.reg f292_34)
def f292_36:AC:=.seq f292_29 f292_35
def f292_37:AC:=.seq (.reg f292_28) f292_36
def f292_38:AC:=.loop f292_37
def f292_39:AC:=.block 2 f292_38
def f292_40:AC:=.seq (.reg f292_27) f292_39
def f292_41:List AI:=[o 73 (.mov t0),
 o 74 (.nilck t73),
 o 75 (.faddr 0 t74),
 o 76 (.load false 1 t75),
 o 77 (.mov t9),
 o 78 (.nilck t77),
 o 79 (.faddr 0 t78),
 o 80 (.load false 1 t79),
 o 81 (.mov t12),
 o 82 (.iaddr 2 t80 t81),
 o 83 (.faddr 1 t82),
 o 84 (.load false 1 t83),
 o 85 (.iaddr 3 t76 t84),
 o 9 (.mov t85)]
def f292_42:AC:=.seq f292_40 (.dreg f292_41)
def f292_43:AC:=.seq f292_26 f292_42
def f292_44:AC:=.seq f292_22 f292_43
def f292_45:AC:=.seq (.reg f292_17) f292_44
def f292_46:AC:=.seq (.reg f292_16) f292_45
def f292_47:AC:=.block 1 f292_46
def f292_48:List AI:=[o 86 (.bin .add t32 (z 1)),
 o 32 (.mov t86)]
def f292_49:AC:=.seq f292_47 (.reg f292_48)
def f292_50:AC:=.seq f292_15 f292_49
def f292_51:AC:=.seq (.reg f292_14) f292_50
def f292_52:AC:=.loop f292_51
def f292_53:AC:=.block 0 f292_52
def f292_54:AC:=.seq (.reg f292_13) f292_53
def f292_55:List AI:=[o 87 (.mov t9),
 o 88 (.nilck t87),
 o 89 (.faddr 1 t88),
 o 90 (.load false 1 t89),
 o 91 (.un .not t90)]
def f292_56:List AI:=[o 4 (.mov (z 0)),
 o 5 (.mov (z 10))]
def f292_57:AC:=.seq (.reg f292_56) .ret
def f292_58:AC:=.cond t91 f292_57 .skip
def f292_59:AC:=.seq (.reg f292_55) f292_58
def f292_60:List AI:=[o 92 (.mov t8),
 o 4 (.mov t92),
 o 5 (.mov (z 0))]
def f292_61:AC:=.seq (.reg f292_60) .ret
def f292_62:AC:=.seq f292_59 f292_61
def f292_63:AC:=.seq f292_54 f292_62
def f292_64:AC:=.seq (.dreg f292_12) f292_63
def f292_65:AC:=.seq f292_11 f292_64
def f292_66:AC:=.seq (.reg f292_6) f292_65
def f292_67:AC:=.seq f292_5 f292_66
def f292_68:AC:=.seq (.reg f292_0) f292_67
def f292B:AC:=f292_68
def f292:AF:=⟨2,93,[(.t 4),(.t 5)],f292B⟩
def f295_0:List AI:=[o 2 (.mov kN),
 o 3 (.mov (z 0))]
def f295_1:List AI:=[o 9 (.mov t0),
 o 10 (.call (g 318) [t9]),
 o 4 (.mov t10)]
def f295_2:List AI:=[o 11 (.mov t4),
 o 12 (.bin .neq t11 (z 0))]
def f295_3:List AI:=[o 13 (.mov t4),
 o 2 (.mov kN),
 o 3 (.mov t13)]
def f295_4:AC:=.seq (.reg f295_3) .ret
def f295_5:AC:=.cond t12 f295_4 .skip
def f295_6:AC:=.seq (.reg f295_2) f295_5
def f295_7:AC:=.seq (.reg f295_1) f295_6
def f295_8:List AI:=[o 5 (.mov kN)]
def f295_9:List AI:=[o 14 (.mov t0),
 o 15 (.call (g 320) [t14]),
 o 16 (.call (g 319) [t15,(g 321)]),
 o 17 (.len .slc t16),
 o 18 (.mov (z 0))]
def f295_10:List AI:=[o 19 (.bin .lss t18 t17)]
def f295_11:AC:=.cond t19 .skip (.exit 0)
def f295_12:List AI:=[o 20 (.iaddr 2 t16 t18),
 o 21 (.load true 2 t20),
 o 7 (.new [(.str []),(.int .i64 0)]),
 v (.store 2 t7 t21)]
def f295_13:List AI:=[o 22 (.mov t5),
 o 23 (.len .slc t22),
 o 8 (.mov t23)]
def f295_14:List AI:=[o 24 (.mov t8),
 o 25 (.bin .gtr t24 (z 0)),
 o 26 (.mov t25),
 ⟨some 27,.mov t5,some (26,true)⟩,
 ⟨some 28,.mov t8,some (26,true)⟩,
 ⟨some 29,.bin .sub t28 (z 1),some (26,true)⟩,
 ⟨some 30,.iaddr 2 t27 t29,some (26,true)⟩,
 ⟨some 31,.faddr 0 t30,some (26,true)⟩,
 ⟨some 32,.load false 1 t31,some (26,true)⟩,
 ⟨some 33,.faddr 0 t7,some (26,true)⟩,
 ⟨some 34,.load false 1 t33,some (26,true)⟩,
 ⟨some 35,.bin .eql t32 t34,some (26,true)⟩,
 o 36 (.pick t26 t35 kF)]
def f295_15:List AI:=[o 37 (.mov t5),
 o 38 (.mov t8),
 o 39 (.bin .sub t38 (z 1)),
 o 40 (.mov t5),
 o 41 (.mov t8),
 o 42 (.bin .sub t41 (z 1)),
 o 43 (.iaddr 2 t40 t42),
 o 44 (.faddr 1 t43),
 o 45 (.load false 1 t44),
 o 46 (.faddr 1 t7),
 o 47 (.load false 1 t46),
 o 48 (.bin .add t45 t47),
 o 49 (.best false [t48,(z 1073741824)]),
 o 50 (.iaddr 2 t37 t39),
 o 51 (.faddr 1 t50),
 v (.store 1 t51 t49)]
def f295_16:AC:=.seq (.dreg f295_15) (.exit 1)
def f295_17:AC:=.cond t36 f295_16 .skip
def f295_18:AC:=.seq (.dreg f295_14) f295_17
def f295_19:AC:=.seq (.reg f295_13) f295_18
def f295_20:List AI:=[o 52 (.mov t5),
 o 53 (.load true 2 t7),
 o 54 (.rowLit 2 [(.str []),(.int .i64 0)] 1 [(0,t53)]),
 o 55 (.app 2 24 t52 t54),
 o 5 (.mov t55)]
def f295_21:AC:=.seq f295_19 (.reg f295_20)
def f295_22:AC:=.seq (.reg f295_12) f295_21
def f295_23:AC:=.block 1 f295_22
def f295_24:List AI:=[o 56 (.bin .add t18 (z 1)),
 o 18 (.mov t56)]
def f295_25:AC:=.seq f295_23 (.reg f295_24)
def f295_26:AC:=.seq f295_11 f295_25
def f295_27:AC:=.seq (.reg f295_10) f295_26
def f295_28:AC:=.loop f295_27
def f295_29:AC:=.block 0 f295_28
def f295_30:AC:=.seq (.reg f295_9) f295_29
def f295_31:List AI:=[o 57 (.mov t5),
 o 58 (.len .slc t57),
 o 59 (.bin .gtr t58 (z 65536))]
def f295_32:List AI:=[o 2 (.mov kN),
 o 3 (.mov (z 6))]
def f295_33:AC:=.seq (.reg f295_32) .ret
def f295_34:AC:=.cond t59 f295_33 .skip
def f295_35:AC:=.seq (.reg f295_31) f295_34
def f295_36:List AI:=[o 60 (.mov t5),
 o 2 (.mov t60),
 o 3 (.mov (z 0))]
def f295_37:AC:=.seq (.reg f295_36) .ret
def f295_38:AC:=.seq f295_35 f295_37
def f295_39:AC:=.seq f295_30 f295_38
def f295_40:AC:=.seq (.reg f295_8) f295_39
def f295_41:AC:=.seq f295_7 f295_40
def f295_42:AC:=.seq (.reg f295_0) f295_41
def f295B:AC:=f295_42
def f295:AF:=⟨1,61,[(.t 2),(.t 3)],f295B⟩
def f296_0:List AI:=[o 2 (.mov (z 0))]
def f296_1:List AI:=[o 5 (.mov t0),
 o 6 (.call (g 318) [t5]),
 o 3 (.mov t6)]
def f296_2:List AI:=[o 7 (.mov t3),
 o 8 (.bin .neq t7 (z 0))]
def f296_3:List AI:=[o 9 (.mov t3),
 o 2 (.mov t9)]
def f296_4:AC:=.seq (.reg f296_3) .ret
def f296_5:AC:=.cond t8 f296_4 .skip
def f296_6:AC:=.seq (.reg f296_2) f296_5
def f296_7:AC:=.seq (.reg f296_1) f296_6
def f296_8:List AI:=[o 10 (.mov t0),
 o 11 (.len .slc t10),
 o 12 (.mov (z 0))]
def f296_9:List AI:=[o 13 (.bin .lss t12 t11)]
def f296_10:AC:=.cond t13 .skip (.exit 0)
def f296_11:List AI:=[o 14 (.mov t12),
 o 4 (.mov t14)]
def f296_12:List AI:=[o 15 (.mov t4),
 o 16 (.bin .gtr t15 (z 0)),
 o 17 (.mov t16),
 ⟨some 18,.mov t0,some (17,true)⟩,
 ⟨some 19,.mov t4,some (17,true)⟩,
 ⟨some 20,.bin .sub t19 (z 1),some (17,true)⟩,
 ⟨some 21,.iaddr 2 t18 t20,some (17,true)⟩,
 ⟨some 22,.faddr 0 t21,some (17,true)⟩,
 ⟨some 23,.load false 1 t22,some (17,true)⟩,
 ⟨some 24,.mov t0,some (17,true)⟩,
 ⟨some 25,.mov t4,some (17,true)⟩,
 ⟨some 26,.iaddr 2 t24 t25,some (17,true)⟩,
 ⟨some 27,.faddr 0 t26,some (17,true)⟩,
 ⟨some 28,.load false 1 t27,some (17,true)⟩,
 ⟨some 29,.bin .geq t23 t28,some (17,true)⟩,
 o 30 (.pick t17 t29 kF)]
def f296_13:List AI:=[o 2 (.mov (z 7))]
def f296_14:AC:=.seq (.reg f296_13) .ret
def f296_15:AC:=.cond t30 f296_14 .skip
def f296_16:AC:=.seq (.dreg f296_12) f296_15
def f296_17:AC:=.seq (.reg f296_11) f296_16
def f296_18:AC:=.block 1 f296_17
def f296_19:List AI:=[o 31 (.bin .add t12 (z 1)),
 o 12 (.mov t31)]
def f296_20:AC:=.seq f296_18 (.reg f296_19)
def f296_21:AC:=.seq f296_10 f296_20
def f296_22:AC:=.seq (.reg f296_9) f296_21
def f296_23:AC:=.loop f296_22
def f296_24:AC:=.block 0 f296_23
def f296_25:AC:=.seq (.reg f296_8) f296_24
def f296_26:List AI:=[o 32 (.mov t0),
 o 33 (.len .slc t32),
 o 34 (.bin .gtr t33 (z 65536))]
def f296_27:List AI:=[o 2 (.mov (z 6))]
def f296_28:AC:=.seq (.reg f296_27) .ret
def f296_29:AC:=.cond t34 f296_28 .skip
def f296_30:AC:=.seq (.reg f296_26) f296_29
def f296_31:List AI:=[o 2 (.mov (z 0))]
def f296_32:AC:=.seq (.reg f296_31) .ret
def f296_33:AC:=.seq f296_30 f296_32
def f296_34:AC:=.seq f296_25 f296_33
def f296_35:AC:=.seq f296_7 f296_34
def f296_36:AC:=.seq (.reg f296_0) f296_35
def f296B:AC:=f296_36
def f296:AF:=⟨1,35,[(.t 2)],f296B⟩
def f298_0:List AI:=[o 1 (.box t0),
 o 2 (.mov (z 0))]
def f298_1:List AI:=[o 6 (.faddr 0 t1),
 o 7 (.load false 1 t6),
 o 8 (.call (g 20) [t7]),
 o 5 (.mov t8),
 o 9 (.ext t5 0),
 o 10 (.ext t5 1),
 o 3 (.mov t9),
 o 4 (.mov t10)]
def f298_2:List AI:=[o 11 (.mov t4),
 o 12 (.bin .eql t11 (z 0)),
 o 13 (.mov t12),
 ⟨some 14,.faddr 1 t1,some (13,true)⟩,
 ⟨some 15,.load false 1 t14,some (13,true)⟩,
 ⟨some 16,.bin .lss t15 (z 1),some (13,true)⟩,
 ⟨some 17,.mov t16,some (13,true)⟩,
 ⟨some 18,.faddr 1 t1,some (17,false)⟩,
 ⟨some 19,.load false 1 t18,some (17,false)⟩,
 ⟨some 20,.bin .gtr t19 (z 1073741824),some (17,false)⟩,
 ⟨some 21,.pick t17 kT t20,some (13,true)⟩,
 o 22 (.pick t13 t21 kF)]
def f298_3:List AI:=[o 2 (.mov (z 2))]
def f298_4:AC:=.seq (.reg f298_3) .ret
def f298_5:AC:=.cond t22 f298_4 .skip
def f298_6:AC:=.seq (.reg f298_2) f298_5
def f298_7:List AI:=[o 23 (.mov t4),
 o 2 (.mov t23)]
def f298_8:AC:=.seq (.reg f298_7) .ret
def f298_9:AC:=.seq f298_6 f298_8
def f298_10:AC:=.seq (.reg f298_1) f298_9
def f298_11:AC:=.seq (.reg f298_0) f298_10
def f298B:AC:=f298_11
def f298:AF:=⟨1,24,[(.t 2)],f298B⟩
def f302_0:List AI:=[o 4 (.new [(.str []),(.int .i64 0)]),
 o 5 (.mov (z 0))]
def f302_1:List AI:=[o 13 (.mov t0),
 o 14 (.eqv .ptr false t13 kP),
 o 12 (.mov t14)]
def f302_2:List AI:=[o 15 (.build [(.str []),(.int .i64 0)] []),
 v (.store 2 t4 t15),
 o 5 (.mov (z 1))]
def f302_3:AC:=.seq (.reg f302_2) .ret
def f302_4:List AI:=[o 17 (.mov t1),
 o 18 (.bin .lss t17 (z 0)),
 o 19 (.mov t18),
 ⟨some 20,.mov t1,some (19,false)⟩,
 ⟨some 21,.mov t0,some (19,false)⟩,
 ⟨some 22,.nilck t21,some (19,false)⟩,
 ⟨some 23,.faddr 2 t22,some (19,false)⟩,
 ⟨some 24,.load false 1 t23,some (19,false)⟩,
 ⟨some 25,.len .slc t24,some (19,false)⟩,
 ⟨some 26,.bin .geq t20 t25,some (19,false)⟩,
 o 27 (.pick t19 kT t26),
 o 16 (.mov t27)]
def f302_5:List AI:=[o 28 (.build [(.str []),(.int .i64 0)] []),
 v (.store 2 t4 t28),
 o 5 (.mov (z 2))]
def f302_6:AC:=.seq (.reg f302_5) .ret
def f302_7:AC:=.cond t16 f302_6 .skip
def f302_8:AC:=.seq (.reg f302_4) f302_7
def f302_9:AC:=.cond t12 f302_3 f302_8
def f302_10:AC:=.seq (.reg f302_1) f302_9
def f302_11:AC:=.block 0 f302_10
def f302_12:List AI:=[o 6 (.mov kN)]
def f302_13:List AI:=[o 29 (.mov t0),
 o 30 (.nilck t29),
 o 31 (.faddr 0 t30),
 o 32 (.load false 1 t31),
 o 33 (.iaddr 3 t32 (z 0)),
 o 34 (.mov t1),
 o 7 (.mov t33),
 o 8 (.mov t34)]
def f302_14:List AI:=[o 35 (.mov t7),
 o 36 (.nilck t35),
 o 37 (.faddr 1 t36),
 o 38 (.load false 1 t37)]
def f302_15:List AI:=[o 39 (.mov t8),
 o 40 (.bin .eql t39 (z 0))]
def f302_16:AC:=.cond t40 (.exit 1) .skip
def f302_17:AC:=.seq (.reg f302_15) f302_16
def f302_18:List AI:=[o 41 (.mov t8),
 o 42 (.bin .sub t41 (z 1)),
 o 8 (.mov t42)]
def f302_19:AC:=.seq f302_17 (.reg f302_18)
def f302_20:AC:=.cond t38 f302_19 .skip
def f302_21:AC:=.seq (.reg f302_14) f302_20
def f302_22:List AI:=[o 43 (.mov t7),
 o 44 (.nilck t43),
 o 45 (.faddr 0 t44),
 o 46 (.load false 1 t45),
 o 47 (.len .slc t46),
 o 48 (.mov (z 0))]
def f302_23:List AI:=[o 49 (.bin .lss t48 t47)]
def f302_24:AC:=.cond t49 .skip (.exit 3)
def f302_25:List AI:=[o 50 (.iaddr 2 t46 t48),
 o 51 (.load true 2 t50),
 o 10 (.new [(.int .i32 0),(.int .i64 0)]),
 v (.store 2 t10 t51)]
def f302_26:List AI:=[o 52 (.mov t0),
 o 53 (.nilck t52),
 o 54 (.faddr 0 t53),
 o 55 (.load false 1 t54),
 o 56 (.faddr 1 t10),
 o 57 (.load false 1 t56),
 o 58 (.iaddr 3 t55 t57),
 o 11 (.mov t58)]
def f302_27:List AI:=[o 59 (.mov t8),
 o 60 (.mov t11),
 o 61 (.nilck t60),
 o 62 (.faddr 2 t61),
 o 63 (.load false 1 t62),
 o 64 (.bin .lss t59 t63)]
def f302_28:List AI:=[o 65 (.mov t6),
 o 66 (.faddr 0 t10),
 o 67 (.load false 1 t66),
 o 68 (.call (g 56) [t65,t67]),
 o 6 (.mov t68)]
def f302_29:List AI:=[o 69 (.mov t11),
 o 7 (.mov t69)]
def f302_30:AC:=.seq (.reg f302_29) (.exit 2)
def f302_31:AC:=.seq (.reg f302_28) f302_30
def f302_32:AC:=.cond t64 f302_31 .skip
def f302_33:AC:=.seq (.reg f302_27) f302_32
def f302_34:List AI:=[o 70 (.mov t8),
 o 71 (.mov t11),
 o 72 (.nilck t71),
 o 73 (.faddr 2 t72),
 o 74 (.load false 1 t73),
 o 75 (.bin .sub t70 t74),
 o 8 (.mov t75)]
def f302_35:AC:=.seq f302_33 (.reg f302_34)
def f302_36:AC:=.seq (.dreg f302_26) f302_35
def f302_37:AC:=.seq (.reg f302_25) f302_36
def f302_38:AC:=.block 4 f302_37
def f302_39:List AI:=[o 76 (.bin .add t48 (z 1)),
 o 48 (.mov t76)]
def f302_40:AC:=.seq f302_38 (.reg f302_39)
def f302_41:AC:=.seq f302_24 f302_40
def f302_42:AC:=.seq (.reg f302_23) f302_41
def f302_43:AC:=.loop f302_42
def f302_44:AC:=.block 3 f302_43
def f302_45:AC:=.seq (.reg f302_22) f302_44
def f302_46:AC:=.seq f302_45 (.exit 1)
def f302_47:AC:=.seq f302_21 f302_46
def f302_48:AC:=.block 2 f302_47
def f302_49:AC:=.loop f302_48
def f302_50:AC:=.block 1 f302_49
def f302_51:List AI:=[o 77 (.mov t6),
 o 78 (.b2s t77),
 o 79 (.mov t0),
 o 80 (.nilck t79),
 o 81 (.faddr 2 t80),
 o 82 (.load false 1 t81),
 o 83 (.mov t1),
 o 84 (.iaddr 1 t82 t83),
 o 85 (.load false 1 t84),
 o 86 (.build [(.str []),(.int .i64 0)] [(0,(1,t78)),(1,(1,t85))]),
 v (.store 2 t4 t86),
 o 5 (.mov (z 0))]
def f302_52:AC:=.seq (.dreg f302_51) .ret
def f302_53:AC:=.seq f302_50 f302_52
def f302_54:AC:=.seq .skip f302_53
def f302_55:AC:=.seq (.reg f302_13) f302_54
def f302_56:AC:=.seq (.reg f302_12) f302_55
def f302_57:AC:=.seq f302_11 f302_56
def f302_58:AC:=.seq .skip f302_57
def f302_59:AC:=.seq (.reg f302_0) f302_58
def f302B:AC:=f302_59
def f302:AF:=⟨2,87,[(.cell 4 true 2),(.t 5)],f302B⟩
def f306_0:List AI:=[o 4 (.mov (z 0)),
 o 5 (.mov kF)]
def f306_1:List AI:=[o 8 (.mov t0),
 o 9 (.len .slc t8),
 o 10 (.mov (z 0))]
def f306_2:List AI:=[o 11 (.bin .lss t10 t9)]
def f306_3:AC:=.cond t11 .skip (.exit 0)
def f306_4:List AI:=[o 12 (.mov t10),
 o 13 (.iaddr 2 t8 t10),
 o 14 (.load true 2 t13),
 o 7 (.new [(.str []),(.int .i64 0)]),
 o 6 (.mov t12),
 v (.store 2 t7 t14)]
def f306_5:List AI:=[o 15 (.faddr 0 t7),
 o 16 (.load false 1 t15),
 o 17 (.mov t1),
 o 18 (.bin .eql t16 t17)]
def f306_6:List AI:=[o 19 (.mov t6),
 o 4 (.mov t19),
 o 5 (.mov kT)]
def f306_7:AC:=.seq (.reg f306_6) .ret
def f306_8:AC:=.cond t18 f306_7 .skip
def f306_9:AC:=.seq (.reg f306_5) f306_8
def f306_10:AC:=.seq (.reg f306_4) f306_9
def f306_11:AC:=.block 1 f306_10
def f306_12:List AI:=[o 20 (.bin .add t10 (z 1)),
 o 10 (.mov t20)]
def f306_13:AC:=.seq f306_11 (.reg f306_12)
def f306_14:AC:=.seq f306_3 f306_13
def f306_15:AC:=.seq (.reg f306_2) f306_14
def f306_16:AC:=.loop f306_15
def f306_17:AC:=.block 0 f306_16
def f306_18:AC:=.seq (.reg f306_1) f306_17
def f306_19:List AI:=[o 4 (.mov (z 0)),
 o 5 (.mov kF)]
def f306_20:AC:=.seq (.reg f306_19) .ret
def f306_21:AC:=.seq f306_18 f306_20
def f306_22:AC:=.seq (.reg f306_0) f306_21
def f306B:AC:=f306_22
def f306:AF:=⟨2,21,[(.t 4),(.t 5)],f306B⟩
def f311_0:List AI:=[o 14 (.rowLit 1 [(.int .i64 0)] 1 [(0,(z 0))]),
 o 4 (.mov t14)]
def f311_1:List AI:=[o 5 (.mov kN)]
def f311_2:List AI:=[o 15 (.mov t1),
 o 16 (.len .slc t15),
 o 17 (.mov (z 0))]
def f311_3:List AI:=[o 18 (.bin .lss t17 t16)]
def f311_4:AC:=.cond t18 .skip (.exit 0)
def f311_5:List AI:=[o 19 (.iaddr 2 t15 t17),
 o 20 (.load true 2 t19),
 o 7 (.new [(.str []),(.int .i64 0)]),
 v (.store 2 t7 t20)]
def f311_6:List AI:=[o 22 (.faddr 0 t7),
 o 23 (.load false 1 t22),
 o 24 (.call (g 17) [t23]),
 o 21 (.mov t24),
 o 25 (.ext t21 0),
 o 26 (.ext t21 1),
 o 8 (.mov t25),
 o 9 (.mov t26)]
def f311_7:List AI:=[o 27 (.mov t0),
 o 28 (.mov t4),
 o 29 (.mov t5),
 o 30 (.mov t8),
 o 31 (.call (g 330) [t29,t30]),
 o 32 (.call (g 329) [t27,t28,t31]),
 o 4 (.mov t32)]
def f311_8:List AI:=[o 33 (.mov t8),
 o 34 (.mov t4),
 o 35 (.len .slc t34),
 o 36 (.bin .sub t35 (z 1)),
 o 37 (.slice .slc 1 t33 (some t36) none none),
 o 38 (.len .slc t37),
 o 39 (.mov (z 0))]
def f311_9:List AI:=[o 40 (.bin .lss t39 t38)]
def f311_10:AC:=.cond t40 .skip (.exit 2)
def f311_11:List AI:=[o 41 (.iaddr 1 t37 t39),
 o 42 (.load false 1 t41),
 o 11 (.mov t42)]
def f311_12:List AI:=[o 43 (.mov t0),
 o 44 (.nilck t43),
 o 45 (.faddr 0 t44),
 o 46 (.load false 1 t45),
 o 47 (.len .slc t46),
 o 12 (.mov t47)]
def f311_13:List AI:=[o 48 (.mov t0),
 o 49 (.mov t0),
 o 50 (.nilck t49),
 o 51 (.faddr 0 t50),
 o 52 (.load false 1 t51),
 o 53 (.build [.nils,(.bool false),(.int .i64 0)] []),
 o 54 (.rowLit 3 [.nils,(.bool false),(.int .i64 0)] 1 [(0,t53)]),
 o 55 (.app 3 40 t52 t54),
 o 56 (.nilck t48),
 o 57 (.faddr 0 t56),
 v (.store 1 t57 t55)]
def f311_14:List AI:=[o 58 (.mov t4),
 o 59 (.mov t4),
 o 60 (.len .slc t59),
 o 61 (.bin .sub t60 (z 1)),
 o 62 (.iaddr 1 t58 t61),
 o 63 (.load false 1 t62),
 o 13 (.mov t63)]
def f311_15 : List (List AI) := [[o 64 (.mov t0),
 o 65 (.nilck t64),
 o 66 (.faddr 0 t65),
 o 67 (.load false 1 t66),
 o 68 (.mov t13),
 o 69 (.mov t0),
 o 70 (.nilck t69),
 o 71 (.faddr 0 t70),
 o 72 (.load false 1 t71),
 o 73 (.mov t13),
 o 74 (.iaddr 3 t72 t73),
 o 75 (.faddr 0 t74),
 o 76 (.load false 1 t75),
 o 77 (.mov t11),
 o 78 (.mov t12),
 o 79 (.build [(.int .i32 0),(.int .i64 0)] [(0,(1,t77)),(1,(1,t78))]),
 o 80 (.rowLit 2 [(.int .i32 0),(.int .i64 0)] 1 [(0,t79)]),
 o 81 (.app 2 16 t76 t80),
 o 82 (.iaddr 3 t67 t68),
 o 83 (.faddr 0 t82),
 v (.store 1 t83 t81)],[o 64 (.mov t0),
 o 65 (.nilck t64),
 o 66 (.faddr 0 t65),
 o 68 (.mov t13),
 o 69 (.mov t0),
 o 70 (.nilck t69),
 o 71 (.faddr 0 t70),
 o 72 (.load false 1 t71),
 o 73 (.mov t13),
 o 74 (.iaddr 3 t72 t73),
 o 75 (.faddr 0 t74),
 o 76 (.load false 1 t75),
 o 77 (.mov t11),
 o 78 (.mov t12),
 o 79 (.build [(.int .i32 0),(.int .i64 0)] [(0,(1,t77)),(1,(1,t78))]),
 o 80 (.rowLit 2 [(.int .i32 0),(.int .i64 0)] 1 [(0,t79)]),
 o 81 (.app 2 16 t76 t80),
 o 67 (.load false 1 t66),
 o 82 (.iaddr 3 t67 t68),
 o 83 (.faddr 0 t82),
 v (.store 1 t83 t81)]]
def f311_16:List AI:=[o 84 (.mov t4),
 o 85 (.mov t12),
 o 86 (.rowLit 1 [(.int .i64 0)] 1 [(0,t85)]),
 o 87 (.app 1 8 t84 t86),
 o 4 (.mov t87)]
def f311_17:AC:=.seq (.dalt f311_15) (.reg f311_16)
def f311_18:AC:=.seq (.reg f311_14) f311_17
def f311_19:AC:=.seq (.reg f311_13) f311_18
def f311_20:AC:=.seq (.reg f311_12) f311_19
def f311_21:AC:=.seq (.reg f311_11) f311_20
def f311_22:AC:=.block 3 f311_21
def f311_23:List AI:=[o 88 (.bin .add t39 (z 1)),
 o 39 (.mov t88)]
def f311_24:AC:=.seq f311_22 (.reg f311_23)
def f311_25:AC:=.seq f311_10 f311_24
def f311_26:AC:=.seq (.reg f311_9) f311_25
def f311_27:AC:=.loop f311_26
def f311_28:AC:=.block 2 f311_27
def f311_29:AC:=.seq (.reg f311_8) f311_28
def f311_30:List AI:=[o 89 (.mov t0),
 o 90 (.nilck t89),
 o 91 (.faddr 0 t90),
 o 92 (.load false 1 t91),
 o 93 (.mov t4),
 o 94 (.mov t4),
 o 95 (.len .slc t94),
 o 96 (.bin .sub t95 (z 1)),
 o 97 (.iaddr 1 t93 t96),
 o 98 (.load false 1 t97),
 o 99 (.iaddr 3 t92 t98),
 o 100 (.faddr 1 t99),
 v (.store 1 t100 kT)]
def f311_31:List AI:=[o 101 (.mov t8),
 o 5 (.mov t101)]
def f311_32:AC:=.seq (.dreg f311_30) (.reg f311_31)
def f311_33:AC:=.seq f311_29 f311_32
def f311_34:AC:=.seq (.reg f311_7) f311_33
def f311_35:AC:=.seq (.reg f311_6) f311_34
def f311_36:AC:=.seq (.reg f311_5) f311_35
def f311_37:AC:=.block 1 f311_36
def f311_38:List AI:=[o 102 (.bin .add t17 (z 1)),
 o 17 (.mov t102)]
def f311_39:AC:=.seq f311_37 (.reg f311_38)
def f311_40:AC:=.seq f311_4 f311_39
def f311_41:AC:=.seq (.reg f311_3) f311_40
def f311_42:AC:=.loop f311_41
def f311_43:AC:=.block 0 f311_42
def f311_44:AC:=.seq (.reg f311_2) f311_43
def f311_45:List AI:=[o 103 (.mov t0),
 o 104 (.mov t4),
 o 105 (.call (g 329) [t103,t104,(z 0)])]
def f311_46:AC:=.seq f311_44 (.reg f311_45)
def f311_47:AC:=.seq (.reg f311_1) f311_46
def f311_48:AC:=.seq (.reg f311_0) f311_47
def f311B:AC:=f311_48
def f311:AF:=⟨2,106,[],f311B⟩
def f312_0:List AI:=[o 8 (.mov (z 0))]
def f312_1:List AI:=[o 18 (.mov t3),
 o 19 (.mov t2),
 o 20 (.lookup (.int .i64) (.int .i64 0) t18 t19 true),
 o 17 (.mov t20),
 o 21 (.ext t17 0),
 o 22 (.ext t17 1),
 o 9 (.mov t21),
 o 10 (.mov t22)]
def f312_2:List AI:=[o 23 (.mov t10)]
def f312_3:List AI:=[o 24 (.mov t9),
 o 8 (.mov t24)]
def f312_4:AC:=.seq (.reg f312_3) .ret
def f312_5:AC:=.cond t23 f312_4 .skip
def f312_6:AC:=.seq (.reg f312_2) f312_5
def f312_7:AC:=.seq (.reg f312_1) f312_6
def f312_8:List AI:=[o 25 (.mov t0),
 o 26 (.nilck t25),
 o 27 (.faddr 0 t26),
 o 28 (.load false 1 t27),
 o 29 (.len .slc t28),
 o 11 (.mov t29)]
def f312_9:List AI:=[o 30 (.mov t3),
 o 31 (.mov t2),
 o 32 (.mov t11),
 v (.mapset (.int .i64) t30 t31 t32)]
def f312_10:List AI:=[o 33 (.mov t0),
 o 34 (.mov t0),
 o 35 (.nilck t34),
 o 36 (.faddr 0 t35),
 o 37 (.load false 1 t36),
 o 38 (.mov t1),
 o 39 (.nilck t38),
 o 40 (.faddr 0 t39),
 o 41 (.load false 1 t40),
 o 42 (.mov t2),
 o 43 (.iaddr 3 t41 t42),
 o 44 (.faddr 1 t43),
 o 45 (.load false 1 t44),
 o 46 (.build [.nils,(.bool false),(.int .i64 0)] [(1,(1,t45))]),
 o 47 (.rowLit 3 [.nils,(.bool false),(.int .i64 0)] 1 [(0,t46)]),
 o 48 (.app 3 40 t37 t47),
 o 49 (.nilck t33),
 o 50 (.faddr 0 t49),
 v (.store 1 t50 t48)]
def f312_11:List AI:=[o 12 (.mov (z 0))]
def f312_12:List AI:=[o 51 (.mov t1),
 o 52 (.nilck t51),
 o 53 (.faddr 0 t52),
 o 54 (.load false 1 t53),
 o 55 (.mov t2),
 o 56 (.iaddr 3 t54 t55),
 o 57 (.faddr 1 t56),
 o 58 (.load false 1 t57)]
def f312_13:List AI:=[o 12 (.mov (z 1))]
def f312_14:AC:=.cond t58 (.reg f312_13) .skip
def f312_15:AC:=.seq (.reg f312_12) f312_14
def f312_16:List AI:=[o 13 (.mov kN)]
def f312_17:List AI:=[o 59 (.mov t1),
 o 60 (.nilck t59),
 o 61 (.faddr 0 t60),
 o 62 (.load false 1 t61),
 o 63 (.mov t2),
 o 64 (.iaddr 3 t62 t63),
 o 65 (.faddr 0 t64),
 o 66 (.load false 1 t65),
 o 67 (.len .slc t66),
 o 68 (.mov (z 0))]
def f312_18:List AI:=[o 69 (.bin .lss t68 t67)]
def f312_19:AC:=.cond t69 .skip (.exit 0)
def f312_20:List AI:=[o 70 (.iaddr 2 t66 t68),
 o 71 (.load true 2 t70),
 o 15 (.new [(.int .i32 0),(.int .i64 0)]),
 v (.store 2 t15 t71)]
def f312_21:List AI:=[o 72 (.mov t0),
 o 73 (.mov t1),
 o 74 (.faddr 1 t15),
 o 75 (.load false 1 t74),
 o 76 (.mov t3),
 o 77 (.call (g 312) [t72,t73,t75,t76]),
 o 16 (.mov t77)]
def f312_22:List AI:=[o 78 (.mov t13),
 o 79 (.faddr 0 t15),
 o 80 (.load false 1 t79),
 o 81 (.mov t16),
 o 82 (.build [(.int .i32 0),(.int .i64 0)] [(0,(1,t80)),(1,(1,t81))]),
 o 83 (.rowLit 2 [(.int .i32 0),(.int .i64 0)] 1 [(0,t82)]),
 o 84 (.app 2 16 t78 t83),
 o 13 (.mov t84)]
def f312_23:List AI:=[o 85 (.mov t12),
 o 86 (.mov t0),
 o 87 (.nilck t86),
 o 88 (.faddr 0 t87),
 o 89 (.load false 1 t88),
 o 90 (.mov t16),
 o 91 (.iaddr 3 t89 t90),
 o 92 (.faddr 2 t91),
 o 93 (.load false 1 t92),
 o 94 (.bin .add t85 t93),
 o 12 (.mov t94)]
def f312_24:AC:=.seq (.reg f312_22) (.reg f312_23)
def f312_25:AC:=.seq (.reg f312_21) f312_24
def f312_26:AC:=.seq (.reg f312_20) f312_25
def f312_27:AC:=.block 1 f312_26
def f312_28:List AI:=[o 95 (.bin .add t68 (z 1)),
 o 68 (.mov t95)]
def f312_29:AC:=.seq f312_27 (.reg f312_28)
def f312_30:AC:=.seq f312_19 f312_29
def f312_31:AC:=.seq (.reg f312_18) f312_30
def f312_32:AC:=.loop f312_31
def f312_33:AC:=.block 0 f312_32
def f312_34:AC:=.seq (.reg f312_17) f312_33
def f312_35:List AI:=[o 96 (.mov t0),
 o 97 (.nilck t96),
 o 98 (.faddr 0 t97),
 o 99 (.load false 1 t98),
 o 100 (.mov t11),
 o 101 (.mov t0),
 o 102 (.nilck t101),
 o 103 (.faddr 0 t102),
 o 104 (.load false 1 t103),
 o 105 (.mov t11),
 o 106 (.mov t13),
 o 107 (.mov t12),
 o 108 (.iaddr 3 t99 t100),
 o 109 (.faddr 0 t108),
 v (.store 1 t109 t106),
 o 110 (.iaddr 3 t104 t105),
 o 111 (.faddr 2 t110),
 v (.store 1 t111 t107)]
def f312_36:List AI:=[o 112 (.mov t0),
 o 113 (.nilck t112),
 o 114 (.faddr 1 t113),
 o 115 (.load false 1 t114),
 o 116 (.mov t13),
 o 117 (.len .slc t116),
 o 118 (.bin .add t115 t117),
 o 119 (.nilck t112),
 o 120 (.faddr 1 t119),
 v (.store 1 t120 t118)]
def f312_37:List AI:=[o 121 (.mov t11),
 o 8 (.mov t121)]
def f312_38:AC:=.seq (.reg f312_37) .ret
def f312_39:AC:=.seq (.reg f312_36) f312_38
def f312_40:AC:=.seq (.dreg f312_35) f312_39
def f312_41:AC:=.seq f312_34 f312_40
def f312_42:AC:=.seq (.reg f312_16) f312_41
def f312_43:AC:=.seq f312_15 f312_42
def f312_44:AC:=.seq (.reg f312_11) f312_43
def f312_45:AC:=.seq (.dreg f312_10) f312_44
def f312_46:AC:=.seq (.reg f312_9) f312_45
def f312_47:AC:=.seq (.reg f312_8) f312_46
def f312_48:AC:=.seq f312_7 f312_47
def f312_49:AC:=.seq (.reg f312_0) f312_48
def f312B:AC:=f312_49
def f312:AF:=⟨4,122,[(.t 8)],f312B⟩
def f314_0:List AI:=[o 4 (.mov kP),
 o 5 (.mov (z 0))]
def f314_1:List AI:=[o 7 (.mov t0),
 o 8 (.eqv .ptr false t7 kP),
 o 6 (.mov t8)]
def f314_2:List AI:=[o 4 (.mov kP),
 o 5 (.mov (z 1))]
def f314_3:AC:=.seq (.reg f314_2) .ret
def f314_4:List AI:=[o 10 (.mov t1),
 o 11 (.bin .lss t10 (z 0)),
 o 12 (.mov t11),
 ⟨some 13,.mov t1,some (12,false)⟩,
 ⟨some 14,.mov t0,some (12,false)⟩,
 ⟨some 15,.nilck t14,some (12,false)⟩,
 ⟨some 16,.faddr 0 t15,some (12,false)⟩,
 ⟨some 17,.load false 1 t16,some (12,false)⟩,
 ⟨some 18,.len .slc t17,some (12,false)⟩,
 ⟨some 19,.bin .geq t13 t18,some (12,false)⟩,
 o 20 (.pick t12 kT t19),
 o 9 (.mov t20)]
def f314_5:List AI:=[o 4 (.mov kP),
 o 5 (.mov (z 2))]
def f314_6:AC:=.seq (.reg f314_5) .ret
def f314_7:AC:=.cond t9 f314_6 .skip
def f314_8:AC:=.seq (.reg f314_4) f314_7
def f314_9:AC:=.cond t6 f314_3 f314_8
def f314_10:AC:=.seq (.reg f314_1) f314_9
def f314_11:AC:=.block 0 f314_10
def f314_12:List AI:=[o 21 (.mov t0),
 o 22 (.nilck t21),
 o 23 (.faddr 0 t22),
 o 24 (.load false 1 t23),
 o 25 (.mov t1),
 o 26 (.iaddr 3 t24 t25),
 o 4 (.mov t26),
 o 5 (.mov (z 0))]
def f314_13:AC:=.seq (.reg f314_12) .ret
def f314_14:AC:=.seq f314_11 f314_13
def f314_15:AC:=.seq (.reg f314_0) f314_14
def f314B:AC:=f314_15
def f314:AF:=⟨2,27,[(.t 4),(.t 5)],f314B⟩
def f316_0:List AI:=[o 4 (.mov (z 0)),
 o 5 (.mov kF)]
def f316_1:List AI:=[o 6 (.mov t0),
 o 7 (.nilck t6),
 o 8 (.faddr 0 t7),
 o 9 (.load false 1 t8),
 o 10 (.mov t1),
 o 11 (.call (g 334) [t9,t10,(g 335)]),
 o 12 (.ext t11 0),
 o 13 (.ext t11 1),
 o 4 (.mov t12),
 o 5 (.mov t13)]
def f316_2:AC:=.seq (.reg f316_1) .ret
def f316_3:AC:=.seq (.reg f316_0) f316_2
def f316B:AC:=f316_3
def f316:AF:=⟨2,14,[(.t 4),(.t 5)],f316B⟩
def f318_0:List AI:=[o 2 (.mov (z 0))]
def f318_1:List AI:=[o 4 (.mov t0),
 o 5 (.call (g 336) [t4,(g 337)]),
 o 3 (.mov t5)]
def f318_2:List AI:=[o 6 (.mov t3),
 o 7 (.bin .lss t6 (z 0))]
def f318_3:List AI:=[o 2 (.mov (z 0))]
def f318_4:AC:=.seq (.reg f318_3) .ret
def f318_5:AC:=.cond t7 f318_4 .skip
def f318_6:AC:=.seq (.reg f318_2) f318_5
def f318_7:List AI:=[o 8 (.mov t0),
 o 9 (.mov t3),
 o 10 (.iaddr 2 t8 t9),
 o 11 (.load true 2 t10),
 o 12 (.call (g 298) [t11]),
 o 2 (.mov t12)]
def f318_8:AC:=.seq (.reg f318_7) .ret
def f318_9:AC:=.seq f318_6 f318_8
def f318_10:AC:=.seq (.reg f318_1) f318_9
def f318_11:AC:=.seq (.reg f318_0) f318_10
def f318B:AC:=f318_11
def f318:AF:=⟨1,13,[(.t 2)],f318B⟩
def f319_0:List AI:=[o 4 (.mov kN)]
def f319_1:List AI:=[o 6 (.mov t0),
 o 7 (.call (g 338) [t6]),
 o 5 (.mov t7)]
def f319_2:List AI:=[o 8 (.mov t5),
 o 9 (.mov t1),
 o 10 (.call (g 339) [t8,t9])]
def f319_3:List AI:=[o 11 (.mov t5),
 o 4 (.mov t11)]
def f319_4:AC:=.seq (.reg f319_3) .ret
def f319_5:AC:=.seq (.reg f319_2) f319_4
def f319_6:AC:=.seq (.reg f319_1) f319_5
def f319_7:AC:=.seq (.reg f319_0) f319_6
def f319B:AC:=f319_7
def f319:AF:=⟨2,12,[(.t 4)],f319B⟩
def f320_0:List AI:=[o 1 (.box t0),
 o 2 (.mov (.c (.one .nilf)))]
def f320_1:List AI:=[o 3 (.mkfn 340 [t1]),
 o 2 (.mov t3)]
def f320_2:AC:=.seq (.reg f320_1) .ret
def f320_3:AC:=.seq (.reg f320_0) f320_2
def f320B:AC:=f320_3
def f320:AF:=⟨1,4,[(.t 2)],f320B⟩
def f321_0:List AI:=[o 2 (.box t0),
 o 3 (.box t1),
 o 4 (.mov (z 0))]
def f321_1:List AI:=[o 5 (.faddr 0 t2),
 o 6 (.load false 1 t5),
 o 7 (.faddr 0 t3),
 o 8 (.load false 1 t7),
 o 9 (.call (g 252) [t6,t8]),
 o 4 (.mov t9)]
def f321_2:AC:=.seq (.reg f321_1) .ret
def f321_3:AC:=.seq (.reg f321_0) f321_2
def f321B:AC:=f321_3
def f321:AF:=⟨2,10,[(.t 4)],f321B⟩
def f329_0:List AI:=[o 6 (.mov kN)]
def f329_1:List AI:=[o 12 (.mov t1),
 o 13 (.len .slc t12),
 o 14 (.mov t2),
 o 15 (.bin .add t14 (z 1)),
 o 16 (.bin .gtr t13 t15)]
def f329_2:AC:=.cond t16 .skip (.exit 0)
def f329_3:AC:=.seq (.reg f329_1) f329_2
def f329_4:List AI:=[o 17 (.mov t1),
 o 18 (.mov t1),
 o 19 (.len .slc t18),
 o 20 (.bin .sub t19 (z 1)),
 o 21 (.iaddr 1 t17 t20),
 o 22 (.load false 1 t21),
 o 7 (.mov t22)]
def f329_5:List AI:=[o 23 (.mov t1),
 o 24 (.mov t1),
 o 25 (.len .slc t24),
 o 26 (.bin .sub t25 (z 1)),
 o 27 (.slice .slc 1 t23 none (some t26) none),
 o 1 (.mov t27)]
def f329_6:List AI:=[o 28 (.mov t0),
 o 29 (.nilck t28),
 o 30 (.faddr 0 t29),
 o 31 (.load false 1 t30),
 o 32 (.mov t1),
 o 33 (.mov t1),
 o 34 (.len .slc t33),
 o 35 (.bin .sub t34 (z 1)),
 o 36 (.iaddr 1 t32 t35),
 o 37 (.load false 1 t36),
 o 38 (.iaddr 3 t31 t37),
 o 8 (.mov t38)]
def f329_7:List AI:=[o 39 (.mov t0),
 o 40 (.nilck t39),
 o 41 (.faddr 0 t40),
 o 42 (.load false 1 t41),
 o 43 (.mov t7),
 o 44 (.iaddr 3 t42 t43),
 o 45 (.load true 3 t44),
 o 46 (.call (g 346) [t45]),
 o 9 (.mov t46)]
def f329_8:List AI:=[o 48 (.mov t0),
 o 49 (.nilck t48),
 o 50 (.faddr 1 t49),
 o 51 (.load false 1 t50),
 o 52 (.mov t9),
 o 53 (.lookup .str (.int .i64 0) t51 t52 true),
 o 47 (.mov t53),
 o 54 (.ext t47 0),
 o 55 (.ext t47 1),
 o 10 (.mov t54),
 o 11 (.mov t55)]
def f329_9:List AI:=[o 56 (.mov t11)]
def f329_10:List AI:=[o 57 (.mov t8),
 o 58 (.nilck t57),
 o 59 (.faddr 0 t58),
 o 60 (.load false 1 t59),
 o 61 (.mov t8),
 o 62 (.nilck t61),
 o 63 (.faddr 0 t62),
 o 64 (.load false 1 t63),
 o 65 (.len .slc t64),
 o 66 (.bin .sub t65 (z 1)),
 o 67 (.mov t10),
 o 68 (.iaddr 2 t60 t66),
 o 69 (.faddr 1 t68),
 v (.store 1 t69 t67)]
def f329_11:AC:=.seq (.dreg f329_10) (.exit 1)
def f329_12:AC:=.cond t56 f329_11 .skip
def f329_13:AC:=.seq (.reg f329_9) f329_12
def f329_14:AC:=.seq (.reg f329_8) f329_13
def f329_15:List AI:=[o 70 (.mov t0),
 o 71 (.nilck t70),
 o 72 (.faddr 1 t71),
 o 73 (.load false 1 t72),
 o 74 (.mov t9),
 o 75 (.mov t7),
 v (.mapset .str t73 t74 t75)]
def f329_16:AC:=.seq f329_14 (.reg f329_15)
def f329_17:AC:=.seq (.reg f329_7) f329_16
def f329_18:AC:=.seq (.dreg f329_6) f329_17
def f329_19:AC:=.seq (.reg f329_5) f329_18
def f329_20:AC:=.seq (.reg f329_4) f329_19
def f329_21:AC:=.block 1 f329_20
def f329_22:AC:=.seq f329_3 f329_21
def f329_23:AC:=.loop f329_22
def f329_24:AC:=.block 0 f329_23
def f329_25:List AI:=[o 76 (.mov t1),
 o 6 (.mov t76)]
def f329_26:AC:=.seq (.reg f329_25) .ret
def f329_27:AC:=.seq f329_24 f329_26
def f329_28:AC:=.seq .skip f329_27
def f329_29:AC:=.seq .skip f329_28
def f329_30:AC:=.seq (.reg f329_0) f329_29
def f329B:AC:=f329_30
def f329:AF:=⟨3,77,[(.t 6)],f329B⟩
def f330_0:List AI:=[o 4 (.mov (z 0))]
def f330_1:List AI:=[o 5 (.mov t4),
 o 6 (.mov t0),
 o 7 (.len .slc t6),
 o 8 (.bin .lss t5 t7),
 o 9 (.mov t8),
 ⟨some 10,.mov t4,some (9,true)⟩,
 ⟨some 11,.mov t1,some (9,true)⟩,
 ⟨some 12,.len .slc t11,some (9,true)⟩,
 ⟨some 13,.bin .lss t10 t12,some (9,true)⟩,
 o 14 (.pick t9 t13 kF),
 o 15 (.mov t14),
 ⟨some 16,.mov t0,some (15,true)⟩,
 ⟨some 17,.mov t4,some (15,true)⟩,
 ⟨some 18,.iaddr 1 t16 t17,some (15,true)⟩,
 ⟨some 19,.load false 1 t18,some (15,true)⟩,
 ⟨some 20,.mov t1,some (15,true)⟩,
 ⟨some 21,.mov t4,some (15,true)⟩,
 ⟨some 22,.iaddr 1 t20 t21,some (15,true)⟩,
 ⟨some 23,.load false 1 t22,some (15,true)⟩,
 ⟨some 24,.bin .eql t19 t23,some (15,true)⟩,
 o 25 (.pick t15 t24 kF)]
def f330_2:AC:=.cond t25 .skip (.exit 0)
def f330_3:AC:=.seq (.dreg f330_1) f330_2
def f330_4:List AI:=[o 26 (.mov t4),
 o 27 (.bin .add t26 (z 1)),
 o 4 (.mov t27)]
def f330_5:AC:=.block 1 (.reg f330_4)
def f330_6:AC:=.seq f330_3 f330_5
def f330_7:AC:=.loop f330_6
def f330_8:AC:=.block 0 f330_7
def f330_9:List AI:=[o 28 (.mov t4),
 o 4 (.mov t28)]
def f330_10:AC:=.seq (.reg f330_9) .ret
def f330_11:AC:=.seq f330_8 f330_10
def f330_12:AC:=.seq (.reg f330_0) f330_11
def f330B:AC:=f330_12
def f330:AF:=⟨2,29,[(.t 4)],f330B⟩
def f334_0:List AI:=[o 6 (.mov (z 0)),
 o 7 (.mov kF)]
def f334_1:List AI:=[o 12 (.mov t0),
 o 13 (.len .slc t12),
 o 8 (.mov t13)]
def f334_2:List AI:=[o 14 (.mov t8),
 o 9 (.mov (z 0)),
 o 10 (.mov t14)]
def f334_3:List AI:=[o 15 (.mov t9),
 o 16 (.mov t10),
 o 17 (.bin .lss t15 t16)]
def f334_4:AC:=.cond t17 .skip (.exit 0)
def f334_5:AC:=.seq (.reg f334_3) f334_4
def f334_6:List AI:=[o 18 (.mov t9),
 o 19 (.mov t10),
 o 20 (.bin .add t18 t19),
 o 21 (.wrapI .u64 t20),
 o 22 (.bin .shr t21 (.c (.one (.int .u64 1)))),
 o 23 (.wrapI .i64 t22),
 o 11 (.mov t23)]
def f334_7:List AI:=[o 24 (.mov t2),
 o 25 (.mov t0),
 o 26 (.mov t11),
 o 27 (.iaddr 2 t25 t26),
 o 28 (.load true 2 t27),
 o 29 (.mov t1),
 o 30 (.call t24 [t28,t29]),
 o 31 (.bin .lss t30 (z 0))]
def f334_8:List AI:=[o 32 (.mov t11),
 o 33 (.bin .add t32 (z 1)),
 o 9 (.mov t33)]
def f334_9:List AI:=[o 34 (.mov t11),
 o 10 (.mov t34)]
def f334_10:AC:=.cond t31 (.reg f334_8) (.reg f334_9)
def f334_11:AC:=.seq (.reg f334_7) f334_10
def f334_12:AC:=.seq (.reg f334_6) f334_11
def f334_13:AC:=.block 1 f334_12
def f334_14:AC:=.seq f334_5 f334_13
def f334_15:AC:=.loop f334_14
def f334_16:AC:=.block 0 f334_15
def f334_17:List AI:=[o 35 (.mov t9),
 o 36 (.mov t9),
 o 37 (.mov t8),
 o 38 (.bin .lss t36 t37),
 o 39 (.mov t38),
 ⟨some 40,.mov t2,some (39,true)⟩,
 ⟨some 41,.mov t0,some (39,true)⟩,
 ⟨some 42,.mov t9,some (39,true)⟩,
 ⟨some 43,.iaddr 2 t41 t42,some (39,true)⟩,
 ⟨some 44,.load true 2 t43,some (39,true)⟩,
 ⟨some 45,.mov t1,some (39,true)⟩,
 ⟨some 46,.call t40 [t44,t45],some (39,true)⟩,
 ⟨some 47,.bin .eql t46 (z 0),some (39,true)⟩,
 o 48 (.pick t39 t47 kF),
 o 6 (.mov t35),
 o 7 (.mov t48)]
def f334_18:AC:=.seq (.reg f334_17) .ret
def f334_19:AC:=.seq f334_16 f334_18
def f334_20:AC:=.seq (.reg f334_2) f334_19
def f334_21:AC:=.seq (.reg f334_1) f334_20
def f334_22:AC:=.seq (.reg f334_0) f334_21
def f334B:AC:=f334_22
def f334:AF:=⟨3,49,[(.t 6),(.t 7)],f334B⟩
def f335_0:List AI:=[o 2 (.box t0),
 o 4 (.mov (z 0))]
def f335_1:List AI:=[o 5 (.faddr 0 t2),
 o 6 (.load false 1 t5),
 o 7 (.wrapI .i64 t6),
 o 8 (.mov t1),
 o 9 (.wrapI .i64 t8),
 o 10 (.bin .sub t7 t9),
 o 4 (.mov t10)]
def f335_2:AC:=.seq (.reg f335_1) .ret
def f335_3:AC:=.seq (.reg f335_0) f335_2
def f335B:AC:=f335_3
def f335:AF:=⟨2,11,[(.t 4)],f335B⟩
def f336_0:List AI:=[o 4 (.mov (z 0))]
def f336_1:List AI:=[o 6 (.mov t0),
 o 7 (.len .slc t6),
 o 8 (.mov (z 0))]
def f336_2:List AI:=[o 9 (.bin .lss t8 t7)]
def f336_3:AC:=.cond t9 .skip (.exit 0)
def f336_4:List AI:=[o 10 (.mov t8),
 o 5 (.mov t10)]
def f336_5:List AI:=[o 11 (.mov t1),
 o 12 (.mov t0),
 o 13 (.mov t5),
 o 14 (.iaddr 2 t12 t13),
 o 15 (.load true 2 t14),
 o 16 (.call t11 [t15])]
def f336_6:List AI:=[o 17 (.mov t5),
 o 4 (.mov t17)]
def f336_7:AC:=.seq (.reg f336_6) .ret
def f336_8:AC:=.cond t16 f336_7 .skip
def f336_9:AC:=.seq (.reg f336_5) f336_8
def f336_10:AC:=.seq (.reg f336_4) f336_9
def f336_11:AC:=.block 1 f336_10
def f336_12:List AI:=[o 18 (.bin .add t8 (z 1)),
 o 8 (.mov t18)]
def f336_13:AC:=.seq f336_11 (.reg f336_12)
def f336_14:AC:=.seq f336_3 f336_13
def f336_15:AC:=.seq (.reg f336_2) f336_14
def f336_16:AC:=.loop f336_15
def f336_17:AC:=.block 0 f336_16
def f336_18:AC:=.seq (.reg f336_1) f336_17
def f336_19:List AI:=[(o 4 (.mov (.c (.one (.int .i64 (-1))))))]
def f336_20:AC:=.seq (.reg f336_19) .ret
def f336_21:AC:=.seq f336_18 f336_20
def f336_22:AC:=.seq (.reg f336_0) f336_21
def f336B:AC:=f336_22
def f336:AF:=⟨2,19,[(.t 4)],f336B⟩
def f337_0:List AI:=[o 1 (.box t0),
 o 2 (.mov kF)]
def f337_1:List AI:=[o 3 (.load true 2 t1),
 o 4 (.call (g 298) [t3]),
 o 5 (.bin .neq t4 (z 0)),
 o 2 (.mov t5)]
def f337_2:AC:=.seq (.reg f337_1) .ret
def f337_3:AC:=.seq (.reg f337_0) f337_2
def f337B:AC:=f337_3
def f337:AF:=⟨1,6,[(.t 2)],f337B⟩
def f338_0:List AI:=[o 2 (.mov kN)]
def f338_1:List AI:=[o 3 (.mov t0),
 o 4 (.call (g 347) [kN,t3]),
 o 2 (.mov t4)]
def f338_2:AC:=.seq (.reg f338_1) .ret
def f338_3:AC:=.seq (.reg f338_0) f338_2
def f338B:AC:=f338_3
def f338:AF:=⟨1,5,[(.t 2)],f338B⟩
def f339_0:List AI:=[o 4 (.mov t0),
 o 5 (.mov t0),
 o 6 (.len .slc t5),
 o 7 (.mov t1),
 o 8 (.call (g 348) [t4,t6,t7])]
def f339B:AC:=(.reg f339_0)
def f339:AF:=⟨2,9,[],f339B⟩
def f340_0:List AI:=[o 5 (.load false 1 t1),
 o 6 (.len .slc t5),
 o 7 (.mov (z 0))]
def f340_1:List AI:=[o 8 (.bin .lss t7 t6)]
def f340_2:AC:=.cond t8 .skip (.exit 0)
def f340_3:List AI:=[o 9 (.iaddr 2 t5 t7),
 o 10 (.load true 2 t9),
 o 4 (.new [(.str []),(.int .i64 0)]),
 v (.store 2 t4 t10)]
def f340_4:List AI:=[o 11 (.mov t0),
 o 12 (.load true 2 t4),
 o 13 (.call t11 [t12]),
 o 14 (.un .not t13)]
def f340_5:AC:=.cond t14 .ret .skip
def f340_6:AC:=.seq (.reg f340_4) f340_5
def f340_7:AC:=.seq (.reg f340_3) f340_6
def f340_8:AC:=.block 1 f340_7
def f340_9:List AI:=[o 15 (.bin .add t7 (z 1)),
 o 7 (.mov t15)]
def f340_10:AC:=.seq f340_8 (.reg f340_9)
def f340_11:AC:=.seq f340_2 f340_10
def f340_12:AC:=.seq (.reg f340_1) f340_11
def f340_13:AC:=.loop f340_12
def f340_14:AC:=.block 0 f340_13
def f340_15:AC:=.seq (.reg f340_0) f340_14
def f340B:AC:=f340_15
def f340:AF:=⟨2,16,[],f340B⟩
def f346_0:List AI:=[o 1 (.box t0),
 o 2 (.mov (.c (.one (.str []))))]
def f346_1:List AI:=[(o 7 (.rowLit 1 [(.int .u8 0)] 1 [(0,(.c (.one (.int .u8 45))))])),
 o 3 (.mov t7)]
def f346_2:List AI:=[o 8 (.faddr 1 t1),
 o 9 (.load false 1 t8)]
def f346_3:List AI:=[o 10 (.mov t3),
 o 11 (.iaddr 1 t10 (z 0)),
 v (.store 1 t11 (.c (.one (.int .u8 43))))]
def f346_4:AC:=.cond t9 (.reg f346_3) .skip
def f346_5:AC:=.seq (.reg f346_2) f346_4
def f346_6:List AI:=[o 12 (.faddr 0 t1),
 o 13 (.load false 1 t12),
 o 14 (.len .slc t13),
 o 15 (.mov (z 0))]
def f346_7:List AI:=[o 16 (.bin .lss t15 t14)]
def f346_8:AC:=.cond t16 .skip (.exit 0)
def f346_9:List AI:=[o 17 (.iaddr 2 t13 t15),
 o 18 (.load true 2 t17),
 o 5 (.new [(.int .i32 0),(.int .i64 0)]),
 v (.store 2 t5 t18)]
def f346_10:List AI:=[o 19 (.mov t3),
 o 20 (.faddr 0 t5),
 o 21 (.load false 1 t20),
 o 22 (.call (g 56) [t19,t21]),
 o 3 (.mov t22)]
def f346_11:List AI:=[o 23 (.faddr 1 t5),
 o 24 (.load false 1 t23),
 o 6 (.mov t24)]
def f346_12:List AI:=[o 27 (.mov t3),
 o 28 (.mov t6),
 o 29 (.bin .rem t28 (z 128)),
 o 30 (.wrapI .u8 t29),
 o 31 (.bin .or t30 (.c (.one (.int .u8 128)))),
 o 32 (.rowLit 1 [(.int .u8 0)] 1 [(0,t31)]),
 o 33 (.app 1 1 t27 t32),
 o 3 (.mov t33)]
def f346_13:List AI:=[o 34 (.mov t6),
 o 35 (.bin .lss t34 (z 128))]
def f346_14:AC:=.cond t35 (.exit 2) .skip
def f346_15:AC:=.seq (.reg f346_13) f346_14
def f346_16:AC:=.seq (.reg f346_12) f346_15
def f346_17:AC:=.block 3 f346_16
def f346_18:List AI:=[o 25 (.mov t6),
 o 26 (.bin .quo t25 (z 128)),
 o 6 (.mov t26)]
def f346_19:AC:=.seq f346_17 (.reg f346_18)
def f346_20:AC:=.loop f346_19
def f346_21:AC:=.block 2 f346_20
def f346_22:AC:=.seq (.reg f346_11) f346_21
def f346_23:List AI:=[o 36 (.mov t3),
 (o 37 (.rowLit 1 [(.int .u8 0)] 1 [(0,(.c (.one (.int .u8 0))))])),
 o 38 (.app 1 1 t36 t37),
 o 3 (.mov t38)]
def f346_24:AC:=.seq f346_22 (.reg f346_23)
def f346_25:AC:=.seq (.reg f346_10) f346_24
def f346_26:AC:=.seq (.reg f346_9) f346_25
def f346_27:AC:=.block 1 f346_26
def f346_28:List AI:=[o 39 (.bin .add t15 (z 1)),
 o 15 (.mov t39)]
def f346_29:AC:=.seq f346_27 (.reg f346_28)
def f346_30:AC:=.seq f346_8 f346_29
def f346_31:AC:=.seq (.reg f346_7) f346_30
def f346_32:AC:=.loop f346_31
def f346_33:AC:=.block 0 f346_32
def f346_34:AC:=.seq (.reg f346_6) f346_33
def f346_35:List AI:=[o 40 (.mov t3),
 o 41 (.b2s t40),
 o 2 (.mov t41)]
def f346_36:AC:=.seq (.reg f346_35) .ret
def f346_37:AC:=.seq f346_34 f346_36
def f346_38:AC:=.seq f346_5 f346_37
def f346_39:AC:=.seq (.reg f346_1) f346_38
def f346_40:AC:=.seq (.reg f346_0) f346_39
def f346B:AC:=f346_40
def f346:AF:=⟨1,42,[(.t 2)],f346B⟩
def f347_0:List AI:=[o 2 (.box t0),
 o 4 (.mov kN)]
def f347_1:List AI:=[o 6 (.mov t1)]
def f347_2:List AI:=[o 5 (.new [(.str []),(.int .i64 0)]),
 v (.store 2 t5 t7)]
def f347_3:List AI:=[o 8 (.load false 1 t2),
 o 9 (.load true 2 t5),
 o 10 (.rowLit 2 [(.str []),(.int .i64 0)] 1 [(0,t9)]),
 o 11 (.app 2 24 t8 t10),
 v (.store 1 t2 t11)]
def f347_4:AC:=.block 1 (.reg f347_3)
def f347_5:AC:=.rangeF t6 [7] (.reg f347_2) f347_4
def f347_6:AC:=.block 0 f347_5
def f347_7:AC:=.seq (.reg f347_1) f347_6
def f347_8:List AI:=[o 12 (.load false 1 t2),
 o 4 (.mov t12)]
def f347_9:AC:=.seq (.reg f347_8) .ret
def f347_10:AC:=.seq f347_7 f347_9
def f347_11:AC:=.seq (.reg f347_0) f347_10
def f347B:AC:=f347_11
def f347:AF:=⟨2,13,[(.t 4)],f347B⟩
def f348_0:List AI:=[o 6 (.mov (z 20))]
def f348_1:List AI:=[o 10 (.mov t6),
 o 7 (.mov (z 0)),
 o 8 (.mov t10)]
def f348_2:List AI:=[o 11 (.mov t8),
 o 12 (.mov t1),
 o 13 (.bin .leq t11 t12)]
def f348_3:AC:=.cond t13 .skip (.exit 0)
def f348_4:AC:=.seq (.reg f348_2) f348_3
def f348_5:List AI:=[o 14 (.mov t0),
 o 15 (.mov t7),
 o 16 (.mov t8),
 o 17 (.mov t2),
 o 18 (.call (g 351) [t14,t15,t16,t17])]
def f348_6:List AI:=[o 19 (.mov t8),
 o 7 (.mov t19)]
def f348_7:List AI:=[o 20 (.mov t8),
 o 21 (.mov t6),
 o 22 (.bin .add t20 t21),
 o 8 (.mov t22)]
def f348_8:AC:=.seq (.reg f348_6) (.reg f348_7)
def f348_9:AC:=.seq (.reg f348_5) f348_8
def f348_10:AC:=.block 1 f348_9
def f348_11:AC:=.seq f348_4 f348_10
def f348_12:AC:=.loop f348_11
def f348_13:AC:=.block 0 f348_12
def f348_14:List AI:=[o 23 (.mov t0),
 o 24 (.mov t7),
 o 25 (.mov t1),
 o 26 (.mov t2),
 o 27 (.call (g 351) [t23,t24,t25,t26])]
def f348_15:List AI:=[o 28 (.mov t6),
 o 29 (.mov t1),
 o 30 (.bin .lss t28 t29)]
def f348_16:AC:=.cond t30 .skip (.exit 2)
def f348_17:AC:=.seq (.reg f348_15) f348_16
def f348_18:List AI:=[o 31 (.mov t6),
 o 32 (.bin .mul (z 2) t31),
 o 7 (.mov (z 0)),
 o 8 (.mov t32)]
def f348_19:List AI:=[o 33 (.mov t8),
 o 34 (.mov t1),
 o 35 (.bin .leq t33 t34)]
def f348_20:AC:=.cond t35 .skip (.exit 4)
def f348_21:AC:=.seq (.reg f348_19) f348_20
def f348_22:List AI:=[o 36 (.mov t0),
 o 37 (.mov t7),
 o 38 (.mov t7),
 o 39 (.mov t6),
 o 40 (.bin .add t38 t39),
 o 41 (.mov t8),
 o 42 (.mov t2),
 o 43 (.call (g 352) [t36,t37,t40,t41,t42])]
def f348_23:List AI:=[o 44 (.mov t8),
 o 7 (.mov t44)]
def f348_24:List AI:=[o 45 (.mov t8),
 o 46 (.mov t6),
 o 47 (.bin .mul (z 2) t46),
 o 48 (.bin .add t45 t47),
 o 8 (.mov t48)]
def f348_25:AC:=.seq (.reg f348_23) (.reg f348_24)
def f348_26:AC:=.seq (.reg f348_22) f348_25
def f348_27:AC:=.block 5 f348_26
def f348_28:AC:=.seq f348_21 f348_27
def f348_29:AC:=.loop f348_28
def f348_30:AC:=.block 4 f348_29
def f348_31:List AI:=[o 49 (.mov t7),
 o 50 (.mov t6),
 o 51 (.bin .add t49 t50),
 o 9 (.mov t51)]
def f348_32:List AI:=[o 52 (.mov t9),
 o 53 (.mov t1),
 o 54 (.bin .lss t52 t53)]
def f348_33:List AI:=[o 55 (.mov t0),
 o 56 (.mov t7),
 o 57 (.mov t9),
 o 58 (.mov t1),
 o 59 (.mov t2),
 o 60 (.call (g 352) [t55,t56,t57,t58,t59])]
def f348_34:AC:=.cond t54 (.reg f348_33) .skip
def f348_35:AC:=.seq (.reg f348_32) f348_34
def f348_36:AC:=.seq (.reg f348_31) f348_35
def f348_37:List AI:=[o 61 (.mov t6),
 o 62 (.bin .mul t61 (z 2)),
 o 6 (.mov t62)]
def f348_38:AC:=.seq f348_36 (.reg f348_37)
def f348_39:AC:=.seq f348_30 f348_38
def f348_40:AC:=.seq (.reg f348_18) f348_39
def f348_41:AC:=.block 3 f348_40
def f348_42:AC:=.seq f348_17 f348_41
def f348_43:AC:=.loop f348_42
def f348_44:AC:=.block 2 f348_43
def f348_45:AC:=.seq (.reg f348_14) f348_44
def f348_46:AC:=.seq f348_13 f348_45
def f348_47:AC:=.seq (.reg f348_1) f348_46
def f348_48:AC:=.seq (.reg f348_0) f348_47
def f348B:AC:=f348_48
def f348:AF:=⟨3,63,[],f348B⟩
def f351_0:List AI:=[o 10 (.mov t1),
 o 11 (.bin .add t10 (z 1)),
 o 8 (.mov t11)]
def f351_1:List AI:=[o 12 (.mov t8),
 o 13 (.mov t2),
 o 14 (.bin .lss t12 t13)]
def f351_2:AC:=.cond t14 .skip (.exit 0)
def f351_3:AC:=.seq (.reg f351_1) f351_2
def f351_4:List AI:=[o 17 (.mov t8),
 o 9 (.mov t17)]
def f351_5:List AI:=[o 18 (.mov t9),
 o 19 (.mov t1),
 o 20 (.bin .gtr t18 t19),
 o 21 (.mov t20),
 ⟨some 22,.mov t3,some (21,true)⟩,
 ⟨some 23,.mov t0,some (21,true)⟩,
 ⟨some 24,.mov t9,some (21,true)⟩,
 ⟨some 25,.iaddr 2 t23 t24,some (21,true)⟩,
 ⟨some 26,.load true 2 t25,some (21,true)⟩,
 ⟨some 27,.mov t0,some (21,true)⟩,
 ⟨some 28,.mov t9,some (21,true)⟩,
 ⟨some 29,.bin .sub t28 (z 1),some (21,true)⟩,
 ⟨some 30,.iaddr 2 t27 t29,some (21,true)⟩,
 ⟨some 31,.load true 2 t30,some (21,true)⟩,
 ⟨some 32,.call t22 [t26,t31],some (21,true)⟩,
 ⟨some 33,.bin .lss t32 (z 0),some (21,true)⟩,
 o 34 (.pick t21 t33 kF)]
def f351_6:AC:=.cond t34 .skip (.exit 2)
def f351_7:AC:=.seq (.dreg f351_5) f351_6
def f351_8:List AI:=[o 37 (.mov t0),
 o 38 (.mov t9),
 o 39 (.mov t0),
 o 40 (.mov t9),
 o 41 (.bin .sub t40 (z 1)),
 o 42 (.mov t0),
 o 43 (.mov t9),
 o 44 (.bin .sub t43 (z 1)),
 o 45 (.iaddr 2 t42 t44),
 o 46 (.load true 2 t45),
 o 47 (.mov t0),
 o 48 (.mov t9),
 o 49 (.iaddr 2 t47 t48),
 o 50 (.load true 2 t49),
 o 51 (.iaddr 2 t37 t38),
 v (.store 2 t51 t46),
 o 52 (.iaddr 2 t39 t41),
 v (.store 2 t52 t50)]
def f351_9:AC:=.block 3 (.dreg f351_8)
def f351_10:List AI:=[o 35 (.mov t9),
 o 36 (.bin .sub t35 (z 1)),
 o 9 (.mov t36)]
def f351_11:AC:=.seq f351_9 (.reg f351_10)
def f351_12:AC:=.seq f351_7 f351_11
def f351_13:AC:=.loop f351_12
def f351_14:AC:=.block 2 f351_13
def f351_15:AC:=.seq (.reg f351_4) f351_14
def f351_16:AC:=.block 1 f351_15
def f351_17:List AI:=[o 15 (.mov t8),
 o 16 (.bin .add t15 (z 1)),
 o 8 (.mov t16)]
def f351_18:AC:=.seq f351_16 (.reg f351_17)
def f351_19:AC:=.seq f351_3 f351_18
def f351_20:AC:=.loop f351_19
def f351_21:AC:=.block 0 f351_20
def f351_22:AC:=.seq (.reg f351_0) f351_21
def f351B:AC:=f351_22
def f351:AF:=⟨4,53,[],f351B⟩
def f352_0:List AI:=[o 25 (.mov t2),
 o 26 (.mov t1),
 o 27 (.bin .sub t25 t26),
 o 28 (.bin .eql t27 (z 1))]
def f352_1:List AI:=[o 29 (.mov t2),
 o 10 (.mov t29)]
def f352_2:List AI:=[o 30 (.mov t3),
 o 11 (.mov t30)]
def f352_3:List AI:=[o 31 (.mov t10),
 o 32 (.mov t11),
 o 33 (.bin .lss t31 t32)]
def f352_4:AC:=.cond t33 .skip (.exit 0)
def f352_5:AC:=.seq (.reg f352_3) f352_4
def f352_6:List AI:=[o 34 (.mov t10),
 o 35 (.mov t11),
 o 36 (.bin .add t34 t35),
 o 37 (.wrapI .u64 t36),
 o 38 (.bin .shr t37 (.c (.one (.int .u64 1)))),
 o 39 (.wrapI .i64 t38),
 o 12 (.mov t39)]
def f352_7:List AI:=[o 40 (.mov t4),
 o 41 (.mov t0),
 o 42 (.mov t12),
 o 43 (.iaddr 2 t41 t42),
 o 44 (.load true 2 t43),
 o 45 (.mov t0),
 o 46 (.mov t1),
 o 47 (.iaddr 2 t45 t46),
 o 48 (.load true 2 t47),
 o 49 (.call t40 [t44,t48]),
 o 50 (.bin .lss t49 (z 0))]
def f352_8:List AI:=[o 51 (.mov t12),
 o 52 (.bin .add t51 (z 1)),
 o 10 (.mov t52)]
def f352_9:List AI:=[o 53 (.mov t12),
 o 11 (.mov t53)]
def f352_10:AC:=.cond t50 (.reg f352_8) (.reg f352_9)
def f352_11:AC:=.seq (.dreg f352_7) f352_10
def f352_12:AC:=.seq (.reg f352_6) f352_11
def f352_13:AC:=.block 1 f352_12
def f352_14:AC:=.seq f352_5 f352_13
def f352_15:AC:=.loop f352_14
def f352_16:AC:=.block 0 f352_15
def f352_17:List AI:=[o 54 (.mov t1),
 o 13 (.mov t54)]
def f352_18:List AI:=[o 55 (.mov t13),
 o 56 (.mov t10),
 o 57 (.bin .sub t56 (z 1)),
 o 58 (.bin .lss t55 t57)]
def f352_19:AC:=.cond t58 .skip (.exit 2)
def f352_20:AC:=.seq (.reg f352_18) f352_19
def f352_21:List AI:=[o 61 (.mov t0),
 o 62 (.mov t13),
 o 63 (.mov t0),
 o 64 (.mov t13),
 o 65 (.bin .add t64 (z 1)),
 o 66 (.mov t0),
 o 67 (.mov t13),
 o 68 (.bin .add t67 (z 1)),
 o 69 (.iaddr 2 t66 t68),
 o 70 (.load true 2 t69),
 o 71 (.mov t0),
 o 72 (.mov t13),
 o 73 (.iaddr 2 t71 t72),
 o 74 (.load true 2 t73),
 o 75 (.iaddr 2 t61 t62),
 v (.store 2 t75 t70),
 o 76 (.iaddr 2 t63 t65),
 v (.store 2 t76 t74)]
def f352_22:AC:=.block 3 (.dreg f352_21)
def f352_23:List AI:=[o 59 (.mov t13),
 o 60 (.bin .add t59 (z 1)),
 o 13 (.mov t60)]
def f352_24:AC:=.seq f352_22 (.reg f352_23)
def f352_25:AC:=.seq f352_20 f352_24
def f352_26:AC:=.loop f352_25
def f352_27:AC:=.block 2 f352_26
def f352_28:AC:=.seq (.reg f352_17) f352_27
def f352_29:AC:=.seq f352_28 .ret
def f352_30:AC:=.seq f352_16 f352_29
def f352_31:AC:=.seq (.reg f352_2) f352_30
def f352_32:AC:=.seq (.reg f352_1) f352_31
def f352_33:AC:=.cond t28 f352_32 .skip
def f352_34:AC:=.seq (.reg f352_0) f352_33
def f352_35:List AI:=[o 77 (.mov t3),
 o 78 (.mov t2),
 o 79 (.bin .sub t77 t78),
 o 80 (.bin .eql t79 (z 1))]
def f352_36:List AI:=[o 81 (.mov t1),
 o 14 (.mov t81)]
def f352_37:List AI:=[o 82 (.mov t2),
 o 15 (.mov t82)]
def f352_38:List AI:=[o 83 (.mov t14),
 o 84 (.mov t15),
 o 85 (.bin .lss t83 t84)]
def f352_39:AC:=.cond t85 .skip (.exit 4)
def f352_40:AC:=.seq (.reg f352_38) f352_39
def f352_41:List AI:=[o 86 (.mov t14),
 o 87 (.mov t15),
 o 88 (.bin .add t86 t87),
 o 89 (.wrapI .u64 t88),
 o 90 (.bin .shr t89 (.c (.one (.int .u64 1)))),
 o 91 (.wrapI .i64 t90),
 o 16 (.mov t91)]
def f352_42:List AI:=[o 92 (.mov t4),
 o 93 (.mov t0),
 o 94 (.mov t2),
 o 95 (.iaddr 2 t93 t94),
 o 96 (.load true 2 t95),
 o 97 (.mov t0),
 o 98 (.mov t16),
 o 99 (.iaddr 2 t97 t98),
 o 100 (.load true 2 t99),
 o 101 (.call t92 [t96,t100]),
 o 102 (.bin .lss t101 (z 0)),
 o 103 (.un .not t102)]
def f352_43:List AI:=[o 104 (.mov t16),
 o 105 (.bin .add t104 (z 1)),
 o 14 (.mov t105)]
def f352_44:List AI:=[o 106 (.mov t16),
 o 15 (.mov t106)]
def f352_45:AC:=.cond t103 (.reg f352_43) (.reg f352_44)
def f352_46:AC:=.seq (.dreg f352_42) f352_45
def f352_47:AC:=.seq (.reg f352_41) f352_46
def f352_48:AC:=.block 5 f352_47
def f352_49:AC:=.seq f352_40 f352_48
def f352_50:AC:=.loop f352_49
def f352_51:AC:=.block 4 f352_50
def f352_52:List AI:=[o 107 (.mov t2),
 o 17 (.mov t107)]
def f352_53:List AI:=[o 108 (.mov t17),
 o 109 (.mov t14),
 o 110 (.bin .gtr t108 t109)]
def f352_54:AC:=.cond t110 .skip (.exit 6)
def f352_55:AC:=.seq (.reg f352_53) f352_54
def f352_56:List AI:=[o 113 (.mov t0),
 o 114 (.mov t17),
 o 115 (.mov t0),
 o 116 (.mov t17),
 o 117 (.bin .sub t116 (z 1)),
 o 118 (.mov t0),
 o 119 (.mov t17),
 o 120 (.bin .sub t119 (z 1)),
 o 121 (.iaddr 2 t118 t120),
 o 122 (.load true 2 t121),
 o 123 (.mov t0),
 o 124 (.mov t17),
 o 125 (.iaddr 2 t123 t124),
 o 126 (.load true 2 t125),
 o 127 (.iaddr 2 t113 t114),
 v (.store 2 t127 t122),
 o 128 (.iaddr 2 t115 t117),
 v (.store 2 t128 t126)]
def f352_57:AC:=.block 7 (.dreg f352_56)
def f352_58:List AI:=[o 111 (.mov t17),
 o 112 (.bin .sub t111 (z 1)),
 o 17 (.mov t112)]
def f352_59:AC:=.seq f352_57 (.reg f352_58)
def f352_60:AC:=.seq f352_55 f352_59
def f352_61:AC:=.loop f352_60
def f352_62:AC:=.block 6 f352_61
def f352_63:AC:=.seq (.reg f352_52) f352_62
def f352_64:AC:=.seq f352_63 .ret
def f352_65:AC:=.seq f352_51 f352_64
def f352_66:AC:=.seq (.reg f352_37) f352_65
def f352_67:AC:=.seq (.reg f352_36) f352_66
def f352_68:AC:=.cond t80 f352_67 .skip
def f352_69:AC:=.seq (.reg f352_35) f352_68
def f352_70:List AI:=[o 129 (.mov t1),
 o 130 (.mov t3),
 o 131 (.bin .add t129 t130),
 o 132 (.wrapI .u64 t131),
 o 133 (.bin .shr t132 (.c (.one (.int .u64 1)))),
 o 134 (.wrapI .i64 t133),
 o 18 (.mov t134)]
def f352_71:List AI:=[o 135 (.mov t18),
 o 136 (.mov t2),
 o 137 (.bin .add t135 t136),
 o 19 (.mov t137)]
def f352_72:List AI:=[o 20 (.mov (z 0)),
 o 21 (.mov (z 0))]
def f352_73:List AI:=[o 138 (.mov t2),
 o 139 (.mov t18),
 o 140 (.bin .gtr t138 t139)]
def f352_74:List AI:=[o 141 (.mov t19),
 o 142 (.mov t3),
 o 143 (.bin .sub t141 t142),
 o 20 (.mov t143)]
def f352_75:List AI:=[o 144 (.mov t18),
 o 21 (.mov t144)]
def f352_76:AC:=.seq (.reg f352_74) (.reg f352_75)
def f352_77:List AI:=[o 145 (.mov t1),
 o 20 (.mov t145)]
def f352_78:List AI:=[o 146 (.mov t2),
 o 21 (.mov t146)]
def f352_79:AC:=.seq (.reg f352_77) (.reg f352_78)
def f352_80:AC:=.cond t140 f352_76 f352_79
def f352_81:AC:=.seq (.reg f352_73) f352_80
def f352_82:List AI:=[o 147 (.mov t19),
 o 148 (.bin .sub t147 (z 1)),
 o 22 (.mov t148)]
def f352_83:List AI:=[o 149 (.mov t20),
 o 150 (.mov t21),
 o 151 (.bin .lss t149 t150)]
def f352_84:AC:=.cond t151 .skip (.exit 8)
def f352_85:AC:=.seq (.reg f352_83) f352_84
def f352_86:List AI:=[o 152 (.mov t20),
 o 153 (.mov t21),
 o 154 (.bin .add t152 t153),
 o 155 (.wrapI .u64 t154),
 o 156 (.bin .shr t155 (.c (.one (.int .u64 1)))),
 o 157 (.wrapI .i64 t156),
 o 23 (.mov t157)]
def f352_87:List AI:=[o 158 (.mov t4),
 o 159 (.mov t0),
 o 160 (.mov t22),
 o 161 (.mov t23),
 o 162 (.bin .sub t160 t161),
 o 163 (.iaddr 2 t159 t162),
 o 164 (.load true 2 t163),
 o 165 (.mov t0),
 o 166 (.mov t23),
 o 167 (.iaddr 2 t165 t166),
 o 168 (.load true 2 t167),
 o 169 (.call t158 [t164,t168]),
 o 170 (.bin .lss t169 (z 0)),
 o 171 (.un .not t170)]
def f352_88:List AI:=[o 172 (.mov t23),
 o 173 (.bin .add t172 (z 1)),
 o 20 (.mov t173)]
def f352_89:List AI:=[o 174 (.mov t23),
 o 21 (.mov t174)]
def f352_90:AC:=.cond t171 (.reg f352_88) (.reg f352_89)
def f352_91:AC:=.seq (.dreg f352_87) f352_90
def f352_92:AC:=.seq (.reg f352_86) f352_91
def f352_93:AC:=.block 9 f352_92
def f352_94:AC:=.seq f352_85 f352_93
def f352_95:AC:=.loop f352_94
def f352_96:AC:=.block 8 f352_95
def f352_97:List AI:=[o 175 (.mov t19),
 o 176 (.mov t20),
 o 177 (.bin .sub t175 t176),
 o 24 (.mov t177)]
def f352_98:List AI:=[o 178 (.mov t20),
 o 179 (.mov t2),
 o 180 (.bin .lss t178 t179),
 o 181 (.mov t180),
 ⟨some 182,.mov t2,some (181,true)⟩,
 ⟨some 183,.mov t24,some (181,true)⟩,
 ⟨some 184,.bin .lss t182 t183,some (181,true)⟩,
 o 185 (.pick t181 t184 kF)]
def f352_99:List AI:=[o 186 (.mov t0),
 o 187 (.mov t20),
 o 188 (.mov t2),
 o 189 (.mov t24),
 o 190 (.mov t4),
 o 191 (.call (g 362) [t186,t187,t188,t189,t190])]
def f352_100:AC:=.cond t185 (.reg f352_99) .skip
def f352_101:AC:=.seq (.reg f352_98) f352_100
def f352_102:List AI:=[o 192 (.mov t1),
 o 193 (.mov t20),
 o 194 (.bin .lss t192 t193),
 o 195 (.mov t194),
 ⟨some 196,.mov t20,some (195,true)⟩,
 ⟨some 197,.mov t18,some (195,true)⟩,
 ⟨some 198,.bin .lss t196 t197,some (195,true)⟩,
 o 199 (.pick t195 t198 kF)]
def f352_103:List AI:=[o 200 (.mov t0),
 o 201 (.mov t1),
 o 202 (.mov t20),
 o 203 (.mov t18),
 o 204 (.mov t4),
 o 205 (.call (g 352) [t200,t201,t202,t203,t204])]
def f352_104:AC:=.cond t199 (.reg f352_103) .skip
def f352_105:AC:=.seq (.reg f352_102) f352_104
def f352_106:List AI:=[o 206 (.mov t18),
 o 207 (.mov t24),
 o 208 (.bin .lss t206 t207),
 o 209 (.mov t208),
 ⟨some 210,.mov t24,some (209,true)⟩,
 ⟨some 211,.mov t3,some (209,true)⟩,
 ⟨some 212,.bin .lss t210 t211,some (209,true)⟩,
 o 213 (.pick t209 t212 kF)]
def f352_107:List AI:=[o 214 (.mov t0),
 o 215 (.mov t18),
 o 216 (.mov t24),
 o 217 (.mov t3),
 o 218 (.mov t4),
 o 219 (.call (g 352) [t214,t215,t216,t217,t218])]
def f352_108:AC:=.cond t213 (.reg f352_107) .skip
def f352_109:AC:=.seq (.reg f352_106) f352_108
def f352_110:AC:=.seq f352_105 f352_109
def f352_111:AC:=.seq f352_101 f352_110
def f352_112:AC:=.seq (.reg f352_97) f352_111
def f352_113:AC:=.seq f352_96 f352_112
def f352_114:AC:=.seq (.reg f352_82) f352_113
def f352_115:AC:=.seq f352_81 f352_114
def f352_116:AC:=.seq (.reg f352_72) f352_115
def f352_117:AC:=.seq (.reg f352_71) f352_116
def f352_118:AC:=.seq (.reg f352_70) f352_117
def f352_119:AC:=.seq f352_69 f352_118
def f352_120:AC:=.seq f352_34 f352_119
def f352B:AC:=f352_120
def f352:AF:=⟨5,220,[],f352B⟩
def f362_0:List AI:=[o 12 (.mov t2),
 o 13 (.mov t1),
 o 14 (.bin .sub t12 t13),
 o 10 (.mov t14)]
def f362_1:List AI:=[o 15 (.mov t3),
 o 16 (.mov t2),
 o 17 (.bin .sub t15 t16),
 o 11 (.mov t17)]
def f362_2:List AI:=[o 18 (.mov t10),
 o 19 (.mov t11),
 o 20 (.bin .neq t18 t19)]
def f362_3:AC:=.cond t20 .skip (.exit 0)
def f362_4:AC:=.seq (.reg f362_2) f362_3
def f362_5:List AI:=[o 21 (.mov t10),
 o 22 (.mov t11),
 o 23 (.bin .gtr t21 t22)]
def f362_6:List AI:=[o 24 (.mov t0),
 o 25 (.mov t2),
 o 26 (.mov t10),
 o 27 (.bin .sub t25 t26),
 o 28 (.mov t2),
 o 29 (.mov t11),
 o 30 (.mov t4),
 o 31 (.call (g 368) [t24,t27,t28,t29,t30])]
def f362_7:List AI:=[o 32 (.mov t10),
 o 33 (.mov t11),
 o 34 (.bin .sub t32 t33),
 o 10 (.mov t34)]
def f362_8:AC:=.seq (.reg f362_6) (.reg f362_7)
def f362_9:List AI:=[o 35 (.mov t0),
 o 36 (.mov t2),
 o 37 (.mov t10),
 o 38 (.bin .sub t36 t37),
 o 39 (.mov t2),
 o 40 (.mov t11),
 o 41 (.bin .add t39 t40),
 o 42 (.mov t10),
 o 43 (.bin .sub t41 t42),
 o 44 (.mov t10),
 o 45 (.mov t4),
 o 46 (.call (g 368) [t35,t38,t43,t44,t45])]
def f362_10:List AI:=[o 47 (.mov t11),
 o 48 (.mov t10),
 o 49 (.bin .sub t47 t48),
 o 11 (.mov t49)]
def f362_11:AC:=.seq (.reg f362_9) (.reg f362_10)
def f362_12:AC:=.cond t23 f362_8 f362_11
def f362_13:AC:=.seq (.reg f362_5) f362_12
def f362_14:AC:=.block 1 f362_13
def f362_15:AC:=.seq f362_4 f362_14
def f362_16:AC:=.loop f362_15
def f362_17:AC:=.block 0 f362_16
def f362_18:List AI:=[o 50 (.mov t0),
 o 51 (.mov t2),
 o 52 (.mov t10),
 o 53 (.bin .sub t51 t52),
 o 54 (.mov t2),
 o 55 (.mov t10),
 o 56 (.mov t4),
 o 57 (.call (g 368) [t50,t53,t54,t55,t56])]
def f362_19:AC:=.seq f362_17 (.reg f362_18)
def f362_20:AC:=.seq (.reg f362_1) f362_19
def f362_21:AC:=.seq (.reg f362_0) f362_20
def f362B:AC:=f362_21
def f362:AF:=⟨5,58,[],f362B⟩
def f368_0:List AI:=[o 10 (.mov (z 0))]
def f368_1:List AI:=[o 11 (.mov t10),
 o 12 (.mov t3),
 o 13 (.bin .lss t11 t12)]
def f368_2:AC:=.cond t13 .skip (.exit 0)
def f368_3:AC:=.seq (.reg f368_1) f368_2
def f368_4:List AI:=[o 16 (.mov t0),
 o 17 (.mov t1),
 o 18 (.mov t10),
 o 19 (.bin .add t17 t18),
 o 20 (.mov t0),
 o 21 (.mov t2),
 o 22 (.mov t10),
 o 23 (.bin .add t21 t22),
 o 24 (.mov t0),
 o 25 (.mov t2),
 o 26 (.mov t10),
 o 27 (.bin .add t25 t26),
 o 28 (.iaddr 2 t24 t27),
 o 29 (.load true 2 t28),
 o 30 (.mov t0),
 o 31 (.mov t1),
 o 32 (.mov t10),
 o 33 (.bin .add t31 t32),
 o 34 (.iaddr 2 t30 t33),
 o 35 (.load true 2 t34),
 o 36 (.iaddr 2 t16 t19),
 v (.store 2 t36 t29),
 o 37 (.iaddr 2 t20 t23),
 v (.store 2 t37 t35)]
def f368_5:AC:=.block 1 (.dreg f368_4)
def f368_6:List AI:=[o 14 (.mov t10),
 o 15 (.bin .add t14 (z 1)),
 o 10 (.mov t15)]
def f368_7:AC:=.seq f368_5 (.reg f368_6)
def f368_8:AC:=.seq f368_3 f368_7
def f368_9:AC:=.loop f368_8
def f368_10:AC:=.block 0 f368_9
def f368_11:AC:=.seq (.reg f368_0) f368_10
def f368B:AC:=f368_11
def f368:AF:=⟨5,38,[],f368B⟩
end Go.EA.F
