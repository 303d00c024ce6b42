/- Functions of the program, as abstract code (printed by a program). Conditions: none (definitions). -/
import Derived.Test.YtfkejbbajggmnaaDoorEK1
namespace Go.EA.F
def f3_0:List AI:=[⟨some 4,.mov (.c (.one (.bool false))),none⟩]
def f3_1:List AI:=[⟨some 11,.call (.c (.one (.fn 16 []))) [],none⟩,
    ⟨some 12,.un .not (.t 11),none⟩]
def f3_2:List AI:=[⟨some 4,.mov (.c (.one (.bool false))),none⟩]
def f3_3:AC:=.seq (.reg f3_2) .ret
def f3_4:AC:=.cond (.t 12) f3_3 .skip
def f3_5:AC:=.seq (.reg f3_1) f3_4
def f3_6:List AI:=[⟨some 13,.mov (.t 0),none⟩,
    ⟨some 14,.len .str (.t 13),none⟩,
    ⟨some 15,.bin .gtr (.t 14) (.c (.one (.int .i64 2000))),none⟩,
    ⟨some 16,.mov (.t 15),none⟩,
    ⟨some 17,.mov (.t 1),some (16,false)⟩,
    ⟨some 18,.len .str (.t 17),some (16,false)⟩,
    ⟨some 19,.bin .gtr (.t 18) (.c (.one (.int .i64 2000))),some (16,false)⟩,
    ⟨some 20,.pick (.t 16) (.c (.one (.bool true))) (.t 19),none⟩]
def f3_7:List AI:=[⟨some 4,.mov (.c (.one (.bool true))),none⟩]
def f3_8:AC:=.seq (.reg f3_7) .ret
def f3_9:AC:=.cond (.t 20) f3_8 .skip
def f3_10:AC:=.seq (.reg f3_6) f3_9
def f3_11:List AI:=[⟨some 22,.mov (.t 0),none⟩,
    ⟨some 23,.call (.c (.one (.fn 17 []))) [(.t 22)],none⟩,
    ⟨some 21,.mov (.t 23),none⟩,
    ⟨some 24,.ext (.t 21) 0,none⟩,
    ⟨some 25,.ext (.t 21) 1,none⟩,
    ⟨some 5,.mov (.t 24),none⟩,
    ⟨some 6,.mov (.t 25),none⟩]
def f3_12:List AI:=[⟨some 27,.mov (.t 1),none⟩,
    ⟨some 28,.call (.c (.one (.fn 17 []))) [(.t 27)],none⟩,
    ⟨some 26,.mov (.t 28),none⟩,
    ⟨some 29,.ext (.t 26) 0,none⟩,
    ⟨some 30,.ext (.t 26) 1,none⟩,
    ⟨some 7,.mov (.t 29),none⟩,
    ⟨some 8,.mov (.t 30),none⟩]
def f3_13:List AI:=[⟨some 32,.mov (.t 0),none⟩,
    ⟨some 33,.mov (.t 1),none⟩,
    ⟨some 34,.bin .add (.t 32) (.t 33),none⟩,
    ⟨some 35,.call (.c (.one (.fn 17 []))) [(.t 34)],none⟩,
    ⟨some 31,.mov (.t 35),none⟩,
    ⟨some 36,.ext (.t 31) 0,none⟩,
    ⟨some 37,.ext (.t 31) 1,none⟩,
    ⟨some 9,.mov (.t 36),none⟩,
    ⟨some 10,.mov (.t 37),none⟩]
def f3_14:List AI:=[⟨some 38,.mov (.t 6),none⟩,
    ⟨some 39,.bin .eql (.t 38) (.c (.one (.int .i64 0))),none⟩,
    ⟨some 40,.mov (.t 39),none⟩,
    ⟨some 41,.mov (.t 8),some (40,true)⟩,
    ⟨some 42,.bin .eql (.t 41) (.c (.one (.int .i64 0))),some (40,true)⟩,
    ⟨some 43,.pick (.t 40) (.t 42) (.c (.one (.bool false))),none⟩]
def f3_15:List AI:=[⟨some 44,.mov (.t 10),none⟩,
    ⟨some 45,.bin .eql (.t 44) (.c (.one (.int .i64 0))),none⟩,
    ⟨some 46,.mov (.t 45),none⟩,
    ⟨some 47,.mov (.t 9),some (46,true)⟩,
    ⟨some 48,.rowLit 1 [(.int .i32 0)] 0 [],some (46,true)⟩,
    ⟨some 49,.mov (.t 5),some (46,true)⟩,
    ⟨some 50,.app 1 4 (.t 48) (.t 49),some (46,true)⟩,
    ⟨some 51,.mov (.t 7),some (46,true)⟩,
    ⟨some 52,.app 1 4 (.t 50) (.t 51),some (46,true)⟩,
    ⟨some 53,.call (.c (.one (.fn 18 []))) [(.t 47),(.t 52)],some (46,true)⟩,
    ⟨some 54,.pick (.t 46) (.t 53) (.c (.one (.bool false))),none⟩,
    ⟨some 4,.mov (.t 54),none⟩]
def f3_16:AC:=.seq (.reg f3_15) .ret
def f3_17:AC:=.cond (.t 43) f3_16 .skip
def f3_18:AC:=.seq (.reg f3_14) f3_17
def f3_19:List AI:=[⟨some 55,.mov (.t 6),none⟩,
    ⟨some 56,.bin .neq (.t 55) (.c (.one (.int .i64 0))),none⟩,
    ⟨some 57,.mov (.t 56),none⟩,
    ⟨some 58,.mov (.t 8),some (57,true)⟩,
    ⟨some 59,.bin .neq (.t 58) (.c (.one (.int .i64 0))),some (57,true)⟩,
    ⟨some 60,.pick (.t 57) (.t 59) (.c (.one (.bool false))),none⟩,
    ⟨some 61,.mov (.t 60),none⟩,
    ⟨some 62,.mov (.t 10),some (61,false)⟩,
    ⟨some 63,.bin .neq (.t 62) (.c (.one (.int .i64 0))),some (61,false)⟩,
    ⟨some 64,.pick (.t 61) (.c (.one (.bool true))) (.t 63),none⟩,
    ⟨some 4,.mov (.t 64),none⟩]
def f3_20:AC:=.seq (.reg f3_19) .ret
def f3_21:AC:=.seq f3_18 f3_20
def f3_22:AC:=.seq (.reg f3_13) f3_21
def f3_23:AC:=.seq (.reg f3_12) f3_22
def f3_24:AC:=.seq (.reg f3_11) f3_23
def f3_25:AC:=.seq f3_10 f3_24
def f3_26:AC:=.seq f3_5 f3_25
def f3_27:AC:=.seq (.reg f3_0) f3_26
def f3B:AC:=f3_27
def f3:AF:=⟨2,65,[(.t 4)],f3B⟩
def f4_0:List AI:=[⟨some 2,.mov (.c (.one (.bool false))),none⟩]
def f4_1:List AI:=[⟨some 11,.call (.c (.one (.fn 16 []))) [],none⟩,
    ⟨some 12,.un .not (.t 11),none⟩]
def f4_2:List AI:=[⟨some 2,.mov (.c (.one (.bool false))),none⟩]
def f4_3:AC:=.seq (.reg f4_2) .ret
def f4_4:AC:=.cond (.t 12) f4_3 .skip
def f4_5:AC:=.seq (.reg f4_1) f4_4
def f4_6:List AI:=[⟨some 13,.mov (.t 0),none⟩,
    ⟨some 14,.len .str (.t 13),none⟩,
    ⟨some 15,.bin .gtr (.t 14) (.c (.one (.int .i64 3000))),none⟩]
def f4_7:List AI:=[⟨some 2,.mov (.c (.one (.bool true))),none⟩]
def f4_8:AC:=.seq (.reg f4_7) .ret
def f4_9:AC:=.cond (.t 15) f4_8 .skip
def f4_10:AC:=.seq (.reg f4_6) f4_9
def f4_11:List AI:=[⟨some 17,.mov (.t 0),none⟩,
    ⟨some 18,.call (.c (.one (.fn 17 []))) [(.t 17)],none⟩,
    ⟨some 16,.mov (.t 18),none⟩,
    ⟨some 19,.ext (.t 16) 0,none⟩,
    ⟨some 20,.ext (.t 16) 1,none⟩,
    ⟨some 3,.mov (.t 19),none⟩,
    ⟨some 4,.mov (.t 20),none⟩]
def f4_12:List AI:=[⟨some 22,.mov (.t 0),none⟩,
    ⟨some 23,.call (.c (.one (.fn 19 []))) [(.t 22)],none⟩,
    ⟨some 21,.mov (.t 23),none⟩,
    ⟨some 24,.ext (.t 21) 0,none⟩,
    ⟨some 25,.ext (.t 21) 1,none⟩,
    ⟨some 5,.mov (.t 24),none⟩,
    ⟨some 6,.mov (.t 25),none⟩]
def f4_13:List AI:=[⟨some 27,.mov (.t 0),none⟩,
    ⟨some 28,.call (.c (.one (.fn 20 []))) [(.t 27)],none⟩,
    ⟨some 26,.mov (.t 28),none⟩,
    ⟨some 29,.ext (.t 26) 0,none⟩,
    ⟨some 30,.ext (.t 26) 1,none⟩,
    ⟨some 7,.mov (.t 29),none⟩,
    ⟨some 8,.mov (.t 30),none⟩]
def f4_14:List AI:=[⟨some 32,.mov (.t 0),none⟩,
    ⟨some 33,.call (.c (.one (.fn 21 []))) [(.t 32)],none⟩,
    ⟨some 31,.mov (.t 33),none⟩,
    ⟨some 34,.ext (.t 31) 0,none⟩,
    ⟨some 35,.ext (.t 31) 1,none⟩,
    ⟨some 9,.mov (.t 34),none⟩,
    ⟨some 10,.mov (.t 35),none⟩]
def f4_15:List AI:=[⟨some 36,.mov (.t 3),none⟩,
    ⟨some 37,.mov (.t 5),none⟩,
    ⟨some 38,.call (.c (.one (.fn 18 []))) [(.t 36),(.t 37)],none⟩,
    ⟨some 39,.mov (.t 38),none⟩,
    ⟨some 40,.mov (.t 4),some (39,true)⟩,
    ⟨some 41,.mov (.t 6),some (39,true)⟩,
    ⟨some 42,.bin .eql (.t 40) (.t 41),some (39,true)⟩,
    ⟨some 43,.pick (.t 39) (.t 42) (.c (.one (.bool false))),none⟩,
    ⟨some 44,.mov (.t 43),none⟩,
    ⟨some 45,.mov (.t 0),some (44,true)⟩,
    ⟨some 46,.call (.c (.one (.fn 22 []))) [(.t 45)],some (44,true)⟩,
    ⟨some 47,.mov (.t 0),some (44,true)⟩,
    ⟨some 48,.call (.c (.one (.fn 23 []))) [(.t 47)],some (44,true)⟩,
    ⟨some 49,.eqv .bool false (.t 46) (.t 48),some (44,true)⟩,
    ⟨some 50,.pick (.t 44) (.t 49) (.c (.one (.bool false))),none⟩,
    ⟨some 51,.mov (.t 50),none⟩,
    ⟨some 52,.mov (.t 7),some (51,true)⟩,
    ⟨some 53,.mov (.t 9),some (51,true)⟩,
    ⟨some 54,.call (.c (.one (.fn 18 []))) [(.t 52),(.t 53)],some (51,true)⟩,
    ⟨some 55,.pick (.t 51) (.t 54) (.c (.one (.bool false))),none⟩,
    ⟨some 56,.mov (.t 55),none⟩,
    ⟨some 57,.mov (.t 8),some (56,true)⟩,
    ⟨some 58,.mov (.t 10),some (56,true)⟩,
    ⟨some 59,.bin .eql (.t 57) (.t 58),some (56,true)⟩,
    ⟨some 60,.pick (.t 56) (.t 59) (.c (.one (.bool false))),none⟩,
    ⟨some 2,.mov (.t 60),none⟩]
def f4_16:AC:=.seq (.reg f4_15) .ret
def f4_17:AC:=.seq (.reg f4_14) f4_16
def f4_18:AC:=.seq (.reg f4_13) f4_17
def f4_19:AC:=.seq (.reg f4_12) f4_18
def f4_20:AC:=.seq (.reg f4_11) f4_19
def f4_21:AC:=.seq f4_10 f4_20
def f4_22:AC:=.seq f4_5 f4_21
def f4_23:AC:=.seq (.reg f4_0) f4_22
def f4B:AC:=f4_23
def f4:AF:=⟨1,61,[(.t 2)],f4B⟩
def f12_0:List AI:=[⟨some 4,.mov (.c (.one (.bool false))),none⟩]
def f12_1:List AI:=[⟨some 11,.call (.c (.one (.fn 16 []))) [],none⟩,
    ⟨some 12,.un .not (.t 11),none⟩]
def f12_2:List AI:=[⟨some 4,.mov (.c (.one (.bool false))),none⟩]
def f12_3:AC:=.seq (.reg f12_2) .ret
def f12_4:AC:=.cond (.t 12) f12_3 .skip
def f12_5:AC:=.seq (.reg f12_1) f12_4
def f12_6:List AI:=[⟨some 13,.mov (.t 0),none⟩,
    ⟨some 14,.len .str (.t 13),none⟩,
    ⟨some 15,.bin .gtr (.t 14) (.c (.one (.int .i64 3000))),none⟩]
def f12_7:List AI:=[⟨some 4,.mov (.c (.one (.bool true))),none⟩]
def f12_8:AC:=.seq (.reg f12_7) .ret
def f12_9:AC:=.cond (.t 15) f12_8 .skip
def f12_10:AC:=.seq (.reg f12_6) f12_9
def f12_11:List AI:=[⟨some 17,.mov (.t 0),none⟩,
    ⟨some 18,.call (.c (.one (.fn 20 []))) [(.t 17)],none⟩,
    ⟨some 16,.mov (.t 18),none⟩,
    ⟨some 19,.ext (.t 16) 0,none⟩,
    ⟨some 20,.ext (.t 16) 1,none⟩,
    ⟨some 5,.mov (.t 19),none⟩,
    ⟨some 6,.mov (.t 20),none⟩]
def f12_12:List AI:=[⟨some 21,.mov (.t 0),none⟩,
    ⟨some 22,.call (.c (.one (.fn 43 []))) [(.t 21)],none⟩,
    ⟨some 7,.mov (.t 22),none⟩]
def f12_13:List AI:=[⟨some 8,.mov (.c (.one (.int .i64 0))),none⟩]
def f12_14:List AI:=[⟨some 24,.mov (.t 0),none⟩,
    ⟨some 25,.call (.c (.one (.fn 38 []))) [(.t 24)],none⟩,
    ⟨some 26,.un .not (.t 25),none⟩,
    ⟨some 23,.mov (.t 26),none⟩]
def f12_15:List AI:=[⟨some 8,.mov (.c (.one (.int .i64 3))),none⟩]
def f12_16:List AI:=[⟨some 28,.mov (.t 7),none⟩,
    ⟨some 29,.bin .eql (.t 28) (.c (.one (.int .i64 0))),none⟩,
    ⟨some 27,.mov (.t 29),none⟩]
def f12_17:List AI:=[⟨some 8,.mov (.c (.one (.int .i64 4))),none⟩]
def f12_18:List AI:=[⟨some 31,.mov (.t 7),none⟩,
    ⟨some 32,.bin .gtr (.t 31) (.c (.one (.int .i64 64))),none⟩,
    ⟨some 30,.mov (.t 32),none⟩]
def f12_19:List AI:=[⟨some 8,.mov (.c (.one (.int .i64 5))),none⟩]
def f12_20:AC:=.cond (.t 30) (.reg f12_19) .skip
def f12_21:AC:=.seq (.reg f12_18) f12_20
def f12_22:AC:=.cond (.t 27) (.reg f12_17) f12_21
def f12_23:AC:=.seq (.reg f12_16) f12_22
def f12_24:AC:=.cond (.t 23) (.reg f12_15) f12_23
def f12_25:AC:=.seq (.reg f12_14) f12_24
def f12_26:AC:=.block 0 f12_25
def f12_27:List AI:=[⟨some 33,.mov (.t 6),none⟩,
    ⟨some 34,.mov (.t 8),none⟩,
    ⟨some 35,.bin .neq (.t 33) (.t 34),none⟩,
    ⟨some 36,.mov (.t 35),none⟩,
    ⟨some 37,.mov (.t 6),some (36,false)⟩,
    ⟨some 38,.bin .eql (.t 37) (.c (.one (.int .i64 0))),some (36,false)⟩,
    ⟨some 39,.mov (.t 38),some (36,false)⟩,
    ⟨some 40,.mov (.t 5),some (39,true)⟩,
    ⟨some 41,.len .slc (.t 40),some (39,true)⟩,
    ⟨some 42,.mov (.t 7),some (39,true)⟩,
    ⟨some 43,.bin .neq (.t 41) (.t 42),some (39,true)⟩,
    ⟨some 44,.pick (.t 39) (.t 43) (.c (.one (.bool false))),some (36,false)⟩,
    ⟨some 45,.pick (.t 36) (.c (.one (.bool true))) (.t 44),none⟩,
    ⟨some 46,.mov (.t 45),none⟩,
    ⟨some 47,.mov (.t 6),some (46,false)⟩,
    ⟨some 48,.bin .neq (.t 47) (.c (.one (.int .i64 0))),some (46,false)⟩,
    ⟨some 49,.mov (.t 48),some (46,false)⟩,
    ⟨some 50,.mov (.t 5),some (49,true)⟩,
    ⟨some 51,.len .slc (.t 50),some (49,true)⟩,
    ⟨some 52,.bin .neq (.t 51) (.c (.one (.int .i64 0))),some (49,true)⟩,
    ⟨some 53,.pick (.t 49) (.t 52) (.c (.one (.bool false))),some (46,false)⟩,
    ⟨some 54,.pick (.t 46) (.c (.one (.bool true))) (.t 53),none⟩]
def f12_28:List AI:=[⟨some 4,.mov (.c (.one (.bool false))),none⟩]
def f12_29:AC:=.seq (.reg f12_28) .ret
def f12_30:AC:=.cond (.t 54) f12_29 .skip
def f12_31:AC:=.seq (.reg f12_27) f12_30
def f12_32:List AI:=[⟨some 56,.mov (.t 1),none⟩,
    ⟨some 57,.rowLit 1 [(.int .i32 0)] 1 [(0,(.t 56))],none⟩,
    ⟨some 58,.call (.c (.one (.fn 33 []))) [(.t 57)],none⟩,
    ⟨some 55,.mov (.t 58),none⟩,
    ⟨some 59,.ext (.t 55) 0,none⟩,
    ⟨some 60,.ext (.t 55) 1,none⟩,
    ⟨some 9,.mov (.t 59),none⟩,
    ⟨some 10,.mov (.t 60),none⟩]
def f12_33:List AI:=[⟨some 61,.mov (.t 10),none⟩,
    ⟨some 62,.bin .neq (.t 61) (.c (.one (.int .i64 0))),none⟩]
def f12_34:List AI:=[⟨some 63,.mov (.t 1),none⟩,
    ⟨some 64,.call (.c (.one (.fn 35 []))) [(.t 63)],none⟩,
    ⟨some 65,.un .not (.t 64),none⟩,
    ⟨some 4,.mov (.t 65),none⟩]
def f12_35:AC:=.seq (.reg f12_34) .ret
def f12_36:AC:=.cond (.t 62) f12_35 .skip
def f12_37:AC:=.seq (.reg f12_33) f12_36
def f12_38:List AI:=[⟨some 66,.mov (.t 9),none⟩,
    ⟨some 67,.call (.c (.one (.fn 22 []))) [(.t 66)],none⟩,
    ⟨some 68,.mov (.t 1),none⟩,
    ⟨some 69,.call (.c (.one (.fn 35 []))) [(.t 68)],none⟩,
    ⟨some 70,.eqv .bool false (.t 67) (.t 69),none⟩,
    ⟨some 71,.mov (.t 70),none⟩,
    ⟨some 72,.mov (.t 9),some (71,true)⟩,
    ⟨some 73,.mov (.t 9),some (71,true)⟩,
    ⟨some 74,.bin .add (.t 72) (.t 73),some (71,true)⟩,
    ⟨some 75,.call (.c (.one (.fn 22 []))) [(.t 74)],some (71,true)⟩,
    ⟨some 76,.mov (.t 1),some (71,true)⟩,
    ⟨some 77,.call (.c (.one (.fn 35 []))) [(.t 76)],some (71,true)⟩,
    ⟨some 78,.eqv .bool false (.t 75) (.t 77),some (71,true)⟩,
    ⟨some 79,.pick (.t 71) (.t 78) (.c (.one (.bool false))),none⟩,
    ⟨some 80,.mov (.t 79),none⟩,
    ⟨some 81,.mov (.t 9),some (80,true)⟩,
    ⟨some 82,.bin .add (.t 81) (.c (.one (.str [32]))),some (80,true)⟩,
    ⟨some 83,.call (.c (.one (.fn 22 []))) [(.t 82)],some (80,true)⟩,
    ⟨some 84,.un .not (.t 83),some (80,true)⟩,
    ⟨some 85,.pick (.t 80) (.t 84) (.c (.one (.bool false))),none⟩,
    ⟨some 86,.mov (.t 85),none⟩,
    ⟨some 87,.call (.c (.one (.fn 22 []))) [(.c (.one (.str [])))],some (86,true)⟩,
    ⟨some 88,.un .not (.t 87),some (86,true)⟩,
    ⟨some 89,.pick (.t 86) (.t 88) (.c (.one (.bool false))),none⟩,
    ⟨some 4,.mov (.t 89),none⟩]
def f12_39:AC:=.seq (.reg f12_38) .ret
def f12_40:AC:=.seq f12_37 f12_39
def f12_41:AC:=.seq (.reg f12_32) f12_40
def f12_42:AC:=.seq f12_31 f12_41
def f12_43:AC:=.seq f12_26 f12_42
def f12_44:AC:=.seq (.reg f12_13) f12_43
def f12_45:AC:=.seq (.reg f12_12) f12_44
def f12_46:AC:=.seq (.reg f12_11) f12_45
def f12_47:AC:=.seq f12_10 f12_46
def f12_48:AC:=.seq f12_5 f12_47
def f12_49:AC:=.seq (.reg f12_0) f12_48
def f12B:AC:=f12_49
def f12:AF:=⟨2,90,[(.t 4)],f12B⟩
def f17_0:List AI:=[⟨some 2,.new [.nils],none⟩,
    ⟨some 3,.new [(.int .i64 0)],none⟩]
def f17_1:List AI:=[⟨some 6,.mov (.t 0),none⟩,
    ⟨some 7,.call (.c (.one (.fn 45 []))) [(.t 6)],none⟩]
def f17_2:List AI:=[⟨some 4,.mov (.t 8),none⟩]
def f17_3:List AI:=[⟨some 5,.mov (.t 9),none⟩]
def f17_4:AC:=.seq (.reg f17_2) (.reg f17_3)
def f17_5:List AI:=[⟨some 10,.mov (.t 5),none⟩,
    ⟨some 11,.un .not (.t 10),none⟩]
def f17_6:List AI:=[⟨none,.store 1 (.t 2) (.c (.one .nils)),none⟩,
    ⟨none,.store 1 (.t 3) (.c (.one (.int .i64 3))),none⟩]
def f17_7:AC:=.seq (.reg f17_6) .ret
def f17_8:AC:=.cond (.t 11) f17_7 .skip
def f17_9:AC:=.seq (.reg f17_5) f17_8
def f17_10:List AI:=[⟨some 12,.load false 1 (.t 2),none⟩,
    ⟨some 13,.mov (.t 4),none⟩,
    ⟨some 14,.rowLit 1 [(.int .i32 0)] 1 [(0,(.t 13))],none⟩,
    ⟨some 15,.app 1 4 (.t 12) (.t 14),none⟩,
    ⟨none,.store 1 (.t 2) (.t 15),none⟩]
def f17_11:AC:=.seq f17_9 (.reg f17_10)
def f17_12:AC:=.block 1 f17_11
def f17_13:AC:=.rangeF (.t 7) [8,9] f17_4 f17_12
def f17_14:AC:=.block 0 f17_13
def f17_15:AC:=.seq (.reg f17_1) f17_14
def f17_16:List AI:=[⟨some 16,.load false 1 (.t 2),none⟩,
    ⟨none,.store 1 (.t 2) (.t 16),none⟩,
    ⟨none,.store 1 (.t 3) (.c (.one (.int .i64 0))),none⟩]
def f17_17:AC:=.seq (.reg f17_16) .ret
def f17_18:AC:=.seq f17_15 f17_17
def f17_19:AC:=.seq (.reg f17_0) f17_18
def f17B:AC:=f17_19
def f17:AF:=⟨1,17,[(.cell 2 false 1),(.cell 3 false 1)],f17B⟩
def f20_0:List AI:=[⟨some 2,.mov (.c (.one .nils)),none⟩,
    ⟨some 3,.mov (.c (.one (.int .i64 0))),none⟩]
def f20_1:List AI:=[⟨some 7,.mov (.t 0),none⟩,
    ⟨some 8,.call (.c (.one (.fn 17 []))) [(.t 7)],none⟩,
    ⟨some 6,.mov (.t 8),none⟩,
    ⟨some 9,.ext (.t 6) 0,none⟩,
    ⟨some 10,.ext (.t 6) 1,none⟩,
    ⟨some 4,.mov (.t 9),none⟩,
    ⟨some 5,.mov (.t 10),none⟩]
def f20_2:List AI:=[⟨some 12,.mov (.t 5),none⟩,
    ⟨some 13,.bin .neq (.t 12) (.c (.one (.int .i64 0))),none⟩,
    ⟨some 11,.mov (.t 13),none⟩]
def f20_3:List AI:=[⟨some 14,.mov (.t 5),none⟩,
    ⟨some 2,.mov (.c (.one .nils)),none⟩,
    ⟨some 3,.mov (.t 14),none⟩]
def f20_4:AC:=.seq (.reg f20_3) .ret
def f20_5:List AI:=[⟨some 16,.mov (.t 4),none⟩,
    ⟨some 17,.len .slc (.t 16),none⟩,
    ⟨some 18,.bin .eql (.t 17) (.c (.one (.int .i64 0))),none⟩,
    ⟨some 15,.mov (.t 18),none⟩]
def f20_6:List AI:=[⟨some 2,.mov (.c (.one .nils)),none⟩,
    ⟨some 3,.mov (.c (.one (.int .i64 4))),none⟩]
def f20_7:AC:=.seq (.reg f20_6) .ret
def f20_8:List AI:=[⟨some 20,.mov (.t 4),none⟩,
    ⟨some 21,.len .slc (.t 20),none⟩,
    ⟨some 22,.bin .gtr (.t 21) (.c (.one (.int .i64 64))),none⟩,
    ⟨some 19,.mov (.t 22),none⟩]
def f20_9:List AI:=[⟨some 2,.mov (.c (.one .nils)),none⟩,
    ⟨some 3,.mov (.c (.one (.int .i64 5))),none⟩]
def f20_10:AC:=.seq (.reg f20_9) .ret
def f20_11:AC:=.cond (.t 19) f20_10 .skip
def f20_12:AC:=.seq (.reg f20_8) f20_11
def f20_13:AC:=.cond (.t 15) f20_7 f20_12
def f20_14:AC:=.seq (.reg f20_5) f20_13
def f20_15:AC:=.cond (.t 11) f20_4 f20_14
def f20_16:AC:=.seq (.reg f20_2) f20_15
def f20_17:AC:=.block 0 f20_16
def f20_18:List AI:=[⟨some 23,.mov (.t 4),none⟩,
    ⟨some 2,.mov (.t 23),none⟩,
    ⟨some 3,.mov (.c (.one (.int .i64 0))),none⟩]
def f20_19:AC:=.seq (.reg f20_18) .ret
def f20_20:AC:=.seq f20_17 f20_19
def f20_21:AC:=.seq (.reg f20_1) f20_20
def f20_22:AC:=.seq (.reg f20_0) f20_21
def f20B:AC:=f20_22
def f20:AF:=⟨1,24,[(.t 2),(.t 3)],f20B⟩
def f21_0:List AI:=[⟨some 2,.mov (.c (.one .nils)),none⟩,
    ⟨some 3,.mov (.c (.one (.int .i64 0))),none⟩]
def f21_1:List AI:=[⟨some 7,.mov (.t 0),none⟩,
    ⟨some 8,.call (.c (.one (.fn 19 []))) [(.t 7)],none⟩,
    ⟨some 6,.mov (.t 8),none⟩,
    ⟨some 9,.ext (.t 6) 0,none⟩,
    ⟨some 10,.ext (.t 6) 1,none⟩,
    ⟨some 4,.mov (.t 9),none⟩,
    ⟨some 5,.mov (.t 10),none⟩]
def f21_2:List AI:=[⟨some 11,.mov (.t 5),none⟩,
    ⟨some 12,.bin .neq (.t 11) (.c (.one (.int .i64 0))),none⟩]
def f21_3:List AI:=[⟨some 13,.mov (.t 5),none⟩,
    ⟨some 2,.mov (.c (.one .nils)),none⟩,
    ⟨some 3,.mov (.t 13),none⟩]
def f21_4:AC:=.seq (.reg f21_3) .ret
def f21_5:AC:=.cond (.t 12) f21_4 .skip
def f21_6:AC:=.seq (.reg f21_2) f21_5
def f21_7:List AI:=[⟨some 14,.mov (.t 4),none⟩,
    ⟨some 15,.len .slc (.t 14),none⟩,
    ⟨some 16,.bin .eql (.t 15) (.c (.one (.int .i64 0))),none⟩]
def f21_8:List AI:=[⟨some 2,.mov (.c (.one .nils)),none⟩,
    ⟨some 3,.mov (.c (.one (.int .i64 4))),none⟩]
def f21_9:AC:=.seq (.reg f21_8) .ret
def f21_10:AC:=.cond (.t 16) f21_9 .skip
def f21_11:AC:=.seq (.reg f21_7) f21_10
def f21_12:List AI:=[⟨some 17,.mov (.t 4),none⟩,
    ⟨some 18,.len .slc (.t 17),none⟩,
    ⟨some 19,.bin .gtr (.t 18) (.c (.one (.int .i64 64))),none⟩]
def f21_13:List AI:=[⟨some 2,.mov (.c (.one .nils)),none⟩,
    ⟨some 3,.mov (.c (.one (.int .i64 5))),none⟩]
def f21_14:AC:=.seq (.reg f21_13) .ret
def f21_15:AC:=.cond (.t 19) f21_14 .skip
def f21_16:AC:=.seq (.reg f21_12) f21_15
def f21_17:List AI:=[⟨some 20,.mov (.t 4),none⟩,
    ⟨some 2,.mov (.t 20),none⟩,
    ⟨some 3,.mov (.c (.one (.int .i64 0))),none⟩]
def f21_18:AC:=.seq (.reg f21_17) .ret
def f21_19:AC:=.seq f21_16 f21_18
def f21_20:AC:=.seq f21_11 f21_19
def f21_21:AC:=.seq f21_6 f21_20
def f21_22:AC:=.seq (.reg f21_1) f21_21
def f21_23:AC:=.seq (.reg f21_0) f21_22
def f21B:AC:=f21_23
def f21:AF:=⟨1,21,[(.t 2),(.t 3)],f21B⟩
def f22_0:List AI:=[⟨some 2,.mov (.c (.one (.bool false))),none⟩]
def f22_1:List AI:=[⟨some 6,.mov (.t 0),none⟩,
    ⟨some 7,.bin .neq (.t 6) (.c (.one (.str []))),none⟩,
    ⟨some 3,.new [(.bool false)],none⟩,
    ⟨none,.store 1 (.t 3) (.t 7),none⟩]
def f22_2:List AI:=[⟨some 8,.mov (.t 0),none⟩,
    ⟨some 9,.call (.c (.one (.fn 45 []))) [(.t 8)],none⟩]
def f22_3:List AI:=[⟨some 4,.mov (.t 10),none⟩]
def f22_4:List AI:=[⟨some 5,.mov (.t 11),none⟩]
def f22_5:AC:=.seq (.reg f22_3) (.reg f22_4)
def f22_6:List AI:=[⟨some 12,.mov (.t 5),none⟩,
    ⟨some 13,.mov (.t 12),none⟩,
    ⟨some 14,.mov (.t 4),some (13,true)⟩,
    ⟨some 15,.call (.c (.one (.fn 35 []))) [(.t 14)],some (13,true)⟩,
    ⟨some 16,.pick (.t 13) (.t 15) (.c (.one (.bool false))),none⟩,
    ⟨none,.store 1 (.t 3) (.t 16),none⟩]
def f22_7:List AI:=[⟨some 17,.load false 1 (.t 3),none⟩,
    ⟨some 18,.un .not (.t 17),none⟩]
def f22_8:AC:=.cond (.t 18) (.exit 0) .skip
def f22_9:AC:=.seq (.reg f22_7) f22_8
def f22_10:AC:=.seq (.reg f22_6) f22_9
def f22_11:AC:=.block 1 f22_10
def f22_12:AC:=.rangeF (.t 9) [10,11] f22_5 f22_11
def f22_13:AC:=.block 0 f22_12
def f22_14:AC:=.seq (.reg f22_2) f22_13
def f22_15:List AI:=[⟨some 19,.load false 1 (.t 3),none⟩,
    ⟨some 2,.mov (.t 19),none⟩]
def f22_16:AC:=.seq (.reg f22_15) .ret
def f22_17:AC:=.seq f22_14 f22_16
def f22_18:AC:=.seq .skip f22_17
def f22_19:AC:=.seq (.reg f22_1) f22_18
def f22_20:AC:=.seq .skip f22_19
def f22_21:AC:=.seq (.reg f22_0) f22_20
def f22B:AC:=f22_21
def f22:AF:=⟨1,20,[(.t 2)],f22B⟩
def f23_0:List AI:=[⟨some 2,.mov (.c (.one (.bool false))),none⟩]
def f23_1:List AI:=[⟨some 8,.mov (.t 0),none⟩,
    ⟨some 9,.call (.c (.one (.fn 19 []))) [(.t 8)],none⟩,
    ⟨some 7,.mov (.t 9),none⟩,
    ⟨some 10,.ext (.t 7) 0,none⟩,
    ⟨some 11,.ext (.t 7) 1,none⟩,
    ⟨some 3,.mov (.t 10),none⟩,
    ⟨some 4,.mov (.t 11),none⟩]
def f23_2:List AI:=[⟨some 12,.mov (.t 3),none⟩,
    ⟨some 13,.len .slc (.t 12),none⟩,
    ⟨some 14,.mov (.c (.one (.int .i64 0))),none⟩]
def f23_3:List AI:=[⟨some 15,.bin .lss (.t 14) (.t 13),none⟩]
def f23_4:AC:=.cond (.t 15) .skip (.exit 0)
def f23_5:List AI:=[⟨some 16,.iaddr 1 (.t 12) (.t 14),none⟩,
    ⟨some 17,.load false 1 (.t 16),none⟩,
    ⟨some 6,.mov (.t 17),none⟩]
def f23_6:List AI:=[⟨some 18,.mov (.t 6),none⟩,
    ⟨some 19,.call (.c (.one (.fn 36 []))) [(.t 18)],none⟩,
    ⟨some 20,.un .not (.t 19),none⟩]
def f23_7:List AI:=[⟨some 2,.mov (.c (.one (.bool false))),none⟩]
def f23_8:AC:=.seq (.reg f23_7) .ret
def f23_9:AC:=.cond (.t 20) f23_8 .skip
def f23_10:AC:=.seq (.reg f23_6) f23_9
def f23_11:AC:=.seq (.reg f23_5) f23_10
def f23_12:AC:=.block 1 f23_11
def f23_13:List AI:=[⟨some 21,.bin .add (.t 14) (.c (.one (.int .i64 1))),none⟩,
    ⟨some 14,.mov (.t 21),none⟩]
def f23_14:AC:=.seq f23_12 (.reg f23_13)
def f23_15:AC:=.seq f23_4 f23_14
def f23_16:AC:=.seq (.reg f23_3) f23_15
def f23_17:AC:=.loop f23_16
def f23_18:AC:=.block 0 f23_17
def f23_19:AC:=.seq (.reg f23_2) f23_18
def f23_20:List AI:=[⟨some 22,.mov (.t 4),none⟩,
    ⟨some 23,.bin .eql (.t 22) (.c (.one (.int .i64 0))),none⟩,
    ⟨some 24,.mov (.t 23),none⟩,
    ⟨some 25,.mov (.t 3),some (24,true)⟩,
    ⟨some 26,.len .slc (.t 25),some (24,true)⟩,
    ⟨some 27,.bin .gtr (.t 26) (.c (.one (.int .i64 0))),some (24,true)⟩,
    ⟨some 28,.pick (.t 24) (.t 27) (.c (.one (.bool false))),none⟩,
    ⟨some 2,.mov (.t 28),none⟩]
def f23_21:AC:=.seq (.reg f23_20) .ret
def f23_22:AC:=.seq f23_19 f23_21
def f23_23:AC:=.seq (.reg f23_1) f23_22
def f23_24:AC:=.seq (.reg f23_0) f23_23
def f23B:AC:=f23_24
def f23:AF:=⟨1,29,[(.t 2)],f23B⟩
def f24_0:List AI:=[⟨some 4,.mov (.c (.one (.int .i64 0))),none⟩]
def f24_1:List AI:=[⟨some 5,.mov (.t 0),none⟩,
    ⟨some 6,.mov (.t 1),none⟩,
    ⟨some 7,.call (.c (.one (.fn 47 []))) [(.t 5),(.t 6),(.c (.one (.fn 48 [])))],none⟩,
    ⟨some 4,.mov (.t 7),none⟩]
def f24_2:AC:=.seq (.reg f24_1) .ret
def f24_3:AC:=.seq (.reg f24_0) f24_2
def f24B:AC:=f24_3
def f24:AF:=⟨2,8,[(.t 4)],f24B⟩
def f25_0:List AI:=[⟨some 4,.mov (.c (.one (.int .i64 0))),none⟩]
def f25_1:List AI:=[⟨some 5,.mov (.t 0),none⟩,
    ⟨some 6,.mov (.t 1),none⟩,
    ⟨some 7,.call (.c (.one (.fn 49 []))) [(.t 5),(.t 6)],none⟩,
    ⟨some 4,.mov (.t 7),none⟩]
def f25_2:AC:=.seq (.reg f25_1) .ret
def f25_3:AC:=.seq (.reg f25_0) f25_2
def f25B:AC:=f25_3
def f25:AF:=⟨2,8,[(.t 4)],f25B⟩
def f33_0:List AI:=[⟨some 2,.mov (.c (.one (.str []))),none⟩,
    ⟨some 3,.mov (.c (.one (.int .i64 0))),none⟩]
def f33_1:List AI:=[⟨some 7,.mov (.t 0),none⟩,
    ⟨some 8,.call (.c (.one (.fn 53 []))) [(.t 7),(.c (.one (.fn 54 [])))],none⟩]
def f33_2:List AI:=[⟨some 2,.mov (.c (.one (.str []))),none⟩,
    ⟨some 3,.mov (.c (.one (.int .i64 3))),none⟩]
def f33_3:AC:=.seq (.reg f33_2) .ret
def f33_4:AC:=.cond (.t 8) f33_3 .skip
def f33_5:AC:=.seq (.reg f33_1) f33_4
def f33_6:List AI:=[⟨some 4,.mov (.c (.one .nils)),none⟩]
def f33_7:List AI:=[⟨some 9,.mov (.t 0),none⟩,
    ⟨some 10,.len .slc (.t 9),none⟩,
    ⟨some 11,.mov (.c (.one (.int .i64 0))),none⟩]
def f33_8:List AI:=[⟨some 12,.bin .lss (.t 11) (.t 10),none⟩]
def f33_9:AC:=.cond (.t 12) .skip (.exit 0)
def f33_10:List AI:=[⟨some 13,.iaddr 1 (.t 9) (.t 11),none⟩,
    ⟨some 14,.load false 1 (.t 13),none⟩,
    ⟨some 6,.mov (.t 14),none⟩]
def f33_11:List AI:=[⟨some 15,.mov (.t 4),none⟩,
    ⟨some 16,.mov (.t 6),none⟩,
    ⟨some 17,.call (.c (.one (.fn 56 []))) [(.t 15),(.t 16)],none⟩,
    ⟨some 4,.mov (.t 17),none⟩]
def f33_12:AC:=.seq (.reg f33_10) (.reg f33_11)
def f33_13:AC:=.block 1 f33_12
def f33_14:List AI:=[⟨some 18,.bin .add (.t 11) (.c (.one (.int .i64 1))),none⟩,
    ⟨some 11,.mov (.t 18),none⟩]
def f33_15:AC:=.seq f33_13 (.reg f33_14)
def f33_16:AC:=.seq f33_9 f33_15
def f33_17:AC:=.seq (.reg f33_8) f33_16
def f33_18:AC:=.loop f33_17
def f33_19:AC:=.block 0 f33_18
def f33_20:AC:=.seq (.reg f33_7) f33_19
def f33_21:List AI:=[⟨some 19,.mov (.t 4),none⟩,
    ⟨some 20,.b2s (.t 19),none⟩,
    ⟨some 2,.mov (.t 20),none⟩,
    ⟨some 3,.mov (.c (.one (.int .i64 0))),none⟩]
def f33_22:AC:=.seq (.reg f33_21) .ret
def f33_23:AC:=.seq f33_20 f33_22
def f33_24:AC:=.seq (.reg f33_6) f33_23
def f33_25:AC:=.seq f33_5 f33_24
def f33_26:AC:=.seq (.reg f33_0) f33_25
def f33B:AC:=f33_26
def f33:AF:=⟨1,21,[(.t 2),(.t 3)],f33B⟩
def f34_0:List AI:=[⟨some 2,.mov (.c (.one (.str []))),none⟩,
    ⟨some 3,.mov (.c (.one (.int .i64 0))),none⟩]
def f34_1:List AI:=[⟨some 4,.mov (.c (.one .nils)),none⟩]
def f34_2:List AI:=[⟨some 7,.mov (.t 0),none⟩,
    ⟨some 8,.len .slc (.t 7),none⟩,
    ⟨some 9,.mov (.c (.one (.int .i64 0))),none⟩]
def f34_3:List AI:=[⟨some 10,.bin .lss (.t 9) (.t 8),none⟩]
def f34_4:AC:=.cond (.t 10) .skip (.exit 0)
def f34_5:List AI:=[⟨some 11,.iaddr 1 (.t 7) (.t 9),none⟩,
    ⟨some 12,.load false 1 (.t 11),none⟩,
    ⟨some 6,.mov (.t 12),none⟩]
def f34_6:List AI:=[⟨some 13,.mov (.t 6),none⟩,
    ⟨some 14,.call (.c (.one (.fn 57 []))) [(.t 13)],none⟩,
    ⟨some 15,.un .not (.t 14),none⟩]
def f34_7:List AI:=[⟨some 2,.mov (.c (.one (.str []))),none⟩,
    ⟨some 3,.mov (.c (.one (.int .i64 3))),none⟩]
def f34_8:AC:=.seq (.reg f34_7) .ret
def f34_9:AC:=.cond (.t 15) f34_8 .skip
def f34_10:AC:=.seq (.reg f34_6) f34_9
def f34_11:List AI:=[⟨some 16,.mov (.t 4),none⟩,
    ⟨some 17,.mov (.t 6),none⟩,
    ⟨some 18,.call (.c (.one (.fn 58 []))) [(.t 17)],none⟩,
    ⟨some 19,.app 1 1 (.t 16) (.t 18),none⟩,
    ⟨some 4,.mov (.t 19),none⟩]
def f34_12:AC:=.seq f34_10 (.reg f34_11)
def f34_13:AC:=.seq (.reg f34_5) f34_12
def f34_14:AC:=.block 1 f34_13
def f34_15:List AI:=[⟨some 20,.bin .add (.t 9) (.c (.one (.int .i64 1))),none⟩,
    ⟨some 9,.mov (.t 20),none⟩]
def f34_16:AC:=.seq f34_14 (.reg f34_15)
def f34_17:AC:=.seq f34_4 f34_16
def f34_18:AC:=.seq (.reg f34_3) f34_17
def f34_19:AC:=.loop f34_18
def f34_20:AC:=.block 0 f34_19
def f34_21:AC:=.seq (.reg f34_2) f34_20
def f34_22:List AI:=[⟨some 21,.mov (.t 4),none⟩,
    ⟨some 22,.b2s (.t 21),none⟩,
    ⟨some 2,.mov (.t 22),none⟩,
    ⟨some 3,.mov (.c (.one (.int .i64 0))),none⟩]
def f34_23:AC:=.seq (.reg f34_22) .ret
def f34_24:AC:=.seq f34_21 f34_23
def f34_25:AC:=.seq (.reg f34_1) f34_24
def f34_26:AC:=.seq (.reg f34_0) f34_25
def f34B:AC:=f34_26
def f34:AF:=⟨1,23,[(.t 2),(.t 3)],f34B⟩
def f35_0:List AI:=[⟨some 2,.mov (.c (.one (.bool false))),none⟩]
def f35_1:List AI:=[⟨some 4,.mov (.t 0),none⟩,
    ⟨some 5,.call (.c (.one (.fn 55 []))) [(.t 4)],none⟩,
    ⟨some 6,.un .not (.t 5),none⟩,
    ⟨some 3,.mov (.t 6),none⟩]
def f35_2:List AI:=[⟨some 7,.mov (.t 0),none⟩,
    ⟨some 8,.bin .eql (.t 7) (.c (.one (.int .i32 215))),none⟩,
    ⟨some 3,.mov (.t 8),none⟩]
def f35_3:List AI:=[⟨some 9,.mov (.t 0),none⟩,
    ⟨some 10,.bin .eql (.t 9) (.c (.one (.int .i32 247))),none⟩,
    ⟨some 3,.mov (.t 10),none⟩]
def f35_4:List AI:=[⟨some 11,.mov (.t 0),none⟩,
    ⟨some 12,.call (.c (.one (.fn 59 []))) [(.t 11),(.c (.one (.int .i32 8192))),(.c (.one (.int .i32 8303)))],none⟩,
    ⟨some 3,.mov (.t 12),none⟩]
def f35_5:AC:=.cond (.t 3) .skip (.reg f35_4)
def f35_6:AC:=.seq (.reg f35_3) f35_5
def f35_7:AC:=.cond (.t 3) .skip f35_6
def f35_8:AC:=.seq (.reg f35_2) f35_7
def f35_9:AC:=.cond (.t 3) .skip f35_8
def f35_10:AC:=.seq (.reg f35_1) f35_9
def f35_11:List AI:=[⟨some 2,.mov (.c (.one (.bool false))),none⟩]
def f35_12:AC:=.seq (.reg f35_11) .ret
def f35_13:AC:=.cond (.t 3) f35_12 .skip
def f35_14:AC:=.seq f35_10 f35_13
def f35_15:AC:=.block 0 f35_14
def f35_16:List AI:=[⟨some 13,.mov (.t 0),none⟩,
    ⟨some 14,.bin .geq (.t 13) (.c (.one (.int .i32 192))),none⟩,
    ⟨some 15,.mov (.t 14),none⟩,
    ⟨some 16,.mov (.t 0),some (15,false)⟩,
    ⟨some 17,.call (.c (.one (.fn 59 []))) [(.t 16),(.c (.one (.int .i32 65))),(.c (.one (.int .i32 90)))],some (15,false)⟩,
    ⟨some 18,.pick (.t 15) (.c (.one (.bool true))) (.t 17),none⟩,
    ⟨some 19,.mov (.t 18),none⟩,
    ⟨some 20,.mov (.t 0),some (19,false)⟩,
    ⟨some 21,.call (.c (.one (.fn 59 []))) [(.t 20),(.c (.one (.int .i32 97))),(.c (.one (.int .i32 122)))],some (19,false)⟩,
    ⟨some 22,.pick (.t 19) (.c (.one (.bool true))) (.t 21),none⟩,
    ⟨some 2,.mov (.t 22),none⟩]
def f35_17:AC:=.seq (.reg f35_16) .ret
def f35_18:AC:=.seq f35_15 f35_17
def f35_19:AC:=.seq (.reg f35_0) f35_18
def f35B:AC:=f35_19
def f35:AF:=⟨1,23,[(.t 2)],f35B⟩
def f37_0:List AI:=[⟨some 4,.mov (.c (.one (.int .i64 0))),none⟩]
def f37_1:List AI:=[⟨some 5,.mov (.c (.one (.int .i64 0))),none⟩]
def f37_2:List AI:=[⟨some 6,.mov (.t 5),none⟩,
    ⟨some 7,.mov (.t 0),none⟩,
    ⟨some 8,.len .slc (.t 7),none⟩,
    ⟨some 9,.bin .lss (.t 6) (.t 8),none⟩,
    ⟨some 10,.mov (.t 9),none⟩,
    ⟨some 11,.mov (.t 5),some (10,true)⟩,
    ⟨some 12,.mov (.t 1),some (10,true)⟩,
    ⟨some 13,.len .slc (.t 12),some (10,true)⟩,
    ⟨some 14,.bin .lss (.t 11) (.t 13),some (10,true)⟩,
    ⟨some 15,.pick (.t 10) (.t 14) (.c (.one (.bool false))),none⟩]
def f37_3:AC:=.cond (.t 15) .skip (.exit 0)
def f37_4:AC:=.seq (.reg f37_2) f37_3
def f37_5:List AI:=[⟨some 18,.mov (.t 0),none⟩,
    ⟨some 19,.mov (.t 5),none⟩,
    ⟨some 20,.iaddr 1 (.t 18) (.t 19),none⟩,
    ⟨some 21,.load false 1 (.t 20),none⟩,
    ⟨some 22,.mov (.t 1),none⟩,
    ⟨some 23,.mov (.t 5),none⟩,
    ⟨some 24,.iaddr 1 (.t 22) (.t 23),none⟩,
    ⟨some 25,.load false 1 (.t 24),none⟩,
    ⟨some 26,.bin .lss (.t 21) (.t 25),none⟩]
def f37_6:List AI:=[⟨some 4,.mov (.c (.one (.int .i64 (-1)))),none⟩]
def f37_7:AC:=.seq (.reg f37_6) .ret
def f37_8:AC:=.cond (.t 26) f37_7 .skip
def f37_9:AC:=.seq (.dreg f37_5) f37_8
def f37_10:List AI:=[⟨some 27,.mov (.t 0),none⟩,
    ⟨some 28,.mov (.t 5),none⟩,
    ⟨some 29,.iaddr 1 (.t 27) (.t 28),none⟩,
    ⟨some 30,.load false 1 (.t 29),none⟩,
    ⟨some 31,.mov (.t 1),none⟩,
    ⟨some 32,.mov (.t 5),none⟩,
    ⟨some 33,.iaddr 1 (.t 31) (.t 32),none⟩,
    ⟨some 34,.load false 1 (.t 33),none⟩,
    ⟨some 35,.bin .gtr (.t 30) (.t 34),none⟩]
def f37_11:List AI:=[⟨some 4,.mov (.c (.one (.int .i64 1))),none⟩]
def f37_12:AC:=.seq (.reg f37_11) .ret
def f37_13:AC:=.cond (.t 35) f37_12 .skip
def f37_14:AC:=.seq (.dreg f37_10) f37_13
def f37_15:AC:=.seq f37_9 f37_14
def f37_16:AC:=.block 1 f37_15
def f37_17:List AI:=[⟨some 16,.mov (.t 5),none⟩,
    ⟨some 17,.bin .add (.t 16) (.c (.one (.int .i64 1))),none⟩,
    ⟨some 5,.mov (.t 17),none⟩]
def f37_18:AC:=.seq f37_16 (.reg f37_17)
def f37_19:AC:=.seq f37_4 f37_18
def f37_20:AC:=.loop f37_19
def f37_21:AC:=.block 0 f37_20
def f37_22:AC:=.seq (.reg f37_1) f37_21
def f37_23:List AI:=[⟨some 36,.mov (.t 0),none⟩,
    ⟨some 37,.len .slc (.t 36),none⟩,
    ⟨some 38,.mov (.t 1),none⟩,
    ⟨some 39,.len .slc (.t 38),none⟩,
    ⟨some 40,.bin .lss (.t 37) (.t 39),none⟩]
def f37_24:List AI:=[⟨some 4,.mov (.c (.one (.int .i64 (-1)))),none⟩]
def f37_25:AC:=.seq (.reg f37_24) .ret
def f37_26:AC:=.cond (.t 40) f37_25 .skip
def f37_27:AC:=.seq (.reg f37_23) f37_26
def f37_28:List AI:=[⟨some 41,.mov (.t 0),none⟩,
    ⟨some 42,.len .slc (.t 41),none⟩,
    ⟨some 43,.mov (.t 1),none⟩,
    ⟨some 44,.len .slc (.t 43),none⟩,
    ⟨some 45,.bin .gtr (.t 42) (.t 44),none⟩]
def f37_29:List AI:=[⟨some 4,.mov (.c (.one (.int .i64 1))),none⟩]
def f37_30:AC:=.seq (.reg f37_29) .ret
def f37_31:AC:=.cond (.t 45) f37_30 .skip
def f37_32:AC:=.seq (.reg f37_28) f37_31
def f37_33:List AI:=[⟨some 4,.mov (.c (.one (.int .i64 0))),none⟩]
def f37_34:AC:=.seq (.reg f37_33) .ret
def f37_35:AC:=.seq f37_32 f37_34
def f37_36:AC:=.seq f37_27 f37_35
def f37_37:AC:=.seq f37_22 f37_36
def f37_38:AC:=.seq (.reg f37_0) f37_37
def f37B:AC:=f37_38
def f37:AF:=⟨2,46,[(.t 4)],f37B⟩
def f45_0:List AI:=[⟨some 1,.box (.t 0),none⟩,
    ⟨some 2,.mov (.c (.one .nilf)),none⟩]
def f45_1:List AI:=[⟨some 3,.mkfn 68 [(.t 1)],none⟩,
    ⟨some 2,.mov (.t 3),none⟩]
def f45_2:AC:=.seq (.reg f45_1) .ret
def f45_3:AC:=.seq (.reg f45_0) f45_2
def f45B:AC:=f45_3
def f45:AF:=⟨1,4,[(.t 2)],f45B⟩
def f46_0:List AI:=[⟨some 2,.mov (.c (.one (.int .i32 0))),none⟩,
    ⟨some 3,.mov (.c (.one (.int .i64 0))),none⟩]
def f46_1:List AI:=[⟨some 4,.mov (.c (.one (.int .i64 1))),none⟩]
def f46_2:List AI:=[⟨some 7,.mov (.t 4),none⟩,
    ⟨some 8,.bin .leq (.t 7) (.c (.one (.int .i64 4))),none⟩,
    ⟨some 9,.mov (.t 8),none⟩,
    ⟨some 10,.mov (.t 4),some (9,true)⟩,
    ⟨some 11,.mov (.t 0),some (9,true)⟩,
    ⟨some 12,.len .str (.t 11),some (9,true)⟩,
    ⟨some 13,.bin .leq (.t 10) (.t 12),some (9,true)⟩,
    ⟨some 14,.pick (.t 9) (.t 13) (.c (.one (.bool false))),none⟩]
def f46_3:AC:=.cond (.t 14) .skip (.exit 0)
def f46_4:AC:=.seq (.reg f46_2) f46_3
def f46_5:List AI:=[⟨some 17,.mov (.t 0),none⟩,
    ⟨some 18,.sidx (.t 17) (.c (.one (.int .i64 0))),none⟩,
    ⟨some 19,.wrapI .i32 (.t 18),none⟩,
    ⟨some 5,.mov (.t 19),none⟩]
def f46_6:List AI:=[⟨some 20,.mov (.t 4),none⟩]
def f46_7:List AI:=[⟨some 22,.bin .eql (.t 20) (.c (.one (.int .i64 2))),none⟩,
    ⟨some 21,.mov (.t 22),none⟩]
def f46_8:List AI:=[⟨some 23,.mov (.t 5),none⟩,
    ⟨some 24,.bin .sub (.t 23) (.c (.one (.int .i32 192))),none⟩,
    ⟨some 5,.mov (.t 24),none⟩]
def f46_9:List AI:=[⟨some 26,.bin .eql (.t 20) (.c (.one (.int .i64 3))),none⟩,
    ⟨some 25,.mov (.t 26),none⟩]
def f46_10:List AI:=[⟨some 27,.mov (.t 5),none⟩,
    ⟨some 28,.bin .sub (.t 27) (.c (.one (.int .i32 224))),none⟩,
    ⟨some 5,.mov (.t 28),none⟩]
def f46_11:List AI:=[⟨some 30,.bin .eql (.t 20) (.c (.one (.int .i64 4))),none⟩,
    ⟨some 29,.mov (.t 30),none⟩]
def f46_12:List AI:=[⟨some 31,.mov (.t 5),none⟩,
    ⟨some 32,.bin .sub (.t 31) (.c (.one (.int .i32 240))),none⟩,
    ⟨some 5,.mov (.t 32),none⟩]
def f46_13:AC:=.cond (.t 29) (.reg f46_12) .skip
def f46_14:AC:=.seq (.reg f46_11) f46_13
def f46_15:AC:=.cond (.t 25) (.reg f46_10) f46_14
def f46_16:AC:=.seq (.reg f46_9) f46_15
def f46_17:AC:=.cond (.t 21) (.reg f46_8) f46_16
def f46_18:AC:=.seq (.reg f46_7) f46_17
def f46_19:AC:=.block 2 f46_18
def f46_20:AC:=.seq (.reg f46_6) f46_19
def f46_21:List AI:=[⟨some 6,.mov (.c (.one (.int .i64 1))),none⟩]
def f46_22:List AI:=[⟨some 33,.mov (.t 6),none⟩,
    ⟨some 34,.mov (.t 4),none⟩,
    ⟨some 35,.bin .lss (.t 33) (.t 34),none⟩]
def f46_23:AC:=.cond (.t 35) .skip (.exit 3)
def f46_24:AC:=.seq (.reg f46_22) f46_23
def f46_25:List AI:=[⟨some 38,.mov (.t 5),none⟩,
    ⟨some 39,.bin .mul (.t 38) (.c (.one (.int .i32 64))),none⟩,
    ⟨some 40,.mov (.t 0),none⟩,
    ⟨some 41,.mov (.t 6),none⟩,
    ⟨some 42,.sidx (.t 40) (.t 41),none⟩,
    ⟨some 43,.wrapI .i32 (.t 42),none⟩,
    ⟨some 44,.bin .add (.t 39) (.t 43),none⟩,
    ⟨some 45,.bin .sub (.t 44) (.c (.one (.int .i32 128))),none⟩,
    ⟨some 5,.mov (.t 45),none⟩]
def f46_26:AC:=.block 4 (.reg f46_25)
def f46_27:List AI:=[⟨some 36,.mov (.t 6),none⟩,
    ⟨some 37,.bin .add (.t 36) (.c (.one (.int .i64 1))),none⟩,
    ⟨some 6,.mov (.t 37),none⟩]
def f46_28:AC:=.seq f46_26 (.reg f46_27)
def f46_29:AC:=.seq f46_24 f46_28
def f46_30:AC:=.loop f46_29
def f46_31:AC:=.block 3 f46_30
def f46_32:AC:=.seq (.reg f46_21) f46_31
def f46_33:List AI:=[⟨some 46,.mov (.t 5),none⟩,
    ⟨some 47,.call (.c (.one (.fn 57 []))) [(.t 46)],none⟩,
    ⟨some 48,.mov (.t 47),none⟩,
    ⟨some 49,.mov (.t 5),some (48,true)⟩,
    ⟨some 50,.call (.c (.one (.fn 58 []))) [(.t 49)],some (48,true)⟩,
    ⟨some 51,.b2s (.t 50),some (48,true)⟩,
    ⟨some 52,.mov (.t 0),some (48,true)⟩,
    ⟨some 53,.mov (.t 4),some (48,true)⟩,
    ⟨some 54,.slice .str 1 (.t 52) none (some (.t 53)) none,some (48,true)⟩,
    ⟨some 55,.bin .eql (.t 51) (.t 54),some (48,true)⟩,
    ⟨some 56,.pick (.t 48) (.t 55) (.c (.one (.bool false))),none⟩]
def f46_34:List AI:=[⟨some 57,.mov (.t 5),none⟩,
    ⟨some 58,.mov (.t 4),none⟩,
    ⟨some 2,.mov (.t 57),none⟩,
    ⟨some 3,.mov (.t 58),none⟩]
def f46_35:AC:=.seq (.reg f46_34) .ret
def f46_36:AC:=.cond (.t 56) f46_35 .skip
def f46_37:AC:=.seq (.dreg f46_33) f46_36
def f46_38:AC:=.seq f46_32 f46_37
def f46_39:AC:=.seq f46_20 f46_38
def f46_40:AC:=.seq (.reg f46_5) f46_39
def f46_41:AC:=.block 1 f46_40
def f46_42:List AI:=[⟨some 15,.mov (.t 4),none⟩,
    ⟨some 16,.bin .add (.t 15) (.c (.one (.int .i64 1))),none⟩,
    ⟨some 4,.mov (.t 16),none⟩]
def f46_43:AC:=.seq f46_41 (.reg f46_42)
def f46_44:AC:=.seq f46_4 f46_43
def f46_45:AC:=.loop f46_44
def f46_46:AC:=.block 0 f46_45
def f46_47:AC:=.seq (.reg f46_1) f46_46
def f46_48:List AI:=[⟨some 2,.mov (.c (.one (.int .i32 0))),none⟩,
    ⟨some 3,.mov (.c (.one (.int .i64 0))),none⟩]
def f46_49:AC:=.seq (.reg f46_48) .ret
def f46_50:AC:=.seq f46_47 f46_49
def f46_51:AC:=.seq (.reg f46_0) f46_50
def f46B:AC:=f46_51
def f46:AF:=⟨1,59,[(.t 2),(.t 3)],f46B⟩
def f47_0:List AI:=[⟨some 6,.mov (.c (.one (.int .i64 0))),none⟩]
def f47_1:List AI:=[⟨some 11,.mov (.t 0),none⟩,
    ⟨some 12,.len .slc (.t 11),none⟩,
    ⟨some 13,.mov (.c (.one (.int .i64 0))),none⟩]
def f47_2:List AI:=[⟨some 14,.bin .lss (.t 13) (.t 12),none⟩]
def f47_3:AC:=.cond (.t 14) .skip (.exit 0)
def f47_4:List AI:=[⟨some 15,.mov (.t 13),none⟩,
    ⟨some 16,.iaddr 1 (.t 11) (.t 13),none⟩,
    ⟨some 17,.load false 1 (.t 16),none⟩,
    ⟨some 7,.mov (.t 15),none⟩,
    ⟨some 8,.mov (.t 17),none⟩]
def f47_5:List AI:=[⟨some 18,.mov (.t 7),none⟩,
    ⟨some 19,.mov (.t 1),none⟩,
    ⟨some 20,.len .slc (.t 19),none⟩,
    ⟨some 21,.bin .geq (.t 18) (.t 20),none⟩]
def f47_6:List AI:=[⟨some 6,.mov (.c (.one (.int .i64 1))),none⟩]
def f47_7:AC:=.seq (.reg f47_6) .ret
def f47_8:AC:=.cond (.t 21) f47_7 .skip
def f47_9:AC:=.seq (.reg f47_5) f47_8
def f47_10:List AI:=[⟨some 22,.mov (.t 1),none⟩,
    ⟨some 23,.mov (.t 7),none⟩,
    ⟨some 24,.iaddr 1 (.t 22) (.t 23),none⟩,
    ⟨some 25,.load false 1 (.t 24),none⟩,
    ⟨some 9,.mov (.t 25),none⟩]
def f47_11:List AI:=[⟨some 26,.mov (.t 2),none⟩,
    ⟨some 27,.mov (.t 8),none⟩,
    ⟨some 28,.mov (.t 9),none⟩,
    ⟨some 29,.call (.t 26) [(.t 27),(.t 28)],none⟩,
    ⟨some 10,.mov (.t 29),none⟩]
def f47_12:List AI:=[⟨some 30,.mov (.t 10),none⟩,
    ⟨some 31,.bin .neq (.t 30) (.c (.one (.int .i64 0))),none⟩]
def f47_13:List AI:=[⟨some 32,.mov (.t 10),none⟩,
    ⟨some 6,.mov (.t 32),none⟩]
def f47_14:AC:=.seq (.reg f47_13) .ret
def f47_15:AC:=.cond (.t 31) f47_14 .skip
def f47_16:AC:=.seq (.reg f47_12) f47_15
def f47_17:AC:=.seq (.reg f47_11) f47_16
def f47_18:AC:=.seq (.reg f47_10) f47_17
def f47_19:AC:=.seq f47_9 f47_18
def f47_20:AC:=.seq (.reg f47_4) f47_19
def f47_21:AC:=.block 1 f47_20
def f47_22:List AI:=[⟨some 33,.bin .add (.t 13) (.c (.one (.int .i64 1))),none⟩,
    ⟨some 13,.mov (.t 33),none⟩]
def f47_23:AC:=.seq f47_21 (.reg f47_22)
def f47_24:AC:=.seq f47_3 f47_23
def f47_25:AC:=.seq (.reg f47_2) f47_24
def f47_26:AC:=.loop f47_25
def f47_27:AC:=.block 0 f47_26
def f47_28:AC:=.seq (.reg f47_1) f47_27
def f47_29:List AI:=[⟨some 34,.mov (.t 0),none⟩,
    ⟨some 35,.len .slc (.t 34),none⟩,
    ⟨some 36,.mov (.t 1),none⟩,
    ⟨some 37,.len .slc (.t 36),none⟩,
    ⟨some 38,.bin .lss (.t 35) (.t 37),none⟩]
def f47_30:List AI:=[⟨some 6,.mov (.c (.one (.int .i64 (-1)))),none⟩]
def f47_31:AC:=.seq (.reg f47_30) .ret
def f47_32:AC:=.cond (.t 38) f47_31 .skip
def f47_33:AC:=.seq (.reg f47_29) f47_32
def f47_34:List AI:=[⟨some 6,.mov (.c (.one (.int .i64 0))),none⟩]
def f47_35:AC:=.seq (.reg f47_34) .ret
def f47_36:AC:=.seq f47_33 f47_35
def f47_37:AC:=.seq f47_28 f47_36
def f47_38:AC:=.seq (.reg f47_0) f47_37
def f47B:AC:=f47_38
def f47:AF:=⟨3,39,[(.t 6)],f47B⟩
def f48_0:List AI:=[⟨some 4,.mov (.c (.one (.int .i64 0))),none⟩]
def f48_1:List AI:=[⟨some 7,.mov (.t 0),none⟩,
    ⟨some 8,.call (.c (.one (.fn 70 []))) [(.t 7)],none⟩,
    ⟨some 5,.mov (.t 8),none⟩]
def f48_2:List AI:=[⟨some 9,.mov (.t 1),none⟩,
    ⟨some 10,.call (.c (.one (.fn 70 []))) [(.t 9)],none⟩,
    ⟨some 6,.mov (.t 10),none⟩]
def f48_3:List AI:=[⟨some 11,.mov (.t 5),none⟩]
def f48_4:List AI:=[⟨some 12,.mov (.t 6),none⟩]
def f48_5:List AI:=[⟨some 4,.mov (.c (.one (.int .i64 0))),none⟩]
def f48_6:AC:=.seq (.reg f48_5) .ret
def f48_7:AC:=.cond (.t 12) f48_6 .skip
def f48_8:AC:=.seq (.reg f48_4) f48_7
def f48_9:List AI:=[⟨some 4,.mov (.c (.one (.int .i64 (-1)))),none⟩]
def f48_10:AC:=.seq (.reg f48_9) .ret
def f48_11:AC:=.seq f48_8 f48_10
def f48_12:AC:=.cond (.t 11) f48_11 .skip
def f48_13:AC:=.seq (.reg f48_3) f48_12
def f48_14:List AI:=[⟨some 13,.mov (.t 6),none⟩]
def f48_15:List AI:=[⟨some 4,.mov (.c (.one (.int .i64 1))),none⟩]
def f48_16:AC:=.seq (.reg f48_15) .ret
def f48_17:AC:=.cond (.t 13) f48_16 .skip
def f48_18:AC:=.seq (.reg f48_14) f48_17
def f48_19:List AI:=[⟨some 14,.mov (.t 0),none⟩,
    ⟨some 15,.mov (.t 1),none⟩,
    ⟨some 16,.bin .lss (.t 14) (.t 15),none⟩]
def f48_20:List AI:=[⟨some 4,.mov (.c (.one (.int .i64 (-1)))),none⟩]
def f48_21:AC:=.seq (.reg f48_20) .ret
def f48_22:AC:=.cond (.t 16) f48_21 .skip
def f48_23:AC:=.seq (.reg f48_19) f48_22
def f48_24:List AI:=[⟨some 17,.mov (.t 0),none⟩,
    ⟨some 18,.mov (.t 1),none⟩,
    ⟨some 19,.bin .gtr (.t 17) (.t 18),none⟩]
def f48_25:List AI:=[⟨some 4,.mov (.c (.one (.int .i64 1))),none⟩]
def f48_26:AC:=.seq (.reg f48_25) .ret
def f48_27:AC:=.cond (.t 19) f48_26 .skip
def f48_28:AC:=.seq (.reg f48_24) f48_27
def f48_29:List AI:=[⟨some 4,.mov (.c (.one (.int .i64 0))),none⟩]
def f48_30:AC:=.seq (.reg f48_29) .ret
def f48_31:AC:=.seq f48_28 f48_30
def f48_32:AC:=.seq f48_23 f48_31
def f48_33:AC:=.seq f48_18 f48_32
def f48_34:AC:=.seq f48_13 f48_33
def f48_35:AC:=.seq (.reg f48_2) f48_34
def f48_36:AC:=.seq (.reg f48_1) f48_35
def f48_37:AC:=.seq (.reg f48_0) f48_36
def f48B:AC:=f48_37
def f48:AF:=⟨2,20,[(.t 4)],f48B⟩
def f57_0:List AI:=[⟨some 2,.mov (.c (.one (.bool false))),none⟩]
def f57_1:List AI:=[⟨some 3,.mov (.t 0),none⟩,
    ⟨some 4,.bin .geq (.t 3) (.c (.one (.int .i32 0))),none⟩,
    ⟨some 5,.mov (.t 4),none⟩,
    ⟨some 6,.mov (.t 0),some (5,true)⟩,
    ⟨some 7,.bin .leq (.t 6) (.c (.one (.int .i32 1114111))),some (5,true)⟩,
    ⟨some 8,.pick (.t 5) (.t 7) (.c (.one (.bool false))),none⟩,
    ⟨some 9,.mov (.t 8),none⟩,
    ⟨some 10,.mov (.t 0),some (9,true)⟩,
    ⟨some 11,.bin .geq (.t 10) (.c (.one (.int .i32 55296))),some (9,true)⟩,
    ⟨some 12,.mov (.t 11),some (9,true)⟩,
    ⟨some 13,.mov (.t 0),some (12,true)⟩,
    ⟨some 14,.bin .leq (.t 13) (.c (.one (.int .i32 57343))),some (12,true)⟩,
    ⟨some 15,.pick (.t 12) (.t 14) (.c (.one (.bool false))),some (9,true)⟩,
    ⟨some 16,.un .not (.t 15),some (9,true)⟩,
    ⟨some 17,.pick (.t 9) (.t 16) (.c (.one (.bool false))),none⟩,
    ⟨some 2,.mov (.t 17),none⟩]
def f57_2:AC:=.seq (.reg f57_1) .ret
def f57_3:AC:=.seq (.reg f57_0) f57_2
def f57B:AC:=f57_3
def f57:AF:=⟨1,18,[(.t 2)],f57B⟩
def f68_0:List AI:=[⟨some 5,.load false 1 (.t 1),none⟩,
    ⟨some 6,.len .str (.t 5),none⟩,
    ⟨some 7,.bin .gtr (.t 6) (.c (.one (.int .i64 0))),none⟩]
def f68_1:AC:=.cond (.t 7) .skip (.exit 0)
def f68_2:AC:=.seq (.reg f68_0) f68_1
def f68_3:List AI:=[⟨some 9,.load false 1 (.t 1),none⟩,
    ⟨some 10,.call (.c (.one (.fn 69 []))) [(.t 9)],none⟩,
    ⟨some 8,.mov (.t 10),none⟩,
    ⟨some 11,.ext (.t 8) 0,none⟩,
    ⟨some 12,.ext (.t 8) 1,none⟩,
    ⟨some 3,.mov (.t 11),none⟩,
    ⟨some 4,.mov (.t 12),none⟩]
def f68_4:List AI:=[⟨some 13,.mov (.t 0),none⟩,
    ⟨some 14,.mov (.t 3),none⟩,
    ⟨some 15,.mov (.t 3),none⟩,
    ⟨some 16,.bin .neq (.t 15) (.c (.one (.int .i32 65533))),none⟩,
    ⟨some 17,.mov (.t 16),none⟩,
    ⟨some 18,.mov (.t 4),some (17,false)⟩,
    ⟨some 19,.bin .gtr (.t 18) (.c (.one (.int .i64 1))),some (17,false)⟩,
    ⟨some 20,.pick (.t 17) (.c (.one (.bool true))) (.t 19),none⟩,
    ⟨some 21,.call (.t 13) [(.t 14),(.t 20)],none⟩,
    ⟨some 22,.un .not (.t 21),none⟩]
def f68_5:AC:=.cond (.t 22) .ret .skip
def f68_6:AC:=.seq (.reg f68_4) f68_5
def f68_7:List AI:=[⟨some 23,.load false 1 (.t 1),none⟩,
    ⟨some 24,.mov (.t 4),none⟩,
    ⟨some 25,.slice .str 1 (.t 23) (some (.t 24)) none none,none⟩,
    ⟨none,.store 1 (.t 1) (.t 25),none⟩]
def f68_8:AC:=.seq f68_6 (.reg f68_7)
def f68_9:AC:=.seq (.reg f68_3) f68_8
def f68_10:AC:=.block 1 f68_9
def f68_11:AC:=.seq f68_2 f68_10
def f68_12:AC:=.loop f68_11
def f68_13:AC:=.block 0 f68_12
def f68B:AC:=f68_13
def f68:AF:=⟨2,26,[],f68B⟩
end Go.EA.F
