/- Functions of the program, as abstract code (printed by a program). Conditions: none (definitions). -/
import Derived.Test.YtmfjbaepgfdfpaaDoorEK1
namespace Go.EA.F
def f13_0:List AI:=[⟨some 4,.mov (.c (.one (.bool false))),none⟩]
def f13_1:List AI:=[⟨some 17,.call (.c (.one (.fn 26 []))) [],none⟩,
    ⟨some 18,.un .not (.t 17),none⟩]
def f13_2:List AI:=[⟨some 4,.mov (.c (.one (.bool false))),none⟩]
def f13_3:AC:=.seq (.reg f13_2) .ret
def f13_4:AC:=.cond (.t 18) f13_3 .skip
def f13_5:AC:=.seq (.reg f13_1) f13_4
def f13_6:List AI:=[⟨some 19,.mov (.t 0),none⟩,
    ⟨some 20,.len .str (.t 19),none⟩,
    ⟨some 21,.bin .gtr (.t 20) (.c (.one (.int .i64 500))),none⟩,
    ⟨some 22,.mov (.t 21),none⟩,
    ⟨some 23,.mov (.t 1),some (22,false)⟩,
    ⟨some 24,.len .str (.t 23),some (22,false)⟩,
    ⟨some 25,.bin .gtr (.t 24) (.c (.one (.int .i64 500))),some (22,false)⟩,
    ⟨some 26,.pick (.t 22) (.c (.one (.bool true))) (.t 25),none⟩,
    ⟨some 27,.mov (.t 26),none⟩,
    ⟨some 28,.mov (.t 0),some (27,false)⟩,
    ⟨some 29,.call (.c (.one (.fn 22 []))) [(.t 28)],some (27,false)⟩,
    ⟨some 30,.un .not (.t 29),some (27,false)⟩,
    ⟨some 31,.pick (.t 27) (.c (.one (.bool true))) (.t 30),none⟩]
def f13_7:List AI:=[⟨some 4,.mov (.c (.one (.bool true))),none⟩]
def f13_8:AC:=.seq (.reg f13_7) .ret
def f13_9:AC:=.cond (.t 31) f13_8 .skip
def f13_10:AC:=.seq (.reg f13_6) f13_9
def f13_11:List AI:=[⟨some 33,.mov (.t 0),none⟩,
    ⟨some 34,.call (.c (.one (.fn 29 []))) [(.t 33)],none⟩,
    ⟨some 32,.mov (.t 34),none⟩,
    ⟨some 35,.ext (.t 32) 0,none⟩,
    ⟨some 36,.ext (.t 32) 1,none⟩,
    ⟨some 5,.mov (.t 35),none⟩,
    ⟨some 6,.mov (.t 36),none⟩]
def f13_12:List AI:=[⟨some 38,.mov (.t 0),none⟩,
    ⟨some 39,.bin .add (.t 38) (.c (.one (.str [55]))),none⟩,
    ⟨some 40,.mov (.t 0),none⟩,
    ⟨some 41,.bin .add (.t 39) (.t 40),none⟩,
    ⟨some 42,.call (.c (.one (.fn 29 []))) [(.t 41)],none⟩,
    ⟨some 37,.mov (.t 42),none⟩,
    ⟨some 43,.ext (.t 37) 0,none⟩,
    ⟨some 44,.ext (.t 37) 1,none⟩,
    ⟨some 7,.mov (.t 43),none⟩,
    ⟨some 8,.mov (.t 44),none⟩]
def f13_13:List AI:=[⟨some 45,.mov (.t 6),none⟩,
    ⟨some 46,.bin .neq (.t 45) (.c (.one (.int .i64 0))),none⟩,
    ⟨some 47,.mov (.t 46),none⟩,
    ⟨some 48,.mov (.t 8),some (47,false)⟩,
    ⟨some 49,.bin .neq (.t 48) (.c (.one (.int .i64 0))),some (47,false)⟩,
    ⟨some 50,.pick (.t 47) (.c (.one (.bool true))) (.t 49),none⟩,
    ⟨some 51,.mov (.t 50),none⟩,
    ⟨some 52,.mov (.t 5),some (51,false)⟩,
    ⟨some 53,.mov (.t 0),some (51,false)⟩,
    ⟨some 54,.rowLit 1 [(.str [])] 1 [(0,(.t 53))],some (51,false)⟩,
    ⟨some 55,.call (.c (.one (.fn 32 []))) [(.t 52),(.t 54)],some (51,false)⟩,
    ⟨some 56,.un .not (.t 55),some (51,false)⟩,
    ⟨some 57,.pick (.t 51) (.c (.one (.bool true))) (.t 56),none⟩,
    ⟨some 58,.mov (.t 57),none⟩,
    ⟨some 59,.mov (.t 7),some (58,false)⟩,
    ⟨some 60,.mov (.t 0),some (58,false)⟩,
    ⟨some 61,.mov (.t 0),some (58,false)⟩,
    ⟨some 62,.rowLit 1 [(.str [])] 2 [(0,(.t 60)),(1,(.t 61))],some (58,false)⟩,
    ⟨some 63,.call (.c (.one (.fn 32 []))) [(.t 59),(.t 62)],some (58,false)⟩,
    ⟨some 64,.un .not (.t 63),some (58,false)⟩,
    ⟨some 65,.pick (.t 58) (.c (.one (.bool true))) (.t 64),none⟩]
def f13_14:List AI:=[⟨some 4,.mov (.c (.one (.bool false))),none⟩]
def f13_15:AC:=.seq (.reg f13_14) .ret
def f13_16:AC:=.cond (.t 65) f13_15 .skip
def f13_17:AC:=.seq (.reg f13_13) f13_16
def f13_18:List AI:=[⟨some 67,.mov (.t 1),none⟩,
    ⟨some 68,.call (.c (.one (.fn 17 []))) [(.t 67)],none⟩,
    ⟨some 66,.mov (.t 68),none⟩,
    ⟨some 69,.ext (.t 66) 0,none⟩,
    ⟨some 70,.ext (.t 66) 1,none⟩,
    ⟨some 9,.mov (.t 69),none⟩,
    ⟨some 10,.mov (.t 70),none⟩]
def f13_19:List AI:=[⟨some 71,.mov (.t 9),none⟩,
    ⟨some 72,.len .slc (.t 71),none⟩,
    ⟨some 73,.mov (.c (.one (.int .i64 0))),none⟩]
def f13_20:List AI:=[⟨some 74,.bin .lss (.t 73) (.t 72),none⟩]
def f13_21:AC:=.cond (.t 74) .skip (.exit 0)
def f13_22:List AI:=[⟨some 75,.iaddr 1 (.t 71) (.t 73),none⟩,
    ⟨some 76,.load false 1 (.t 75),none⟩,
    ⟨some 12,.mov (.t 76),none⟩]
def f13_23:List AI:=[⟨some 77,.mov (.t 12),none⟩,
    ⟨some 78,.call (.c (.one (.fn 35 []))) [(.t 77)],none⟩]
def f13_24:List AI:=[⟨some 4,.mov (.c (.one (.bool true))),none⟩]
def f13_25:AC:=.seq (.reg f13_24) .ret
def f13_26:AC:=.cond (.t 78) f13_25 .skip
def f13_27:AC:=.seq (.reg f13_23) f13_26
def f13_28:AC:=.seq (.reg f13_22) f13_27
def f13_29:AC:=.block 1 f13_28
def f13_30:List AI:=[⟨some 79,.bin .add (.t 73) (.c (.one (.int .i64 1))),none⟩,
    ⟨some 73,.mov (.t 79),none⟩]
def f13_31:AC:=.seq f13_29 (.reg f13_30)
def f13_32:AC:=.seq f13_21 f13_31
def f13_33:AC:=.seq (.reg f13_20) f13_32
def f13_34:AC:=.loop f13_33
def f13_35:AC:=.block 0 f13_34
def f13_36:AC:=.seq (.reg f13_19) f13_35
def f13_37:List AI:=[⟨some 81,.mov (.t 1),none⟩,
    ⟨some 82,.call (.c (.one (.fn 29 []))) [(.t 81)],none⟩,
    ⟨some 80,.mov (.t 82),none⟩,
    ⟨some 83,.ext (.t 80) 0,none⟩,
    ⟨some 84,.ext (.t 80) 1,none⟩,
    ⟨some 13,.mov (.t 83),none⟩,
    ⟨some 14,.mov (.t 84),none⟩]
def f13_38:List AI:=[⟨some 86,.mov (.t 1),none⟩,
    ⟨some 87,.mov (.t 0),none⟩,
    ⟨some 88,.bin .add (.t 86) (.t 87),none⟩,
    ⟨some 89,.mov (.t 1),none⟩,
    ⟨some 90,.bin .add (.t 88) (.t 89),none⟩,
    ⟨some 91,.call (.c (.one (.fn 29 []))) [(.t 90)],none⟩,
    ⟨some 85,.mov (.t 91),none⟩,
    ⟨some 92,.ext (.t 85) 0,none⟩,
    ⟨some 93,.ext (.t 85) 1,none⟩,
    ⟨some 15,.mov (.t 92),none⟩,
    ⟨some 16,.mov (.t 93),none⟩]
def f13_39:List AI:=[⟨some 94,.mov (.t 10),none⟩,
    ⟨some 95,.bin .neq (.t 94) (.c (.one (.int .i64 0))),none⟩]
def f13_40:List AI:=[⟨some 96,.mov (.t 14),none⟩,
    ⟨some 97,.mov (.t 10),none⟩,
    ⟨some 98,.bin .eql (.t 96) (.t 97),none⟩,
    ⟨some 99,.mov (.t 98),none⟩,
    ⟨some 100,.mov (.t 16),some (99,true)⟩,
    ⟨some 101,.mov (.t 10),some (99,true)⟩,
    ⟨some 102,.bin .eql (.t 100) (.t 101),some (99,true)⟩,
    ⟨some 103,.pick (.t 99) (.t 102) (.c (.one (.bool false))),none⟩,
    ⟨some 4,.mov (.t 103),none⟩]
def f13_41:AC:=.seq (.reg f13_40) .ret
def f13_42:AC:=.cond (.t 95) f13_41 .skip
def f13_43:AC:=.seq (.reg f13_39) f13_42
def f13_44:List AI:=[⟨some 104,.mov (.t 14),none⟩,
    ⟨some 105,.bin .eql (.t 104) (.c (.one (.int .i64 0))),none⟩,
    ⟨some 106,.mov (.t 105),none⟩,
    ⟨some 107,.mov (.t 13),some (106,true)⟩,
    ⟨some 108,.len .slc (.t 107),some (106,true)⟩,
    ⟨some 109,.bin .eql (.t 108) (.c (.one (.int .i64 0))),some (106,true)⟩,
    ⟨some 110,.pick (.t 106) (.t 109) (.c (.one (.bool false))),none⟩,
    ⟨some 111,.mov (.t 110),none⟩,
    ⟨some 112,.mov (.t 16),some (111,true)⟩,
    ⟨some 113,.bin .eql (.t 112) (.c (.one (.int .i64 0))),some (111,true)⟩,
    ⟨some 114,.pick (.t 111) (.t 113) (.c (.one (.bool false))),none⟩,
    ⟨some 115,.mov (.t 114),none⟩,
    ⟨some 116,.mov (.t 15),some (115,true)⟩,
    ⟨some 117,.mov (.t 0),some (115,true)⟩,
    ⟨some 118,.rowLit 1 [(.str [])] 1 [(0,(.t 117))],some (115,true)⟩,
    ⟨some 119,.call (.c (.one (.fn 32 []))) [(.t 116),(.t 118)],some (115,true)⟩,
    ⟨some 120,.pick (.t 115) (.t 119) (.c (.one (.bool false))),none⟩,
    ⟨some 4,.mov (.t 120),none⟩]
def f13_45:AC:=.seq (.reg f13_44) .ret
def f13_46:AC:=.seq f13_43 f13_45
def f13_47:AC:=.seq (.reg f13_38) f13_46
def f13_48:AC:=.seq (.reg f13_37) f13_47
def f13_49:AC:=.seq f13_36 f13_48
def f13_50:AC:=.seq (.reg f13_18) f13_49
def f13_51:AC:=.seq f13_17 f13_50
def f13_52:AC:=.seq (.reg f13_12) f13_51
def f13_53:AC:=.seq (.reg f13_11) f13_52
def f13_54:AC:=.seq f13_10 f13_53
def f13_55:AC:=.seq f13_5 f13_54
def f13_56:AC:=.seq (.reg f13_0) f13_55
def f13B:AC:=f13_56
def f13:AF:=⟨2,121,[(.t 4)],f13B⟩
def f26_0:List AI:=[⟨some 0,.mov (.c (.one (.bool false))),none⟩]
def f26_1:List AI:=[⟨some 4,.call (.c (.one (.fn 27 []))) [(.c (.one (.str [97,98,32,49,99])))],none⟩,
    ⟨some 3,.mov (.t 4),none⟩,
    ⟨some 5,.ext (.t 3) 0,none⟩,
    ⟨some 6,.ext (.t 3) 1,none⟩,
    ⟨some 1,.mov (.t 5),none⟩,
    ⟨some 2,.mov (.t 6),none⟩]
def f26_2:List AI:=[⟨some 7,.mov (.t 1),none⟩,
    ⟨some 8,.len .slc (.t 7),none⟩,
    ⟨some 9,.bin .eql (.t 8) (.c (.one (.int .i64 3))),none⟩,
    ⟨some 10,.mov (.t 9),none⟩,
    ⟨some 11,.mov (.t 1),some (10,true)⟩,
    ⟨some 12,.iaddr 3 (.t 11) (.c (.one (.int .i64 0))),some (10,true)⟩,
    ⟨some 13,.load true 3 (.t 12),some (10,true)⟩,
    ⟨some 14,.build [(.int .i64 0),(.int .i64 0),(.bool false)] [(0,(1,(.c (.one (.int .i64 0))))),(1,(1,(.c (.one (.int .i64 2))))),(2,(1,(.c (.one (.bool true)))))],some (10,true)⟩,
    ⟨some 15,.eqv (.cells [(.int .i64),(.int .i64),.bool]) false (.t 13) (.t 14),some (10,true)⟩,
    ⟨some 16,.pick (.t 10) (.t 15) (.c (.one (.bool false))),none⟩,
    ⟨some 17,.mov (.t 16),none⟩,
    ⟨some 18,.mov (.t 1),some (17,true)⟩,
    ⟨some 19,.iaddr 3 (.t 18) (.c (.one (.int .i64 1))),some (17,true)⟩,
    ⟨some 20,.faddr 1 (.t 19),some (17,true)⟩,
    ⟨some 21,.load false 1 (.t 20),some (17,true)⟩,
    ⟨some 22,.bin .eql (.t 21) (.c (.one (.int .i64 4))),some (17,true)⟩,
    ⟨some 23,.pick (.t 17) (.t 22) (.c (.one (.bool false))),none⟩,
    ⟨some 24,.mov (.t 23),none⟩,
    ⟨some 25,.mov (.t 1),some (24,true)⟩,
    ⟨some 26,.iaddr 3 (.t 25) (.c (.one (.int .i64 2))),some (24,true)⟩,
    ⟨some 27,.faddr 2 (.t 26),some (24,true)⟩,
    ⟨some 28,.load false 1 (.t 27),some (24,true)⟩,
    ⟨some 29,.pick (.t 24) (.t 28) (.c (.one (.bool false))),none⟩,
    ⟨some 30,.mov (.t 29),none⟩,
    ⟨some 31,.mov (.t 2),some (30,true)⟩,
    ⟨some 32,.bin .eql (.t 31) (.c (.one (.int .i64 0))),some (30,true)⟩,
    ⟨some 33,.pick (.t 30) (.t 32) (.c (.one (.bool false))),none⟩,
    ⟨some 0,.mov (.t 33),none⟩]
def f26_3:AC:=.seq (.reg f26_2) .ret
def f26_4:AC:=.seq (.reg f26_1) f26_3
def f26_5:AC:=.seq (.reg f26_0) f26_4
def f26B:AC:=f26_5
def f26:AF:=⟨0,34,[(.t 0)],f26B⟩
def f27_0:List AI:=[⟨some 2,.mov (.c (.one .nils)),none⟩,
    ⟨some 3,.mov (.c (.one (.int .i64 0))),none⟩]
def f27_1:List AI:=[⟨some 8,.mov (.t 0),none⟩,
    ⟨some 9,.len .str (.t 8),none⟩,
    ⟨some 10,.bin .gtr (.t 9) (.c (.one (.int .i64 1048576))),none⟩,
    ⟨some 7,.mov (.t 10),none⟩]
def f27_2:List AI:=[⟨some 2,.mov (.c (.one .nils)),none⟩,
    ⟨some 3,.mov (.c (.one (.int .i64 5))),none⟩]
def f27_3:AC:=.seq (.reg f27_2) .ret
def f27_4:List AI:=[⟨some 12,.mov (.t 0),none⟩,
    ⟨some 13,.call (.c (.one (.fn 38 []))) [(.t 12)],none⟩,
    ⟨some 14,.un .not (.t 13),none⟩,
    ⟨some 11,.mov (.t 14),none⟩]
def f27_5:List AI:=[⟨some 2,.mov (.c (.one .nils)),none⟩,
    ⟨some 3,.mov (.c (.one (.int .i64 3))),none⟩]
def f27_6:AC:=.seq (.reg f27_5) .ret
def f27_7:AC:=.cond (.t 11) f27_6 .skip
def f27_8:AC:=.seq (.reg f27_4) f27_7
def f27_9:AC:=.cond (.t 7) f27_3 f27_8
def f27_10:AC:=.seq (.reg f27_1) f27_9
def f27_11:AC:=.block 0 f27_10
def f27_12:List AI:=[⟨some 4,.mov (.c (.one (.bool true))),none⟩]
def f27_13:List AI:=[⟨some 5,.mov (.c (.one (.int .i64 0))),none⟩]
def f27_14:List AI:=[⟨some 15,.mov (.t 5),none⟩,
    ⟨some 16,.mov (.t 0),none⟩,
    ⟨some 17,.len .str (.t 16),none⟩,
    ⟨some 18,.bin .lss (.t 15) (.t 17),none⟩]
def f27_15:AC:=.cond (.t 18) .skip (.exit 1)
def f27_16:AC:=.seq (.reg f27_14) f27_15
def f27_17:List AI:=[⟨some 21,.mov (.t 0),none⟩,
    ⟨some 22,.mov (.t 5),none⟩,
    ⟨some 23,.slice .str 1 (.t 21) (some (.t 22)) none none,none⟩,
    ⟨some 24,.mov (.t 4),none⟩,
    ⟨some 25,.call (.c (.one (.fn 50 []))) [(.t 23),(.t 24)],none⟩,
    ⟨some 6,.mov (.t 25),none⟩]
def f27_18:List AI:=[⟨some 26,.mov (.t 6),none⟩,
    ⟨some 27,.bin .gtr (.t 26) (.c (.one (.int .i64 0))),none⟩]
def f27_19:List AI:=[⟨some 28,.mov (.t 2),none⟩,
    ⟨some 29,.mov (.t 5),none⟩,
    ⟨some 30,.mov (.t 5),none⟩,
    ⟨some 31,.mov (.t 6),none⟩,
    ⟨some 32,.bin .add (.t 30) (.t 31),none⟩,
    ⟨some 33,.mov (.t 4),none⟩,
    ⟨some 34,.build [(.int .i64 0),(.int .i64 0),(.bool false)] [(0,(1,(.t 29))),(1,(1,(.t 32))),(2,(1,(.t 33)))],none⟩,
    ⟨some 35,.rowLit 3 [(.int .i64 0),(.int .i64 0),(.bool false)] 1 [(0,(.t 34))],none⟩,
    ⟨some 36,.app 3 24 (.t 28) (.t 35),none⟩,
    ⟨some 2,.mov (.t 36),none⟩]
def f27_20:List AI:=[⟨some 37,.mov (.t 5),none⟩,
    ⟨some 38,.mov (.t 6),none⟩,
    ⟨some 39,.bin .add (.t 37) (.t 38),none⟩,
    ⟨some 5,.mov (.t 39),none⟩]
def f27_21:AC:=.seq (.reg f27_19) (.reg f27_20)
def f27_22:AC:=.cond (.t 27) f27_21 .skip
def f27_23:AC:=.seq (.reg f27_18) f27_22
def f27_24:AC:=.seq (.reg f27_17) f27_23
def f27_25:AC:=.block 2 f27_24
def f27_26:List AI:=[⟨some 19,.mov (.t 4),none⟩,
    ⟨some 20,.un .not (.t 19),none⟩,
    ⟨some 4,.mov (.t 20),none⟩]
def f27_27:AC:=.seq f27_25 (.reg f27_26)
def f27_28:AC:=.seq f27_16 f27_27
def f27_29:AC:=.loop f27_28
def f27_30:AC:=.block 1 f27_29
def f27_31:AC:=.seq (.reg f27_13) f27_30
def f27_32:List AI:=[⟨some 40,.mov (.t 2),none⟩,
    ⟨some 2,.mov (.t 40),none⟩,
    ⟨some 3,.mov (.c (.one (.int .i64 0))),none⟩]
def f27_33:AC:=.seq (.reg f27_32) .ret
def f27_34:AC:=.seq f27_31 f27_33
def f27_35:AC:=.seq (.reg f27_12) f27_34
def f27_36:AC:=.seq f27_11 f27_35
def f27_37:AC:=.seq (.reg f27_0) f27_36
def f27B:AC:=f27_37
def f27:AF:=⟨1,41,[(.t 2),(.t 3)],f27B⟩
def f28_0:List AI:=[⟨some 2,.mov (.c (.one .nils)),none⟩,
    ⟨some 3,.mov (.c (.one (.int .i64 0))),none⟩]
def f28_1:List AI:=[⟨some 12,.mov (.t 0),none⟩,
    ⟨some 13,.len .str (.t 12),none⟩,
    ⟨some 14,.bin .gtr (.t 13) (.c (.one (.int .i64 1048576))),none⟩]
def f28_2:List AI:=[⟨some 2,.mov (.c (.one .nils)),none⟩,
    ⟨some 3,.mov (.c (.one (.int .i64 5))),none⟩]
def f28_3:AC:=.seq (.reg f28_2) .ret
def f28_4:AC:=.cond (.t 14) f28_3 .skip
def f28_5:AC:=.seq (.reg f28_1) f28_4
def f28_6:List AI:=[⟨some 16,.mov (.t 0),none⟩,
    ⟨some 17,.call (.c (.one (.fn 19 []))) [(.t 16)],none⟩,
    ⟨some 15,.mov (.t 17),none⟩,
    ⟨some 18,.ext (.t 15) 0,none⟩,
    ⟨some 19,.ext (.t 15) 1,none⟩,
    ⟨some 4,.mov (.t 18),none⟩,
    ⟨some 5,.mov (.t 19),none⟩]
def f28_7:List AI:=[⟨some 20,.mov (.t 5),none⟩,
    ⟨some 21,.bin .neq (.t 20) (.c (.one (.int .i64 0))),none⟩]
def f28_8:List AI:=[⟨some 22,.mov (.t 5),none⟩,
    ⟨some 2,.mov (.c (.one .nils)),none⟩,
    ⟨some 3,.mov (.t 22),none⟩]
def f28_9:AC:=.seq (.reg f28_8) .ret
def f28_10:AC:=.cond (.t 21) f28_9 .skip
def f28_11:AC:=.seq (.reg f28_7) f28_10
def f28_12:List AI:=[⟨some 6,.mov (.c (.one .nils)),none⟩]
def f28_13:List AI:=[⟨some 7,.mov (.c (.one (.int .i64 0))),none⟩]
def f28_14:List AI:=[⟨some 23,.mov (.t 4),none⟩,
    ⟨some 24,.len .slc (.t 23),none⟩,
    ⟨some 25,.mov (.c (.one (.int .i64 0))),none⟩]
def f28_15:List AI:=[⟨some 26,.bin .lss (.t 25) (.t 24),none⟩]
def f28_16:AC:=.cond (.t 26) .skip (.exit 0)
def f28_17:List AI:=[⟨some 27,.iaddr 1 (.t 23) (.t 25),none⟩,
    ⟨some 28,.load false 1 (.t 27),none⟩,
    ⟨some 9,.mov (.t 28),none⟩]
def f28_18:List AI:=[⟨some 29,.mov (.t 9),none⟩,
    ⟨some 30,.rowLit 1 [(.int .i32 0)] 1 [(0,(.t 29))],none⟩,
    ⟨some 31,.call (.c (.one (.fn 51 []))) [(.t 30)],none⟩,
    ⟨some 32,.len .str (.t 31),none⟩,
    ⟨some 10,.mov (.t 32),none⟩]
def f28_19:List AI:=[⟨some 33,.mov (.t 9),none⟩,
    ⟨some 34,.call (.c (.one (.fn 36 []))) [(.t 33)],none⟩,
    ⟨some 11,.mov (.t 34),none⟩]
def f28_20:List AI:=[⟨some 35,.mov (.t 6),none⟩,
    ⟨some 36,.len .slc (.t 35),none⟩,
    ⟨some 37,.bin .gtr (.t 36) (.c (.one (.int .i64 0))),none⟩,
    ⟨some 38,.mov (.t 37),none⟩,
    ⟨some 39,.mov (.t 6),some (38,true)⟩,
    ⟨some 40,.mov (.t 6),some (38,true)⟩,
    ⟨some 41,.len .slc (.t 40),some (38,true)⟩,
    ⟨some 42,.bin .sub (.t 41) (.c (.one (.int .i64 1))),some (38,true)⟩,
    ⟨some 43,.iaddr 3 (.t 39) (.t 42),some (38,true)⟩,
    ⟨some 44,.faddr 2 (.t 43),some (38,true)⟩,
    ⟨some 45,.load false 1 (.t 44),some (38,true)⟩,
    ⟨some 46,.mov (.t 11),some (38,true)⟩,
    ⟨some 47,.eqv .bool false (.t 45) (.t 46),some (38,true)⟩,
    ⟨some 48,.pick (.t 38) (.t 47) (.c (.one (.bool false))),none⟩]
def f28_21:List AI:=[⟨some 49,.mov (.t 6),none⟩,
    ⟨some 50,.mov (.t 6),none⟩,
    ⟨some 51,.len .slc (.t 50),none⟩,
    ⟨some 52,.bin .sub (.t 51) (.c (.one (.int .i64 1))),none⟩,
    ⟨some 53,.mov (.t 7),none⟩,
    ⟨some 54,.mov (.t 10),none⟩,
    ⟨some 55,.bin .add (.t 53) (.t 54),none⟩,
    ⟨some 56,.iaddr 3 (.t 49) (.t 52),none⟩,
    ⟨some 57,.faddr 1 (.t 56),none⟩,
    ⟨none,.store 1 (.t 57) (.t 55),none⟩]
def f28_22:List AI:=[⟨some 58,.mov (.t 6),none⟩,
    ⟨some 59,.mov (.t 7),none⟩,
    ⟨some 60,.mov (.t 7),none⟩,
    ⟨some 61,.mov (.t 10),none⟩,
    ⟨some 62,.bin .add (.t 60) (.t 61),none⟩,
    ⟨some 63,.mov (.t 11),none⟩,
    ⟨some 64,.build [(.int .i64 0),(.int .i64 0),(.bool false)] [(0,(1,(.t 59))),(1,(1,(.t 62))),(2,(1,(.t 63)))],none⟩,
    ⟨some 65,.rowLit 3 [(.int .i64 0),(.int .i64 0),(.bool false)] 1 [(0,(.t 64))],none⟩,
    ⟨some 66,.app 3 24 (.t 58) (.t 65),none⟩,
    ⟨some 6,.mov (.t 66),none⟩]
def f28_23:AC:=.cond (.t 48) (.reg f28_21) (.reg f28_22)
def f28_24:AC:=.seq (.reg f28_20) f28_23
def f28_25:List AI:=[⟨some 67,.mov (.t 7),none⟩,
    ⟨some 68,.mov (.t 10),none⟩,
    ⟨some 69,.bin .add (.t 67) (.t 68),none⟩,
    ⟨some 7,.mov (.t 69),none⟩]
def f28_26:AC:=.seq f28_24 (.reg f28_25)
def f28_27:AC:=.seq (.reg f28_19) f28_26
def f28_28:AC:=.seq (.reg f28_18) f28_27
def f28_29:AC:=.seq (.reg f28_17) f28_28
def f28_30:AC:=.block 1 f28_29
def f28_31:List AI:=[⟨some 70,.bin .add (.t 25) (.c (.one (.int .i64 1))),none⟩,
    ⟨some 25,.mov (.t 70),none⟩]
def f28_32:AC:=.seq f28_30 (.reg f28_31)
def f28_33:AC:=.seq f28_16 f28_32
def f28_34:AC:=.seq (.reg f28_15) f28_33
def f28_35:AC:=.loop f28_34
def f28_36:AC:=.block 0 f28_35
def f28_37:AC:=.seq (.reg f28_14) f28_36
def f28_38:List AI:=[⟨some 71,.mov (.t 6),none⟩,
    ⟨some 2,.mov (.t 71),none⟩,
    ⟨some 3,.mov (.c (.one (.int .i64 0))),none⟩]
def f28_39:AC:=.seq (.reg f28_38) .ret
def f28_40:AC:=.seq f28_37 f28_39
def f28_41:AC:=.seq (.reg f28_13) f28_40
def f28_42:AC:=.seq (.reg f28_12) f28_41
def f28_43:AC:=.seq f28_11 f28_42
def f28_44:AC:=.seq (.reg f28_6) f28_43
def f28_45:AC:=.seq f28_5 f28_44
def f28_46:AC:=.seq (.reg f28_0) f28_45
def f28B:AC:=f28_46
def f28:AF:=⟨1,72,[(.t 2),(.t 3)],f28B⟩
def f30_0:List AI:=[⟨some 2,.mov (.c (.one .nils)),none⟩,
    ⟨some 3,.mov (.c (.one (.int .i64 0))),none⟩]
def f30_1:List AI:=[⟨some 10,.mov (.t 0),none⟩,
    ⟨some 11,.call (.c (.one (.fn 28 []))) [(.t 10)],none⟩,
    ⟨some 9,.mov (.t 11),none⟩,
    ⟨some 12,.ext (.t 9) 0,none⟩,
    ⟨some 13,.ext (.t 9) 1,none⟩,
    ⟨some 4,.mov (.t 12),none⟩,
    ⟨some 5,.mov (.t 13),none⟩]
def f30_2:List AI:=[⟨some 6,.mov (.c (.one .nils)),none⟩]
def f30_3:List AI:=[⟨some 14,.mov (.t 4),none⟩,
    ⟨some 15,.len .slc (.t 14),none⟩,
    ⟨some 16,.mov (.c (.one (.int .i64 0))),none⟩]
def f30_4:List AI:=[⟨some 17,.bin .lss (.t 16) (.t 15),none⟩]
def f30_5:AC:=.cond (.t 17) .skip (.exit 0)
def f30_6:List AI:=[⟨some 18,.iaddr 3 (.t 14) (.t 16),none⟩,
    ⟨some 19,.load true 3 (.t 18),none⟩,
    ⟨some 8,.new [(.int .i64 0),(.int .i64 0),(.bool false)],none⟩,
    ⟨none,.store 3 (.t 8) (.t 19),none⟩]
def f30_7:List AI:=[⟨some 20,.faddr 2 (.t 8),none⟩,
    ⟨some 21,.load false 1 (.t 20),none⟩]
def f30_8:List AI:=[⟨some 22,.mov (.t 6),none⟩,
    ⟨some 23,.mov (.t 0),none⟩,
    ⟨some 24,.faddr 0 (.t 8),none⟩,
    ⟨some 25,.load false 1 (.t 24),none⟩,
    ⟨some 26,.faddr 1 (.t 8),none⟩,
    ⟨some 27,.load false 1 (.t 26),none⟩,
    ⟨some 28,.slice .str 1 (.t 23) (some (.t 25)) (some (.t 27)) none,none⟩,
    ⟨some 29,.rowLit 1 [(.str [])] 1 [(0,(.t 28))],none⟩,
    ⟨some 30,.app 1 16 (.t 22) (.t 29),none⟩,
    ⟨some 6,.mov (.t 30),none⟩]
def f30_9:AC:=.cond (.t 21) (.reg f30_8) .skip
def f30_10:AC:=.seq (.reg f30_7) f30_9
def f30_11:AC:=.seq (.reg f30_6) f30_10
def f30_12:AC:=.block 1 f30_11
def f30_13:List AI:=[⟨some 31,.bin .add (.t 16) (.c (.one (.int .i64 1))),none⟩,
    ⟨some 16,.mov (.t 31),none⟩]
def f30_14:AC:=.seq f30_12 (.reg f30_13)
def f30_15:AC:=.seq f30_5 f30_14
def f30_16:AC:=.seq (.reg f30_4) f30_15
def f30_17:AC:=.loop f30_16
def f30_18:AC:=.block 0 f30_17
def f30_19:AC:=.seq (.reg f30_3) f30_18
def f30_20:List AI:=[⟨some 32,.mov (.t 6),none⟩,
    ⟨some 33,.mov (.t 5),none⟩,
    ⟨some 2,.mov (.t 32),none⟩,
    ⟨some 3,.mov (.t 33),none⟩]
def f30_21:AC:=.seq (.reg f30_20) .ret
def f30_22:AC:=.seq f30_19 f30_21
def f30_23:AC:=.seq (.reg f30_2) f30_22
def f30_24:AC:=.seq (.reg f30_1) f30_23
def f30_25:AC:=.seq (.reg f30_0) f30_24
def f30B:AC:=f30_25
def f30:AF:=⟨1,34,[(.t 2),(.t 3)],f30B⟩
def f31_0:List AI:=[⟨some 4,.mov (.c (.one (.bool false))),none⟩]
def f31_1:List AI:=[⟨some 6,.mov (.t 0),none⟩,
    ⟨some 7,.len .slc (.t 6),none⟩,
    ⟨some 8,.mov (.t 1),none⟩,
    ⟨some 9,.len .slc (.t 8),none⟩,
    ⟨some 10,.bin .neq (.t 7) (.t 9),none⟩]
def f31_2:List AI:=[⟨some 4,.mov (.c (.one (.bool false))),none⟩]
def f31_3:AC:=.seq (.reg f31_2) .ret
def f31_4:AC:=.cond (.t 10) f31_3 .skip
def f31_5:AC:=.seq (.reg f31_1) f31_4
def f31_6:List AI:=[⟨some 11,.mov (.t 0),none⟩,
    ⟨some 12,.len .slc (.t 11),none⟩,
    ⟨some 13,.mov (.c (.one (.int .i64 0))),none⟩]
def f31_7:List AI:=[⟨some 14,.bin .lss (.t 13) (.t 12),none⟩]
def f31_8:AC:=.cond (.t 14) .skip (.exit 0)
def f31_9:List AI:=[⟨some 15,.mov (.t 13),none⟩,
    ⟨some 5,.mov (.t 15),none⟩]
def f31_10:List AI:=[⟨some 16,.mov (.t 0),none⟩,
    ⟨some 17,.mov (.t 5),none⟩,
    ⟨some 18,.iaddr 3 (.t 16) (.t 17),none⟩,
    ⟨some 19,.load true 3 (.t 18),none⟩,
    ⟨some 20,.mov (.t 1),none⟩,
    ⟨some 21,.mov (.t 5),none⟩,
    ⟨some 22,.iaddr 3 (.t 20) (.t 21),none⟩,
    ⟨some 23,.load true 3 (.t 22),none⟩,
    ⟨some 24,.eqv (.cells [(.int .i64),(.int .i64),.bool]) true (.t 19) (.t 23),none⟩]
def f31_11:List AI:=[⟨some 4,.mov (.c (.one (.bool false))),none⟩]
def f31_12:AC:=.seq (.reg f31_11) .ret
def f31_13:AC:=.cond (.t 24) f31_12 .skip
def f31_14:AC:=.seq (.dreg f31_10) f31_13
def f31_15:AC:=.seq (.reg f31_9) f31_14
def f31_16:AC:=.block 1 f31_15
def f31_17:List AI:=[⟨some 25,.bin .add (.t 13) (.c (.one (.int .i64 1))),none⟩,
    ⟨some 13,.mov (.t 25),none⟩]
def f31_18:AC:=.seq f31_16 (.reg f31_17)
def f31_19:AC:=.seq f31_8 f31_18
def f31_20:AC:=.seq (.reg f31_7) f31_19
def f31_21:AC:=.loop f31_20
def f31_22:AC:=.block 0 f31_21
def f31_23:AC:=.seq (.reg f31_6) f31_22
def f31_24:List AI:=[⟨some 4,.mov (.c (.one (.bool true))),none⟩]
def f31_25:AC:=.seq (.reg f31_24) .ret
def f31_26:AC:=.seq f31_23 f31_25
def f31_27:AC:=.seq f31_5 f31_26
def f31_28:AC:=.seq (.reg f31_0) f31_27
def f31B:AC:=f31_28
def f31:AF:=⟨2,26,[(.t 4)],f31B⟩
def f42_0:List AI:=[⟨some 4,.mov (.c (.one (.bool false))),none⟩]
def f42_1:List AI:=[⟨some 8,.mov (.t 0),none⟩,
    ⟨some 9,.call (.c (.one (.fn 28 []))) [(.t 8)],none⟩,
    ⟨some 7,.mov (.t 9),none⟩,
    ⟨some 10,.ext (.t 7) 0,none⟩,
    ⟨some 11,.ext (.t 7) 1,none⟩,
    ⟨some 5,.mov (.t 10),none⟩,
    ⟨some 6,.mov (.t 11),none⟩]
def f42_2:List AI:=[⟨some 12,.mov (.t 6),none⟩,
    ⟨some 13,.bin .eql (.t 12) (.c (.one (.int .i64 0))),none⟩,
    ⟨some 14,.mov (.t 13),none⟩,
    ⟨some 15,.mov (.t 5),some (14,true)⟩,
    ⟨some 16,.mov (.t 1),some (14,true)⟩,
    ⟨some 17,.call (.c (.one (.fn 31 []))) [(.t 15),(.t 16)],some (14,true)⟩,
    ⟨some 18,.pick (.t 14) (.t 17) (.c (.one (.bool false))),none⟩,
    ⟨some 4,.mov (.t 18),none⟩]
def f42_3:AC:=.seq (.reg f42_2) .ret
def f42_4:AC:=.seq (.reg f42_1) f42_3
def f42_5:AC:=.seq (.reg f42_0) f42_4
def f42B:AC:=f42_5
def f42:AF:=⟨2,19,[(.t 4)],f42B⟩
def f52_0:List AI:=[⟨some 1,.box (.t 0),none⟩,
    ⟨some 2,.mov (.c (.one .nilf)),none⟩]
def f52_1:List AI:=[⟨some 3,.mkfn 73 [(.t 1)],none⟩,
    ⟨some 2,.mov (.t 3),none⟩]
def f52_2:AC:=.seq (.reg f52_1) .ret
def f52_3:AC:=.seq (.reg f52_0) f52_2
def f52B:AC:=f52_3
def f52:AF:=⟨1,4,[(.t 2)],f52B⟩
def f63_0:List AI:=[⟨some 4,.mov (.c (.one (.bool false))),none⟩]
def f63_1:List AI:=[⟨some 6,.mov (.t 0),none⟩,
    ⟨some 7,.len .slc (.t 6),none⟩,
    ⟨some 8,.mov (.t 1),none⟩,
    ⟨some 9,.len .slc (.t 8),none⟩,
    ⟨some 10,.bin .neq (.t 7) (.t 9),none⟩]
def f63_2:List AI:=[⟨some 4,.mov (.c (.one (.bool false))),none⟩]
def f63_3:AC:=.seq (.reg f63_2) .ret
def f63_4:AC:=.cond (.t 10) f63_3 .skip
def f63_5:AC:=.seq (.reg f63_1) f63_4
def f63_6:List AI:=[⟨some 11,.mov (.t 0),none⟩,
    ⟨some 12,.len .slc (.t 11),none⟩,
    ⟨some 13,.mov (.c (.one (.int .i64 0))),none⟩]
def f63_7:List AI:=[⟨some 14,.bin .lss (.t 13) (.t 12),none⟩]
def f63_8:AC:=.cond (.t 14) .skip (.exit 0)
def f63_9:List AI:=[⟨some 15,.mov (.t 13),none⟩,
    ⟨some 5,.mov (.t 15),none⟩]
def f63_10:List AI:=[⟨some 16,.mov (.t 0),none⟩,
    ⟨some 17,.mov (.t 5),none⟩,
    ⟨some 18,.iaddr 3 (.t 16) (.t 17),none⟩,
    ⟨some 19,.load true 3 (.t 18),none⟩,
    ⟨some 20,.mov (.t 1),none⟩,
    ⟨some 21,.mov (.t 5),none⟩,
    ⟨some 22,.iaddr 3 (.t 20) (.t 21),none⟩,
    ⟨some 23,.load true 3 (.t 22),none⟩,
    ⟨some 24,.eqv (.cells [(.int .i64),(.int .i64),.bool]) true (.t 19) (.t 23),none⟩]
def f63_11:List AI:=[⟨some 4,.mov (.c (.one (.bool false))),none⟩]
def f63_12:AC:=.seq (.reg f63_11) .ret
def f63_13:AC:=.cond (.t 24) f63_12 .skip
def f63_14:AC:=.seq (.dreg f63_10) f63_13
def f63_15:AC:=.seq (.reg f63_9) f63_14
def f63_16:AC:=.block 1 f63_15
def f63_17:List AI:=[⟨some 25,.bin .add (.t 13) (.c (.one (.int .i64 1))),none⟩,
    ⟨some 13,.mov (.t 25),none⟩]
def f63_18:AC:=.seq f63_16 (.reg f63_17)
def f63_19:AC:=.seq f63_8 f63_18
def f63_20:AC:=.seq (.reg f63_7) f63_19
def f63_21:AC:=.loop f63_20
def f63_22:AC:=.block 0 f63_21
def f63_23:AC:=.seq (.reg f63_6) f63_22
def f63_24:List AI:=[⟨some 4,.mov (.c (.one (.bool true))),none⟩]
def f63_25:AC:=.seq (.reg f63_24) .ret
def f63_26:AC:=.seq f63_23 f63_25
def f63_27:AC:=.seq f63_5 f63_26
def f63_28:AC:=.seq (.reg f63_0) f63_27
def f63B:AC:=f63_28
def f63:AF:=⟨2,26,[(.t 4)],f63B⟩
def f72_0:List AI:=[⟨some 2,.mov (.c (.one (.int .i64 0))),none⟩]
def f72_1:List AI:=[⟨some 4,.mov (.t 0),none⟩,
    ⟨some 5,.bin .lss (.t 4) (.c (.one (.int .i32 0))),none⟩,
    ⟨some 3,.mov (.t 5),none⟩]
def f72_2:List AI:=[⟨some 2,.mov (.c (.one (.int .i64 (-1)))),none⟩]
def f72_3:AC:=.seq (.reg f72_2) .ret
def f72_4:List AI:=[⟨some 7,.mov (.t 0),none⟩,
    ⟨some 8,.bin .leq (.t 7) (.c (.one (.int .i32 127))),none⟩,
    ⟨some 6,.mov (.t 8),none⟩]
def f72_5:List AI:=[⟨some 2,.mov (.c (.one (.int .i64 1))),none⟩]
def f72_6:AC:=.seq (.reg f72_5) .ret
def f72_7:List AI:=[⟨some 10,.mov (.t 0),none⟩,
    ⟨some 11,.bin .leq (.t 10) (.c (.one (.int .i32 2047))),none⟩,
    ⟨some 9,.mov (.t 11),none⟩]
def f72_8:List AI:=[⟨some 2,.mov (.c (.one (.int .i64 2))),none⟩]
def f72_9:AC:=.seq (.reg f72_8) .ret
def f72_10:List AI:=[⟨some 13,.mov (.t 0),none⟩,
    ⟨some 14,.bin .leq (.c (.one (.int .i32 55296))) (.t 13),none⟩,
    ⟨some 15,.mov (.t 14),none⟩,
    ⟨some 16,.mov (.t 0),some (15,true)⟩,
    ⟨some 17,.bin .leq (.t 16) (.c (.one (.int .i32 57343))),some (15,true)⟩,
    ⟨some 18,.pick (.t 15) (.t 17) (.c (.one (.bool false))),none⟩,
    ⟨some 12,.mov (.t 18),none⟩]
def f72_11:List AI:=[⟨some 2,.mov (.c (.one (.int .i64 (-1)))),none⟩]
def f72_12:AC:=.seq (.reg f72_11) .ret
def f72_13:List AI:=[⟨some 20,.mov (.t 0),none⟩,
    ⟨some 21,.bin .leq (.t 20) (.c (.one (.int .i32 65535))),none⟩,
    ⟨some 19,.mov (.t 21),none⟩]
def f72_14:List AI:=[⟨some 2,.mov (.c (.one (.int .i64 3))),none⟩]
def f72_15:AC:=.seq (.reg f72_14) .ret
def f72_16:List AI:=[⟨some 23,.mov (.t 0),none⟩,
    ⟨some 24,.bin .leq (.t 23) (.c (.one (.int .i32 1114111))),none⟩,
    ⟨some 22,.mov (.t 24),none⟩]
def f72_17:List AI:=[⟨some 2,.mov (.c (.one (.int .i64 4))),none⟩]
def f72_18:AC:=.seq (.reg f72_17) .ret
def f72_19:AC:=.cond (.t 22) f72_18 .skip
def f72_20:AC:=.seq (.reg f72_16) f72_19
def f72_21:AC:=.cond (.t 19) f72_15 f72_20
def f72_22:AC:=.seq (.reg f72_13) f72_21
def f72_23:AC:=.cond (.t 12) f72_12 f72_22
def f72_24:AC:=.seq (.reg f72_10) f72_23
def f72_25:AC:=.cond (.t 9) f72_9 f72_24
def f72_26:AC:=.seq (.reg f72_7) f72_25
def f72_27:AC:=.cond (.t 6) f72_6 f72_26
def f72_28:AC:=.seq (.reg f72_4) f72_27
def f72_29:AC:=.cond (.t 3) f72_3 f72_28
def f72_30:AC:=.seq (.reg f72_1) f72_29
def f72_31:AC:=.block 0 f72_30
def f72_32:List AI:=[⟨some 2,.mov (.c (.one (.int .i64 (-1)))),none⟩]
def f72_33:AC:=.seq (.reg f72_32) .ret
def f72_34:AC:=.seq f72_31 f72_33
def f72_35:AC:=.seq (.reg f72_0) f72_34
def f72B:AC:=f72_35
def f72:AF:=⟨1,25,[(.t 2)],f72B⟩
end Go.EA.F
