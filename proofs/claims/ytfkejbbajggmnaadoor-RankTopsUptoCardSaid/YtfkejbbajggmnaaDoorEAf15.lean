/- Functions of the program, as abstract code (printed by a program). Conditions: none (definitions). -/
import Derived.Test.YtfkejbbajggmnaaDoorEK1
namespace Go.EA.F
def f375_0:List AI:=[⟨some 6,.mov (.c (.one (.bool false))),none⟩]
def f375_1:List AI:=[⟨some 16,.call (.c (.one (.fn 377 []))) [],none⟩,
    ⟨some 17,.un .not (.t 16),none⟩]
def f375_2:List AI:=[⟨some 6,.mov (.c (.one (.bool false))),none⟩]
def f375_3:AC:=.seq (.reg f375_2) .ret
def f375_4:AC:=.cond (.t 17) f375_3 .skip
def f375_5:AC:=.seq (.reg f375_1) f375_4
def f375_6:List AI:=[⟨some 18,.mov (.t 0),none⟩,
    ⟨some 19,.call (.c (.one (.fn 378 []))) [(.t 18)],none⟩,
    ⟨some 20,.mov (.t 19),none⟩,
    ⟨some 21,.mov (.t 1),some (20,false)⟩,
    ⟨some 22,.call (.c (.one (.fn 378 []))) [(.t 21)],some (20,false)⟩,
    ⟨some 23,.pick (.t 20) (.c (.one (.bool true))) (.t 22),none⟩]
def f375_7:List AI:=[⟨some 6,.mov (.c (.one (.bool true))),none⟩]
def f375_8:AC:=.seq (.reg f375_7) .ret
def f375_9:AC:=.cond (.t 23) f375_8 .skip
def f375_10:AC:=.seq (.reg f375_6) f375_9
def f375_11:List AI:=[⟨some 25,.mov (.t 0),none⟩,
    ⟨some 26,.mov (.t 2),none⟩,
    ⟨some 27,.call (.c (.one (.fn 379 []))) [(.t 25),(.t 26)],none⟩,
    ⟨some 24,.mov (.t 27),none⟩,
    ⟨some 28,.ext (.t 24) 0,none⟩,
    ⟨some 29,.ext (.t 24) 1,none⟩,
    ⟨some 7,.mov (.t 28),none⟩,
    ⟨some 8,.mov (.t 29),none⟩]
def f375_12:List AI:=[⟨some 31,.mov (.t 0),none⟩,
    ⟨some 32,.mov (.t 2),none⟩,
    ⟨some 33,.call (.c (.one (.fn 385 []))) [(.t 31),(.t 32)],none⟩,
    ⟨some 30,.mov (.t 33),none⟩,
    ⟨some 34,.ext (.t 30) 0,none⟩,
    ⟨some 35,.ext (.t 30) 1,none⟩,
    ⟨some 9,.mov (.t 34),none⟩,
    ⟨some 10,.mov (.t 35),none⟩]
def f375_13:List AI:=[⟨some 37,.mov (.t 0),none⟩,
    ⟨some 38,.mov (.t 1),none⟩,
    ⟨some 39,.mov (.t 2),none⟩,
    ⟨some 40,.call (.c (.one (.fn 384 []))) [(.t 37),(.t 38),(.t 39)],none⟩,
    ⟨some 36,.mov (.t 40),none⟩,
    ⟨some 41,.ext (.t 36) 0,none⟩,
    ⟨some 42,.ext (.t 36) 1,none⟩,
    ⟨some 11,.mov (.t 41),none⟩,
    ⟨some 12,.mov (.t 42),none⟩]
def f375_14:List AI:=[⟨some 44,.mov (.t 0),none⟩,
    ⟨some 45,.mov (.t 1),none⟩,
    ⟨some 46,.mov (.t 2),none⟩,
    ⟨some 47,.call (.c (.one (.fn 386 []))) [(.t 44),(.t 45),(.t 46)],none⟩,
    ⟨some 43,.mov (.t 47),none⟩,
    ⟨some 48,.ext (.t 43) 0,none⟩,
    ⟨some 49,.ext (.t 43) 1,none⟩,
    ⟨some 13,.mov (.t 48),none⟩,
    ⟨some 14,.mov (.t 49),none⟩]
def f375_15:List AI:=[⟨some 50,.mov (.t 7),none⟩,
    ⟨some 51,.mov (.t 9),none⟩,
    ⟨some 52,.call (.c (.one (.fn 380 []))) [(.t 50),(.t 51)],none⟩,
    ⟨some 53,.un .not (.t 52),none⟩,
    ⟨some 54,.mov (.t 53),none⟩,
    ⟨some 55,.mov (.t 8),some (54,false)⟩,
    ⟨some 56,.mov (.t 10),some (54,false)⟩,
    ⟨some 57,.bin .neq (.t 55) (.t 56),some (54,false)⟩,
    ⟨some 58,.pick (.t 54) (.c (.one (.bool true))) (.t 57),none⟩,
    ⟨some 59,.mov (.t 58),none⟩,
    ⟨some 60,.mov (.t 11),some (59,false)⟩,
    ⟨some 61,.mov (.t 13),some (59,false)⟩,
    ⟨some 62,.call (.c (.one (.fn 380 []))) [(.t 60),(.t 61)],some (59,false)⟩,
    ⟨some 63,.un .not (.t 62),some (59,false)⟩,
    ⟨some 64,.pick (.t 59) (.c (.one (.bool true))) (.t 63),none⟩,
    ⟨some 65,.mov (.t 64),none⟩,
    ⟨some 66,.mov (.t 12),some (65,false)⟩,
    ⟨some 67,.mov (.t 14),some (65,false)⟩,
    ⟨some 68,.bin .neq (.t 66) (.t 67),some (65,false)⟩,
    ⟨some 69,.pick (.t 65) (.c (.one (.bool true))) (.t 68),none⟩]
def f375_16:List AI:=[⟨some 6,.mov (.c (.one (.bool false))),none⟩]
def f375_17:AC:=.seq (.reg f375_16) .ret
def f375_18:AC:=.cond (.t 69) f375_17 .skip
def f375_19:AC:=.seq (.reg f375_15) f375_18
def f375_20:List AI:=[⟨some 70,.mov (.t 0),none⟩,
    ⟨some 71,.len .slc (.t 70),none⟩,
    ⟨some 72,.mov (.t 1),none⟩,
    ⟨some 73,.len .slc (.t 72),none⟩,
    ⟨some 74,.best false [(.t 71),(.t 73)],none⟩,
    ⟨some 75,.mov (.c (.one (.int .i64 0))),none⟩]
def f375_21:List AI:=[⟨some 76,.bin .lss (.t 75) (.t 74),none⟩]
def f375_22:AC:=.cond (.t 76) .skip (.exit 0)
def f375_23:List AI:=[⟨some 77,.mov (.t 75),none⟩,
    ⟨some 15,.mov (.t 77),none⟩]
def f375_24:List AI:=[⟨some 78,.mov (.t 0),none⟩,
    ⟨some 79,.mov (.t 15),none⟩,
    ⟨some 80,.iaddr 3 (.t 78) (.t 79),none⟩,
    ⟨some 81,.load true 3 (.t 80),none⟩,
    ⟨some 82,.call (.c (.one (.fn 387 []))) [(.t 81)],none⟩,
    ⟨some 83,.mov (.t 0),none⟩,
    ⟨some 84,.mov (.t 15),none⟩,
    ⟨some 85,.iaddr 3 (.t 83) (.t 84),none⟩,
    ⟨some 86,.load true 3 (.t 85),none⟩,
    ⟨some 87,.call (.c (.one (.fn 388 []))) [(.t 86)],none⟩,
    ⟨some 88,.bin .neq (.t 82) (.t 87),none⟩,
    ⟨some 89,.mov (.t 88),none⟩,
    ⟨some 90,.mov (.t 0),some (89,false)⟩,
    ⟨some 91,.mov (.t 15),some (89,false)⟩,
    ⟨some 92,.iaddr 3 (.t 90) (.t 91),some (89,false)⟩,
    ⟨some 93,.load true 3 (.t 92),some (89,false)⟩,
    ⟨some 94,.mov (.t 1),some (89,false)⟩,
    ⟨some 95,.mov (.t 15),some (89,false)⟩,
    ⟨some 96,.iaddr 3 (.t 94) (.t 95),some (89,false)⟩,
    ⟨some 97,.load true 3 (.t 96),some (89,false)⟩,
    ⟨some 98,.call (.c (.one (.fn 381 []))) [(.t 93),(.t 97)],some (89,false)⟩,
    ⟨some 99,.mov (.t 0),some (89,false)⟩,
    ⟨some 100,.mov (.t 15),some (89,false)⟩,
    ⟨some 101,.iaddr 3 (.t 99) (.t 100),some (89,false)⟩,
    ⟨some 102,.load true 3 (.t 101),some (89,false)⟩,
    ⟨some 103,.mov (.t 1),some (89,false)⟩,
    ⟨some 104,.mov (.t 15),some (89,false)⟩,
    ⟨some 105,.iaddr 3 (.t 103) (.t 104),some (89,false)⟩,
    ⟨some 106,.load true 3 (.t 105),some (89,false)⟩,
    ⟨some 107,.call (.c (.one (.fn 389 []))) [(.t 102),(.t 106)],some (89,false)⟩,
    ⟨some 108,.eqv .bool true (.t 98) (.t 107),some (89,false)⟩,
    ⟨some 109,.pick (.t 89) (.c (.one (.bool true))) (.t 108),none⟩]
def f375_25:List AI:=[⟨some 6,.mov (.c (.one (.bool false))),none⟩]
def f375_26:AC:=.seq (.reg f375_25) .ret
def f375_27:AC:=.cond (.t 109) f375_26 .skip
def f375_28:AC:=.seq (.dreg f375_24) f375_27
def f375_29:AC:=.seq (.reg f375_23) f375_28
def f375_30:AC:=.block 1 f375_29
def f375_31:List AI:=[⟨some 110,.bin .add (.t 75) (.c (.one (.int .i64 1))),none⟩,
    ⟨some 75,.mov (.t 110),none⟩]
def f375_32:AC:=.seq f375_30 (.reg f375_31)
def f375_33:AC:=.seq f375_22 f375_32
def f375_34:AC:=.seq (.reg f375_21) f375_33
def f375_35:AC:=.loop f375_34
def f375_36:AC:=.block 0 f375_35
def f375_37:AC:=.seq (.reg f375_20) f375_36
def f375_38:List AI:=[⟨some 6,.mov (.c (.one (.bool true))),none⟩]
def f375_39:AC:=.seq (.reg f375_38) .ret
def f375_40:AC:=.seq f375_37 f375_39
def f375_41:AC:=.seq f375_19 f375_40
def f375_42:AC:=.seq (.reg f375_14) f375_41
def f375_43:AC:=.seq (.reg f375_13) f375_42
def f375_44:AC:=.seq (.reg f375_12) f375_43
def f375_45:AC:=.seq (.reg f375_11) f375_44
def f375_46:AC:=.seq f375_10 f375_45
def f375_47:AC:=.seq f375_5 f375_46
def f375_48:AC:=.seq (.reg f375_0) f375_47
def f375B:AC:=f375_48
def f375:AF:=⟨3,111,[(.t 6)],f375B⟩
def f377_0:List AI:=[⟨some 0,.mov (.c (.one (.bool false))),none⟩]
def f377_1:List AI:=[⟨some 4,.build [(.str []),(.int .i64 0),(.int .i64 0)] [(0,(1,(.c (.one (.str [97,109]))))),(1,(1,(.c (.one (.int .i64 7))))),(2,(1,(.c (.one (.int .i64 1)))))],none⟩,
    ⟨some 5,.build [(.str []),(.int .i64 0),(.int .i64 0)] [(0,(1,(.c (.one (.str [97,110]))))),(1,(1,(.c (.one (.int .i64 7))))),(2,(1,(.c (.one (.int .i64 2)))))],none⟩,
    ⟨some 6,.build [(.str []),(.int .i64 0),(.int .i64 0)] [(0,(1,(.c (.one (.str [97,109]))))),(1,(1,(.c (.one (.int .i64 9))))),(2,(1,(.c (.one (.int .i64 1)))))],none⟩,
    ⟨some 7,.rowLit 3 [(.str []),(.int .i64 0),(.int .i64 0)] 3 [(0,(.t 4)),(1,(.t 5)),(2,(.t 6))],none⟩,
    ⟨some 8,.call (.c (.one (.fn 379 []))) [(.t 7),(.c (.one (.int .i64 5)))],none⟩,
    ⟨some 3,.mov (.t 8),none⟩,
    ⟨some 9,.ext (.t 3) 0,none⟩,
    ⟨some 10,.ext (.t 3) 1,none⟩,
    ⟨some 1,.mov (.t 9),none⟩,
    ⟨some 2,.mov (.t 10),none⟩]
def f377_2:List AI:=[⟨some 11,.mov (.t 1),none⟩,
    ⟨some 12,.len .slc (.t 11),none⟩,
    ⟨some 13,.bin .eql (.t 12) (.c (.one (.int .i64 2))),none⟩,
    ⟨some 14,.mov (.t 13),none⟩,
    ⟨some 15,.mov (.t 1),some (14,true)⟩,
    ⟨some 16,.iaddr 3 (.t 15) (.c (.one (.int .i64 0))),some (14,true)⟩,
    ⟨some 17,.faddr 0 (.t 16),some (14,true)⟩,
    ⟨some 18,.load false 1 (.t 17),some (14,true)⟩,
    ⟨some 19,.bin .eql (.t 18) (.c (.one (.str [97,110]))),some (14,true)⟩,
    ⟨some 20,.pick (.t 14) (.t 19) (.c (.one (.bool false))),none⟩,
    ⟨some 21,.mov (.t 20),none⟩,
    ⟨some 22,.mov (.t 1),some (21,true)⟩,
    ⟨some 23,.iaddr 3 (.t 22) (.c (.one (.int .i64 1))),some (21,true)⟩,
    ⟨some 24,.faddr 1 (.t 23),some (21,true)⟩,
    ⟨some 25,.load false 1 (.t 24),some (21,true)⟩,
    ⟨some 26,.bin .eql (.t 25) (.c (.one (.int .i64 7))),some (21,true)⟩,
    ⟨some 27,.pick (.t 21) (.t 26) (.c (.one (.bool false))),none⟩,
    ⟨some 28,.mov (.t 27),none⟩,
    ⟨some 29,.mov (.t 2),some (28,true)⟩,
    ⟨some 30,.bin .eql (.t 29) (.c (.one (.int .i64 0))),some (28,true)⟩,
    ⟨some 31,.pick (.t 28) (.t 30) (.c (.one (.bool false))),none⟩,
    ⟨some 32,.mov (.t 31),none⟩,
    ⟨some 33,.build [(.str []),(.int .i64 0),(.int .i64 0)] [],some (32,true)⟩,
    ⟨some 34,.call (.c (.one (.fn 387 []))) [(.t 33)],some (32,true)⟩,
    ⟨some 35,.bin .eql (.t 34) (.c (.one (.int .i64 4))),some (32,true)⟩,
    ⟨some 36,.pick (.t 32) (.t 35) (.c (.one (.bool false))),none⟩,
    ⟨some 0,.mov (.t 36),none⟩]
def f377_3:AC:=.seq (.reg f377_2) .ret
def f377_4:AC:=.seq (.reg f377_1) f377_3
def f377_5:AC:=.seq (.reg f377_0) f377_4
def f377B:AC:=f377_5
def f377:AF:=⟨0,37,[(.t 0)],f377B⟩
def f378_0:List AI:=[⟨some 2,.mov (.c (.one (.bool false))),none⟩]
def f378_1:List AI:=[⟨some 3,.mov (.c (.one (.int .i64 0))),none⟩]
def f378_2:List AI:=[⟨some 6,.mov (.t 0),none⟩,
    ⟨some 7,.len .slc (.t 6),none⟩,
    ⟨some 8,.mov (.c (.one (.int .i64 0))),none⟩]
def f378_3:List AI:=[⟨some 9,.bin .lss (.t 8) (.t 7),none⟩]
def f378_4:AC:=.cond (.t 9) .skip (.exit 0)
def f378_5:List AI:=[⟨some 10,.iaddr 3 (.t 6) (.t 8),none⟩,
    ⟨some 11,.load true 3 (.t 10),none⟩,
    ⟨some 5,.new [(.str []),(.int .i64 0),(.int .i64 0)],none⟩,
    ⟨none,.store 3 (.t 5) (.t 11),none⟩]
def f378_6:List AI:=[⟨some 12,.mov (.t 3),none⟩,
    ⟨some 13,.faddr 0 (.t 5),none⟩,
    ⟨some 14,.load false 1 (.t 13),none⟩,
    ⟨some 15,.len .str (.t 14),none⟩,
    ⟨some 16,.bin .add (.t 12) (.t 15),none⟩,
    ⟨some 3,.mov (.t 16),none⟩]
def f378_7:AC:=.seq (.reg f378_5) (.reg f378_6)
def f378_8:AC:=.block 1 f378_7
def f378_9:List AI:=[⟨some 17,.bin .add (.t 8) (.c (.one (.int .i64 1))),none⟩,
    ⟨some 8,.mov (.t 17),none⟩]
def f378_10:AC:=.seq f378_8 (.reg f378_9)
def f378_11:AC:=.seq f378_4 f378_10
def f378_12:AC:=.seq (.reg f378_3) f378_11
def f378_13:AC:=.loop f378_12
def f378_14:AC:=.block 0 f378_13
def f378_15:AC:=.seq (.reg f378_2) f378_14
def f378_16:List AI:=[⟨some 18,.mov (.t 0),none⟩,
    ⟨some 19,.len .slc (.t 18),none⟩,
    ⟨some 20,.bin .gtr (.t 19) (.c (.one (.int .i64 200))),none⟩,
    ⟨some 21,.mov (.t 20),none⟩,
    ⟨some 22,.mov (.t 3),some (21,false)⟩,
    ⟨some 23,.bin .gtr (.t 22) (.c (.one (.int .i64 4000))),some (21,false)⟩,
    ⟨some 24,.pick (.t 21) (.c (.one (.bool true))) (.t 23),none⟩,
    ⟨some 2,.mov (.t 24),none⟩]
def f378_17:AC:=.seq (.reg f378_16) .ret
def f378_18:AC:=.seq f378_15 f378_17
def f378_19:AC:=.seq (.reg f378_1) f378_18
def f378_20:AC:=.seq (.reg f378_0) f378_19
def f378B:AC:=f378_20
def f378:AF:=⟨1,25,[(.t 2)],f378B⟩
def f379_0:List AI:=[⟨some 3,.box (.t 1),none⟩,
    ⟨some 4,.new [.nils],none⟩,
    ⟨some 5,.mov (.c (.one (.int .i64 0))),none⟩]
def f379_1:List AI:=[⟨some 9,.mov (.t 0),none⟩,
    ⟨some 10,.call (.c (.one (.fn 390 []))) [(.t 9)],none⟩,
    ⟨some 6,.mov (.t 10),none⟩]
def f379_2:List AI:=[⟨some 11,.mov (.t 6),none⟩,
    ⟨some 12,.bin .neq (.t 11) (.c (.one (.int .i64 0))),none⟩]
def f379_3:List AI:=[⟨some 13,.mov (.t 6),none⟩,
    ⟨none,.store 1 (.t 4) (.c (.one .nils)),none⟩,
    ⟨some 5,.mov (.t 13),none⟩]
def f379_4:AC:=.seq (.reg f379_3) .ret
def f379_5:AC:=.cond (.t 12) f379_4 .skip
def f379_6:AC:=.seq (.reg f379_2) f379_5
def f379_7:AC:=.seq (.reg f379_1) f379_6
def f379_8:List AI:=[⟨some 14,.load false 1 (.t 3),none⟩,
    ⟨some 15,.bin .lss (.t 14) (.c (.one (.int .i64 0))),none⟩,
    ⟨some 16,.mov (.t 15),none⟩,
    ⟨some 17,.load false 1 (.t 3),some (16,false)⟩,
    ⟨some 18,.bin .gtr (.t 17) (.c (.one (.int .i64 1000))),some (16,false)⟩,
    ⟨some 19,.pick (.t 16) (.c (.one (.bool true))) (.t 18),none⟩]
def f379_9:List AI:=[⟨none,.store 1 (.t 4) (.c (.one .nils)),none⟩,
    ⟨some 5,.mov (.c (.one (.int .i64 2))),none⟩]
def f379_10:AC:=.seq (.reg f379_9) .ret
def f379_11:AC:=.cond (.t 19) f379_10 .skip
def f379_12:AC:=.seq (.reg f379_8) f379_11
def f379_13:List AI:=[⟨some 20,.mov (.t 0),none⟩,
    ⟨some 21,.call (.c (.one (.fn 391 []))) [(.t 20)],none⟩]
def f379_14:List AI:=[⟨some 7,.mov (.t 22),none⟩]
def f379_15:List AI:=[⟨some 8,.new [(.str []),(.int .i64 0),(.int .i64 0)],none⟩,
    ⟨none,.store 3 (.t 8) (.t 23),none⟩]
def f379_16:AC:=.seq (.reg f379_14) (.reg f379_15)
def f379_17:List AI:=[⟨some 24,.mov (.t 7),none⟩,
    ⟨some 25,.load false 1 (.t 3),none⟩,
    ⟨some 26,.bin .eql (.t 24) (.t 25),none⟩]
def f379_18:AC:=.cond (.t 26) (.exit 0) .skip
def f379_19:AC:=.seq (.reg f379_17) f379_18
def f379_20:List AI:=[⟨some 27,.load false 1 (.t 4),none⟩,
    ⟨some 28,.load true 3 (.t 8),none⟩,
    ⟨some 29,.rowLit 3 [(.str []),(.int .i64 0),(.int .i64 0)] 1 [(0,(.t 28))],none⟩,
    ⟨some 30,.app 3 32 (.t 27) (.t 29),none⟩,
    ⟨none,.store 1 (.t 4) (.t 30),none⟩]
def f379_21:AC:=.seq f379_19 (.reg f379_20)
def f379_22:AC:=.block 1 f379_21
def f379_23:AC:=.rangeF (.t 21) [22,23] f379_16 f379_22
def f379_24:AC:=.block 0 f379_23
def f379_25:AC:=.seq (.reg f379_13) f379_24
def f379_26:List AI:=[⟨some 31,.load false 1 (.t 4),none⟩,
    ⟨none,.store 1 (.t 4) (.t 31),none⟩,
    ⟨some 5,.mov (.c (.one (.int .i64 0))),none⟩]
def f379_27:AC:=.seq (.reg f379_26) .ret
def f379_28:AC:=.seq f379_25 f379_27
def f379_29:AC:=.seq f379_12 f379_28
def f379_30:AC:=.seq f379_7 f379_29
def f379_31:AC:=.seq (.reg f379_0) f379_30
def f379B:AC:=f379_31
def f379:AF:=⟨2,32,[(.cell 4 false 1),(.t 5)],f379B⟩
def f380_0:List AI:=[⟨some 4,.mov (.c (.one (.bool false))),none⟩]
def f380_1:List AI:=[⟨some 6,.mov (.t 0),none⟩,
    ⟨some 7,.len .slc (.t 6),none⟩,
    ⟨some 8,.mov (.t 1),none⟩,
    ⟨some 9,.len .slc (.t 8),none⟩,
    ⟨some 10,.bin .neq (.t 7) (.t 9),none⟩]
def f380_2:List AI:=[⟨some 4,.mov (.c (.one (.bool false))),none⟩]
def f380_3:AC:=.seq (.reg f380_2) .ret
def f380_4:AC:=.cond (.t 10) f380_3 .skip
def f380_5:AC:=.seq (.reg f380_1) f380_4
def f380_6:List AI:=[⟨some 11,.mov (.t 0),none⟩,
    ⟨some 12,.len .slc (.t 11),none⟩,
    ⟨some 13,.mov (.c (.one (.int .i64 0))),none⟩]
def f380_7:List AI:=[⟨some 14,.bin .lss (.t 13) (.t 12),none⟩]
def f380_8:AC:=.cond (.t 14) .skip (.exit 0)
def f380_9:List AI:=[⟨some 15,.mov (.t 13),none⟩,
    ⟨some 5,.mov (.t 15),none⟩]
def f380_10:List AI:=[⟨some 16,.mov (.t 0),none⟩,
    ⟨some 17,.mov (.t 5),none⟩,
    ⟨some 18,.iaddr 3 (.t 16) (.t 17),none⟩,
    ⟨some 19,.load true 3 (.t 18),none⟩,
    ⟨some 20,.mov (.t 1),none⟩,
    ⟨some 21,.mov (.t 5),none⟩,
    ⟨some 22,.iaddr 3 (.t 20) (.t 21),none⟩,
    ⟨some 23,.load true 3 (.t 22),none⟩,
    ⟨some 24,.eqv (.cells [.str,(.int .i64),(.int .i64)]) true (.t 19) (.t 23),none⟩]
def f380_11:List AI:=[⟨some 4,.mov (.c (.one (.bool false))),none⟩]
def f380_12:AC:=.seq (.reg f380_11) .ret
def f380_13:AC:=.cond (.t 24) f380_12 .skip
def f380_14:AC:=.seq (.dreg f380_10) f380_13
def f380_15:AC:=.seq (.reg f380_9) f380_14
def f380_16:AC:=.block 1 f380_15
def f380_17:List AI:=[⟨some 25,.bin .add (.t 13) (.c (.one (.int .i64 1))),none⟩,
    ⟨some 13,.mov (.t 25),none⟩]
def f380_18:AC:=.seq f380_16 (.reg f380_17)
def f380_19:AC:=.seq f380_8 f380_18
def f380_20:AC:=.seq (.reg f380_7) f380_19
def f380_21:AC:=.loop f380_20
def f380_22:AC:=.block 0 f380_21
def f380_23:AC:=.seq (.reg f380_6) f380_22
def f380_24:List AI:=[⟨some 4,.mov (.c (.one (.bool true))),none⟩]
def f380_25:AC:=.seq (.reg f380_24) .ret
def f380_26:AC:=.seq f380_23 f380_25
def f380_27:AC:=.seq f380_5 f380_26
def f380_28:AC:=.seq (.reg f380_0) f380_27
def f380B:AC:=f380_28
def f380:AF:=⟨2,26,[(.t 4)],f380B⟩
def f381_0:List AI:=[⟨some 2,.box (.t 0),none⟩,
    ⟨some 3,.box (.t 1),none⟩,
    ⟨some 4,.mov (.c (.one (.bool false))),none⟩]
def f381_1:List AI:=[⟨some 5,.load true 3 (.t 2),none⟩,
    ⟨some 6,.load true 3 (.t 3),none⟩,
    ⟨some 7,.call (.c (.one (.fn 392 []))) [(.t 5),(.t 6)],none⟩,
    ⟨some 8,.bin .lss (.t 7) (.c (.one (.int .i64 0))),none⟩,
    ⟨some 4,.mov (.t 8),none⟩]
def f381_2:AC:=.seq (.reg f381_1) .ret
def f381_3:AC:=.seq (.reg f381_0) f381_2
def f381B:AC:=f381_3
def f381:AF:=⟨2,9,[(.t 4)],f381B⟩
def f384_0:List AI:=[⟨some 6,.mov (.c (.one .nils)),none⟩,
    ⟨some 7,.mov (.c (.one (.int .i64 0))),none⟩]
def f384_1:List AI:=[⟨some 8,.mov (.t 0),none⟩,
    ⟨some 9,.mov (.t 1),none⟩,
    ⟨some 10,.rowLit 1 [.nils] 2 [(0,(.t 8)),(1,(.t 9))],none⟩,
    ⟨some 11,.call (.c (.one (.fn 394 []))) [(.t 10)],none⟩,
    ⟨some 12,.mov (.t 2),none⟩,
    ⟨some 13,.call (.c (.one (.fn 379 []))) [(.t 11),(.t 12)],none⟩,
    ⟨some 14,.ext (.t 13) 0,none⟩,
    ⟨some 15,.ext (.t 13) 1,none⟩,
    ⟨some 6,.mov (.t 14),none⟩,
    ⟨some 7,.mov (.t 15),none⟩]
def f384_2:AC:=.seq (.reg f384_1) .ret
def f384_3:AC:=.seq (.reg f384_0) f384_2
def f384B:AC:=f384_3
def f384:AF:=⟨3,16,[(.t 6),(.t 7)],f384B⟩
def f385_0:List AI:=[⟨some 4,.mov (.c (.one .nils)),none⟩,
    ⟨some 5,.mov (.c (.one (.int .i64 0))),none⟩]
def f385_1:List AI:=[⟨some 9,.mov (.t 0),none⟩,
    ⟨some 10,.call (.c (.one (.fn 393 []))) [(.t 9)],none⟩,
    ⟨some 8,.mov (.t 10),none⟩,
    ⟨some 11,.ext (.t 8) 0,none⟩,
    ⟨some 12,.ext (.t 8) 1,none⟩,
    ⟨some 6,.mov (.t 11),none⟩,
    ⟨some 7,.mov (.t 12),none⟩]
def f385_2:List AI:=[⟨some 13,.mov (.t 7),none⟩,
    ⟨some 14,.bin .neq (.t 13) (.c (.one (.int .i64 0))),none⟩]
def f385_3:List AI:=[⟨some 15,.mov (.t 7),none⟩,
    ⟨some 4,.mov (.c (.one .nils)),none⟩,
    ⟨some 5,.mov (.t 15),none⟩]
def f385_4:AC:=.seq (.reg f385_3) .ret
def f385_5:AC:=.cond (.t 14) f385_4 .skip
def f385_6:AC:=.seq (.reg f385_2) f385_5
def f385_7:List AI:=[⟨some 16,.mov (.t 1),none⟩,
    ⟨some 17,.bin .lss (.t 16) (.c (.one (.int .i64 0))),none⟩,
    ⟨some 18,.mov (.t 17),none⟩,
    ⟨some 19,.mov (.t 1),some (18,false)⟩,
    ⟨some 20,.bin .gtr (.t 19) (.c (.one (.int .i64 1000))),some (18,false)⟩,
    ⟨some 21,.pick (.t 18) (.c (.one (.bool true))) (.t 20),none⟩]
def f385_8:List AI:=[⟨some 4,.mov (.c (.one .nils)),none⟩,
    ⟨some 5,.mov (.c (.one (.int .i64 2))),none⟩]
def f385_9:AC:=.seq (.reg f385_8) .ret
def f385_10:AC:=.cond (.t 21) f385_9 .skip
def f385_11:AC:=.seq (.reg f385_7) f385_10
def f385_12:List AI:=[⟨some 22,.mov (.t 6),none⟩,
    ⟨some 23,.mov (.t 1),none⟩,
    ⟨some 24,.mov (.t 6),none⟩,
    ⟨some 25,.len .slc (.t 24),none⟩,
    ⟨some 26,.best false [(.t 23),(.t 25)],none⟩,
    ⟨some 27,.slice .slc 3 (.t 22) none (some (.t 26)) none,none⟩,
    ⟨some 4,.mov (.t 27),none⟩,
    ⟨some 5,.mov (.c (.one (.int .i64 0))),none⟩]
def f385_13:AC:=.seq (.reg f385_12) .ret
def f385_14:AC:=.seq f385_11 f385_13
def f385_15:AC:=.seq f385_6 f385_14
def f385_16:AC:=.seq (.reg f385_1) f385_15
def f385_17:AC:=.seq (.reg f385_0) f385_16
def f385B:AC:=f385_17
def f385:AF:=⟨2,28,[(.t 4),(.t 5)],f385B⟩
def f386_0:List AI:=[⟨some 6,.mov (.c (.one .nils)),none⟩,
    ⟨some 7,.mov (.c (.one (.int .i64 0))),none⟩]
def f386_1:List AI:=[⟨some 8,.rowLit 3 [(.str []),(.int .i64 0),(.int .i64 0)] 0 [],none⟩,
    ⟨some 9,.mov (.t 0),none⟩,
    ⟨some 10,.app 3 32 (.t 8) (.t 9),none⟩,
    ⟨some 11,.mov (.t 1),none⟩,
    ⟨some 12,.app 3 32 (.t 10) (.t 11),none⟩,
    ⟨some 13,.mov (.t 2),none⟩,
    ⟨some 14,.call (.c (.one (.fn 385 []))) [(.t 12),(.t 13)],none⟩,
    ⟨some 15,.ext (.t 14) 0,none⟩,
    ⟨some 16,.ext (.t 14) 1,none⟩,
    ⟨some 6,.mov (.t 15),none⟩,
    ⟨some 7,.mov (.t 16),none⟩]
def f386_2:AC:=.seq (.reg f386_1) .ret
def f386_3:AC:=.seq (.reg f386_0) f386_2
def f386B:AC:=f386_3
def f386:AF:=⟨3,17,[(.t 6),(.t 7)],f386B⟩
def f387_0:List AI:=[⟨some 1,.box (.t 0),none⟩,
    ⟨some 2,.mov (.c (.one (.int .i64 0))),none⟩]
def f387_1:List AI:=[⟨some 6,.faddr 0 (.t 1),none⟩,
    ⟨some 7,.load false 1 (.t 6),none⟩,
    ⟨some 8,.call (.c (.one (.fn 20 []))) [(.t 7)],none⟩,
    ⟨some 5,.mov (.t 8),none⟩,
    ⟨some 9,.ext (.t 5) 0,none⟩,
    ⟨some 10,.ext (.t 5) 1,none⟩,
    ⟨some 3,.mov (.t 9),none⟩,
    ⟨some 4,.mov (.t 10),none⟩]
def f387_2:List AI:=[⟨some 11,.mov (.t 4),none⟩,
    ⟨some 12,.bin .eql (.t 11) (.c (.one (.int .i64 0))),none⟩,
    ⟨some 13,.mov (.t 12),none⟩,
    ⟨some 14,.faddr 1 (.t 1),some (13,true)⟩,
    ⟨some 15,.load false 1 (.t 14),some (13,true)⟩,
    ⟨some 16,.bin .lss (.t 15) (.c (.one (.int .i64 0))),some (13,true)⟩,
    ⟨some 17,.mov (.t 16),some (13,true)⟩,
    ⟨some 18,.faddr 1 (.t 1),some (17,false)⟩,
    ⟨some 19,.load false 1 (.t 18),some (17,false)⟩,
    ⟨some 20,.bin .gtr (.t 19) (.c (.one (.int .i64 4096))),some (17,false)⟩,
    ⟨some 21,.pick (.t 17) (.c (.one (.bool true))) (.t 20),some (13,true)⟩,
    ⟨some 22,.mov (.t 21),some (13,true)⟩,
    ⟨some 23,.faddr 2 (.t 1),some (22,false)⟩,
    ⟨some 24,.load false 1 (.t 23),some (22,false)⟩,
    ⟨some 25,.bin .lss (.t 24) (.c (.one (.int .i64 1))),some (22,false)⟩,
    ⟨some 26,.pick (.t 22) (.c (.one (.bool true))) (.t 25),some (13,true)⟩,
    ⟨some 27,.mov (.t 26),some (13,true)⟩,
    ⟨some 28,.faddr 2 (.t 1),some (27,false)⟩,
    ⟨some 29,.load false 1 (.t 28),some (27,false)⟩,
    ⟨some 30,.bin .gtr (.t 29) (.c (.one (.int .i64 1073741824))),some (27,false)⟩,
    ⟨some 31,.pick (.t 27) (.c (.one (.bool true))) (.t 30),some (13,true)⟩,
    ⟨some 32,.pick (.t 13) (.t 31) (.c (.one (.bool false))),none⟩]
def f387_3:List AI:=[⟨some 2,.mov (.c (.one (.int .i64 2))),none⟩]
def f387_4:AC:=.seq (.reg f387_3) .ret
def f387_5:AC:=.cond (.t 32) f387_4 .skip
def f387_6:AC:=.seq (.reg f387_2) f387_5
def f387_7:List AI:=[⟨some 33,.mov (.t 4),none⟩,
    ⟨some 2,.mov (.t 33),none⟩]
def f387_8:AC:=.seq (.reg f387_7) .ret
def f387_9:AC:=.seq f387_6 f387_8
def f387_10:AC:=.seq (.reg f387_1) f387_9
def f387_11:AC:=.seq (.reg f387_0) f387_10
def f387B:AC:=f387_11
def f387:AF:=⟨1,34,[(.t 2)],f387B⟩
def f388_0:List AI:=[⟨some 1,.box (.t 0),none⟩,
    ⟨some 2,.mov (.c (.one (.int .i64 0))),none⟩]
def f388_1:List AI:=[⟨some 6,.faddr 0 (.t 1),none⟩,
    ⟨some 7,.load false 1 (.t 6),none⟩,
    ⟨some 8,.call (.c (.one (.fn 21 []))) [(.t 7)],none⟩,
    ⟨some 5,.mov (.t 8),none⟩,
    ⟨some 9,.ext (.t 5) 0,none⟩,
    ⟨some 10,.ext (.t 5) 1,none⟩,
    ⟨some 3,.mov (.t 9),none⟩,
    ⟨some 4,.mov (.t 10),none⟩]
def f388_2:List AI:=[⟨some 11,.mov (.t 4),none⟩,
    ⟨some 12,.bin .neq (.t 11) (.c (.one (.int .i64 0))),none⟩]
def f388_3:List AI:=[⟨some 13,.mov (.t 4),none⟩,
    ⟨some 2,.mov (.t 13),none⟩]
def f388_4:AC:=.seq (.reg f388_3) .ret
def f388_5:AC:=.cond (.t 12) f388_4 .skip
def f388_6:AC:=.seq (.reg f388_2) f388_5
def f388_7:AC:=.seq (.reg f388_1) f388_6
def f388_8:List AI:=[⟨some 14,.faddr 1 (.t 1),none⟩,
    ⟨some 15,.load false 1 (.t 14),none⟩,
    ⟨some 16,.bin .lss (.t 15) (.c (.one (.int .i64 0))),none⟩,
    ⟨some 17,.mov (.t 16),none⟩,
    ⟨some 18,.faddr 1 (.t 1),some (17,false)⟩,
    ⟨some 19,.load false 1 (.t 18),some (17,false)⟩,
    ⟨some 20,.bin .gtr (.t 19) (.c (.one (.int .i64 4096))),some (17,false)⟩,
    ⟨some 21,.pick (.t 17) (.c (.one (.bool true))) (.t 20),none⟩,
    ⟨some 22,.mov (.t 21),none⟩,
    ⟨some 23,.faddr 2 (.t 1),some (22,false)⟩,
    ⟨some 24,.load false 1 (.t 23),some (22,false)⟩,
    ⟨some 25,.bin .lss (.t 24) (.c (.one (.int .i64 1))),some (22,false)⟩,
    ⟨some 26,.pick (.t 22) (.c (.one (.bool true))) (.t 25),none⟩,
    ⟨some 27,.mov (.t 26),none⟩,
    ⟨some 28,.faddr 2 (.t 1),some (27,false)⟩,
    ⟨some 29,.load false 1 (.t 28),some (27,false)⟩,
    ⟨some 30,.bin .gtr (.t 29) (.c (.one (.int .i64 1073741824))),some (27,false)⟩,
    ⟨some 31,.pick (.t 27) (.c (.one (.bool true))) (.t 30),none⟩]
def f388_9:List AI:=[⟨some 2,.mov (.c (.one (.int .i64 2))),none⟩]
def f388_10:AC:=.seq (.reg f388_9) .ret
def f388_11:AC:=.cond (.t 31) f388_10 .skip
def f388_12:AC:=.seq (.reg f388_8) f388_11
def f388_13:List AI:=[⟨some 2,.mov (.c (.one (.int .i64 0))),none⟩]
def f388_14:AC:=.seq (.reg f388_13) .ret
def f388_15:AC:=.seq f388_12 f388_14
def f388_16:AC:=.seq f388_7 f388_15
def f388_17:AC:=.seq (.reg f388_0) f388_16
def f388B:AC:=f388_17
def f388:AF:=⟨1,32,[(.t 2)],f388B⟩
def f389_0:List AI:=[⟨some 2,.box (.t 0),none⟩,
    ⟨some 3,.box (.t 1),none⟩,
    ⟨some 4,.mov (.c (.one (.bool false))),none⟩]
def f389_1:List AI:=[⟨some 5,.faddr 1 (.t 2),none⟩,
    ⟨some 6,.load false 1 (.t 5),none⟩,
    ⟨some 7,.faddr 1 (.t 3),none⟩,
    ⟨some 8,.load false 1 (.t 7),none⟩,
    ⟨some 9,.bin .neq (.t 6) (.t 8),none⟩]
def f389_2:List AI:=[⟨some 10,.faddr 1 (.t 2),none⟩,
    ⟨some 11,.load false 1 (.t 10),none⟩,
    ⟨some 12,.faddr 1 (.t 3),none⟩,
    ⟨some 13,.load false 1 (.t 12),none⟩,
    ⟨some 14,.bin .lss (.t 11) (.t 13),none⟩,
    ⟨some 4,.mov (.t 14),none⟩]
def f389_3:AC:=.seq (.reg f389_2) .ret
def f389_4:AC:=.cond (.t 9) f389_3 .skip
def f389_5:AC:=.seq (.reg f389_1) f389_4
def f389_6:List AI:=[⟨some 15,.faddr 2 (.t 2),none⟩,
    ⟨some 16,.load false 1 (.t 15),none⟩,
    ⟨some 17,.faddr 2 (.t 3),none⟩,
    ⟨some 18,.load false 1 (.t 17),none⟩,
    ⟨some 19,.bin .neq (.t 16) (.t 18),none⟩]
def f389_7:List AI:=[⟨some 20,.faddr 2 (.t 2),none⟩,
    ⟨some 21,.load false 1 (.t 20),none⟩,
    ⟨some 22,.faddr 2 (.t 3),none⟩,
    ⟨some 23,.load false 1 (.t 22),none⟩,
    ⟨some 24,.bin .gtr (.t 21) (.t 23),none⟩,
    ⟨some 4,.mov (.t 24),none⟩]
def f389_8:AC:=.seq (.reg f389_7) .ret
def f389_9:AC:=.cond (.t 19) f389_8 .skip
def f389_10:AC:=.seq (.reg f389_6) f389_9
def f389_11:List AI:=[⟨some 25,.faddr 0 (.t 2),none⟩,
    ⟨some 26,.load false 1 (.t 25),none⟩,
    ⟨some 27,.faddr 0 (.t 3),none⟩,
    ⟨some 28,.load false 1 (.t 27),none⟩,
    ⟨some 29,.bin .lss (.t 26) (.t 28),none⟩,
    ⟨some 4,.mov (.t 29),none⟩]
def f389_12:AC:=.seq (.reg f389_11) .ret
def f389_13:AC:=.seq f389_10 f389_12
def f389_14:AC:=.seq f389_5 f389_13
def f389_15:AC:=.seq (.reg f389_0) f389_14
def f389B:AC:=f389_15
def f389:AF:=⟨2,30,[(.t 4)],f389B⟩
def f390_0:List AI:=[⟨some 2,.mov (.c (.one (.int .i64 0))),none⟩]
def f390_1:List AI:=[⟨some 6,.mov (.t 0),none⟩,
    ⟨some 7,.len .slc (.t 6),none⟩,
    ⟨some 8,.mov (.c (.one (.int .i64 0))),none⟩]
def f390_2:List AI:=[⟨some 9,.bin .lss (.t 8) (.t 7),none⟩]
def f390_3:AC:=.cond (.t 9) .skip (.exit 0)
def f390_4:List AI:=[⟨some 10,.iaddr 3 (.t 6) (.t 8),none⟩,
    ⟨some 11,.load true 3 (.t 10),none⟩,
    ⟨some 4,.new [(.str []),(.int .i64 0),(.int .i64 0)],none⟩,
    ⟨none,.store 3 (.t 4) (.t 11),none⟩]
def f390_5:List AI:=[⟨some 12,.load true 3 (.t 4),none⟩,
    ⟨some 13,.call (.c (.one (.fn 387 []))) [(.t 12)],none⟩,
    ⟨some 5,.mov (.t 13),none⟩]
def f390_6:List AI:=[⟨some 14,.mov (.t 5),none⟩,
    ⟨some 15,.bin .neq (.t 14) (.c (.one (.int .i64 0))),none⟩]
def f390_7:List AI:=[⟨some 16,.mov (.t 5),none⟩,
    ⟨some 2,.mov (.t 16),none⟩]
def f390_8:AC:=.seq (.reg f390_7) .ret
def f390_9:AC:=.cond (.t 15) f390_8 .skip
def f390_10:AC:=.seq (.reg f390_6) f390_9
def f390_11:AC:=.seq (.reg f390_5) f390_10
def f390_12:AC:=.seq (.reg f390_4) f390_11
def f390_13:AC:=.block 1 f390_12
def f390_14:List AI:=[⟨some 17,.bin .add (.t 8) (.c (.one (.int .i64 1))),none⟩,
    ⟨some 8,.mov (.t 17),none⟩]
def f390_15:AC:=.seq f390_13 (.reg f390_14)
def f390_16:AC:=.seq f390_3 f390_15
def f390_17:AC:=.seq (.reg f390_2) f390_16
def f390_18:AC:=.loop f390_17
def f390_19:AC:=.block 0 f390_18
def f390_20:AC:=.seq (.reg f390_1) f390_19
def f390_21:List AI:=[⟨some 2,.mov (.c (.one (.int .i64 0))),none⟩]
def f390_22:AC:=.seq (.reg f390_21) .ret
def f390_23:AC:=.seq f390_20 f390_22
def f390_24:AC:=.seq (.reg f390_0) f390_23
def f390B:AC:=f390_24
def f390:AF:=⟨1,18,[(.t 2)],f390B⟩
def f391_0:List AI:=[⟨some 1,.box (.t 0),none⟩,
    ⟨some 2,.mov (.c (.one .nilf)),none⟩]
def f391_1:List AI:=[⟨some 3,.mkfn 395 [(.t 1)],none⟩,
    ⟨some 2,.mov (.t 3),none⟩]
def f391_2:AC:=.seq (.reg f391_1) .ret
def f391_3:AC:=.seq (.reg f391_0) f391_2
def f391B:AC:=f391_3
def f391:AF:=⟨1,4,[(.t 2)],f391B⟩
def f392_0:List AI:=[⟨some 2,.box (.t 0),none⟩,
    ⟨some 3,.box (.t 1),none⟩,
    ⟨some 4,.mov (.c (.one (.int .i64 0))),none⟩]
def f392_1:List AI:=[⟨some 5,.faddr 1 (.t 2),none⟩,
    ⟨some 6,.load false 1 (.t 5),none⟩,
    ⟨some 7,.faddr 1 (.t 3),none⟩,
    ⟨some 8,.load false 1 (.t 7),none⟩,
    ⟨some 9,.call (.c (.one (.fn 328 []))) [(.t 6),(.t 8)],none⟩,
    ⟨some 10,.faddr 2 (.t 3),none⟩,
    ⟨some 11,.load false 1 (.t 10),none⟩,
    ⟨some 12,.faddr 2 (.t 2),none⟩,
    ⟨some 13,.load false 1 (.t 12),none⟩,
    ⟨some 14,.call (.c (.one (.fn 328 []))) [(.t 11),(.t 13)],none⟩,
    ⟨some 15,.faddr 0 (.t 2),none⟩,
    ⟨some 16,.load false 1 (.t 15),none⟩,
    ⟨some 17,.faddr 0 (.t 3),none⟩,
    ⟨some 18,.load false 1 (.t 17),none⟩,
    ⟨some 19,.call (.c (.one (.fn 252 []))) [(.t 16),(.t 18)],none⟩,
    ⟨some 20,.rowLit 1 [(.int .i64 0)] 3 [(0,(.t 9)),(1,(.t 14)),(2,(.t 19))],none⟩,
    ⟨some 21,.call (.c (.one (.fn 251 []))) [(.t 20)],none⟩,
    ⟨some 4,.mov (.t 21),none⟩]
def f392_2:AC:=.seq (.dreg f392_1) .ret
def f392_3:AC:=.seq (.reg f392_0) f392_2
def f392B:AC:=f392_3
def f392:AF:=⟨2,22,[(.t 4)],f392B⟩
def f393_0:List AI:=[⟨some 2,.mov (.c (.one .nils)),none⟩,
    ⟨some 3,.mov (.c (.one (.int .i64 0))),none⟩]
def f393_1:List AI:=[⟨some 4,.mov (.c (.one .nils)),none⟩]
def f393_2:List AI:=[⟨some 15,.mov (.t 0),none⟩,
    ⟨some 16,.len .slc (.t 15),none⟩,
    ⟨some 17,.mov (.c (.one (.int .i64 0))),none⟩]
def f393_3:List AI:=[⟨some 18,.bin .lss (.t 17) (.t 16),none⟩]
def f393_4:AC:=.cond (.t 18) .skip (.exit 0)
def f393_5:List AI:=[⟨some 19,.iaddr 3 (.t 15) (.t 17),none⟩,
    ⟨some 20,.load true 3 (.t 19),none⟩,
    ⟨some 6,.new [(.str []),(.int .i64 0),(.int .i64 0)],none⟩,
    ⟨none,.store 3 (.t 6) (.t 20),none⟩]
def f393_6:List AI:=[⟨some 21,.load true 3 (.t 6),none⟩,
    ⟨some 22,.call (.c (.one (.fn 388 []))) [(.t 21)],none⟩,
    ⟨some 7,.mov (.t 22),none⟩]
def f393_7:List AI:=[⟨some 23,.mov (.t 7),none⟩,
    ⟨some 24,.bin .neq (.t 23) (.c (.one (.int .i64 0))),none⟩]
def f393_8:List AI:=[⟨some 25,.mov (.t 7),none⟩,
    ⟨some 2,.mov (.c (.one .nils)),none⟩,
    ⟨some 3,.mov (.t 25),none⟩]
def f393_9:AC:=.seq (.reg f393_8) .ret
def f393_10:AC:=.cond (.t 24) f393_9 .skip
def f393_11:AC:=.seq (.reg f393_7) f393_10
def f393_12:AC:=.seq (.reg f393_6) f393_11
def f393_13:List AI:=[⟨some 26,.mov (.t 4),none⟩,
    ⟨some 27,.len .slc (.t 26),none⟩,
    ⟨some 8,.mov (.t 27),none⟩]
def f393_14:List AI:=[⟨some 28,.mov (.t 4),none⟩,
    ⟨some 29,.load true 3 (.t 6),none⟩,
    ⟨some 30,.rowLit 3 [(.str []),(.int .i64 0),(.int .i64 0)] 1 [(0,(.t 29))],none⟩,
    ⟨some 31,.app 3 32 (.t 28) (.t 30),none⟩,
    ⟨some 4,.mov (.t 31),none⟩]
def f393_15:List AI:=[⟨some 32,.mov (.t 8),none⟩,
    ⟨some 33,.bin .gtr (.t 32) (.c (.one (.int .i64 0))),none⟩,
    ⟨some 34,.mov (.t 33),none⟩,
    ⟨some 35,.load true 3 (.t 6),some (34,true)⟩,
    ⟨some 36,.mov (.t 4),some (34,true)⟩,
    ⟨some 37,.mov (.t 8),some (34,true)⟩,
    ⟨some 38,.bin .sub (.t 37) (.c (.one (.int .i64 1))),some (34,true)⟩,
    ⟨some 39,.iaddr 3 (.t 36) (.t 38),some (34,true)⟩,
    ⟨some 40,.load true 3 (.t 39),some (34,true)⟩,
    ⟨some 41,.call (.c (.one (.fn 389 []))) [(.t 35),(.t 40)],some (34,true)⟩,
    ⟨some 42,.pick (.t 34) (.t 41) (.c (.one (.bool false))),none⟩]
def f393_16:AC:=.cond (.t 42) .skip (.exit 2)
def f393_17:AC:=.seq (.dreg f393_15) f393_16
def f393_18:List AI:=[⟨some 43,.mov (.t 4),none⟩,
    ⟨some 44,.mov (.t 8),none⟩,
    ⟨some 45,.mov (.t 4),none⟩,
    ⟨some 46,.mov (.t 8),none⟩,
    ⟨some 47,.bin .sub (.t 46) (.c (.one (.int .i64 1))),none⟩,
    ⟨some 48,.iaddr 3 (.t 45) (.t 47),none⟩,
    ⟨some 49,.load true 3 (.t 48),none⟩,
    ⟨some 50,.iaddr 3 (.t 43) (.t 44),none⟩,
    ⟨none,.store 3 (.t 50) (.t 49),none⟩]
def f393_19:List AI:=[⟨some 51,.mov (.t 8),none⟩,
    ⟨some 52,.bin .sub (.t 51) (.c (.one (.int .i64 1))),none⟩,
    ⟨some 8,.mov (.t 52),none⟩]
def f393_20:AC:=.seq (.reg f393_18) (.reg f393_19)
def f393_21:AC:=.block 3 f393_20
def f393_22:AC:=.seq f393_17 f393_21
def f393_23:AC:=.loop f393_22
def f393_24:AC:=.block 2 f393_23
def f393_25:List AI:=[⟨some 53,.mov (.t 4),none⟩,
    ⟨some 54,.mov (.t 8),none⟩,
    ⟨some 55,.load true 3 (.t 6),none⟩,
    ⟨some 56,.iaddr 3 (.t 53) (.t 54),none⟩,
    ⟨none,.store 3 (.t 56) (.t 55),none⟩]
def f393_26:AC:=.seq f393_24 (.reg f393_25)
def f393_27:AC:=.seq (.reg f393_14) f393_26
def f393_28:AC:=.seq (.reg f393_13) f393_27
def f393_29:AC:=.seq f393_12 f393_28
def f393_30:AC:=.seq (.reg f393_5) f393_29
def f393_31:AC:=.block 1 f393_30
def f393_32:List AI:=[⟨some 57,.bin .add (.t 17) (.c (.one (.int .i64 1))),none⟩,
    ⟨some 17,.mov (.t 57),none⟩]
def f393_33:AC:=.seq f393_31 (.reg f393_32)
def f393_34:AC:=.seq f393_4 f393_33
def f393_35:AC:=.seq (.reg f393_3) f393_34
def f393_36:AC:=.loop f393_35
def f393_37:AC:=.block 0 f393_36
def f393_38:AC:=.seq (.reg f393_2) f393_37
def f393_39:List AI:=[⟨some 9,.mov (.c (.one .nils)),none⟩]
def f393_40:List AI:=[⟨some 58,.mov (.t 4),none⟩,
    ⟨some 59,.len .slc (.t 58),none⟩,
    ⟨some 60,.mov (.c (.one (.int .i64 0))),none⟩]
def f393_41:List AI:=[⟨some 61,.bin .lss (.t 60) (.t 59),none⟩]
def f393_42:AC:=.cond (.t 61) .skip (.exit 4)
def f393_43:List AI:=[⟨some 62,.iaddr 3 (.t 58) (.t 60),none⟩,
    ⟨some 63,.load true 3 (.t 62),none⟩,
    ⟨some 11,.new [(.str []),(.int .i64 0),(.int .i64 0)],none⟩,
    ⟨none,.store 3 (.t 11) (.t 63),none⟩]
def f393_44:List AI:=[⟨some 12,.mov (.c (.one (.bool false))),none⟩]
def f393_45:List AI:=[⟨some 64,.mov (.t 9),none⟩,
    ⟨some 65,.len .slc (.t 64),none⟩,
    ⟨some 66,.mov (.c (.one (.int .i64 0))),none⟩]
def f393_46:List AI:=[⟨some 67,.bin .lss (.t 66) (.t 65),none⟩]
def f393_47:AC:=.cond (.t 67) .skip (.exit 6)
def f393_48:List AI:=[⟨some 68,.iaddr 3 (.t 64) (.t 66),none⟩,
    ⟨some 69,.load true 3 (.t 68),none⟩,
    ⟨some 14,.new [(.str []),(.int .i64 0),(.int .i64 0)],none⟩,
    ⟨none,.store 3 (.t 14) (.t 69),none⟩]
def f393_49:List AI:=[⟨some 70,.mov (.t 12),none⟩,
    ⟨some 71,.mov (.t 70),none⟩,
    ⟨some 72,.faddr 0 (.t 14),some (71,false)⟩,
    ⟨some 73,.load false 1 (.t 72),some (71,false)⟩,
    ⟨some 74,.faddr 0 (.t 11),some (71,false)⟩,
    ⟨some 75,.load false 1 (.t 74),some (71,false)⟩,
    ⟨some 76,.bin .eql (.t 73) (.t 75),some (71,false)⟩,
    ⟨some 77,.pick (.t 71) (.c (.one (.bool true))) (.t 76),none⟩,
    ⟨some 12,.mov (.t 77),none⟩]
def f393_50:AC:=.seq (.reg f393_48) (.reg f393_49)
def f393_51:AC:=.block 7 f393_50
def f393_52:List AI:=[⟨some 78,.bin .add (.t 66) (.c (.one (.int .i64 1))),none⟩,
    ⟨some 66,.mov (.t 78),none⟩]
def f393_53:AC:=.seq f393_51 (.reg f393_52)
def f393_54:AC:=.seq f393_47 f393_53
def f393_55:AC:=.seq (.reg f393_46) f393_54
def f393_56:AC:=.loop f393_55
def f393_57:AC:=.block 6 f393_56
def f393_58:AC:=.seq (.reg f393_45) f393_57
def f393_59:List AI:=[⟨some 79,.mov (.t 12),none⟩,
    ⟨some 80,.un .not (.t 79),none⟩]
def f393_60:List AI:=[⟨some 81,.mov (.t 9),none⟩,
    ⟨some 82,.load true 3 (.t 11),none⟩,
    ⟨some 83,.rowLit 3 [(.str []),(.int .i64 0),(.int .i64 0)] 1 [(0,(.t 82))],none⟩,
    ⟨some 84,.app 3 32 (.t 81) (.t 83),none⟩,
    ⟨some 9,.mov (.t 84),none⟩]
def f393_61:AC:=.cond (.t 80) (.reg f393_60) .skip
def f393_62:AC:=.seq (.reg f393_59) f393_61
def f393_63:AC:=.seq f393_58 f393_62
def f393_64:AC:=.seq (.reg f393_44) f393_63
def f393_65:AC:=.seq (.reg f393_43) f393_64
def f393_66:AC:=.block 5 f393_65
def f393_67:List AI:=[⟨some 85,.bin .add (.t 60) (.c (.one (.int .i64 1))),none⟩,
    ⟨some 60,.mov (.t 85),none⟩]
def f393_68:AC:=.seq f393_66 (.reg f393_67)
def f393_69:AC:=.seq f393_42 f393_68
def f393_70:AC:=.seq (.reg f393_41) f393_69
def f393_71:AC:=.loop f393_70
def f393_72:AC:=.block 4 f393_71
def f393_73:AC:=.seq (.reg f393_40) f393_72
def f393_74:List AI:=[⟨some 86,.mov (.t 9),none⟩,
    ⟨some 2,.mov (.t 86),none⟩,
    ⟨some 3,.mov (.c (.one (.int .i64 0))),none⟩]
def f393_75:AC:=.seq (.reg f393_74) .ret
def f393_76:AC:=.seq f393_73 f393_75
def f393_77:AC:=.seq (.reg f393_39) f393_76
def f393_78:AC:=.seq f393_38 f393_77
def f393_79:AC:=.seq (.reg f393_1) f393_78
def f393_80:AC:=.seq (.reg f393_0) f393_79
def f393B:AC:=f393_80
def f393:AF:=⟨1,87,[(.t 2),(.t 3)],f393B⟩
def f394_0:List AI:=[⟨some 2,.mov (.c (.one .nils)),none⟩]
def f394_1:List AI:=[⟨some 3,.mov (.c (.one (.int .i64 0))),none⟩]
def f394_2:List AI:=[⟨some 9,.mov (.t 0),none⟩,
    ⟨some 10,.len .slc (.t 9),none⟩,
    ⟨some 11,.mov (.c (.one (.int .i64 0))),none⟩]
def f394_3:List AI:=[⟨some 12,.bin .lss (.t 11) (.t 10),none⟩]
def f394_4:AC:=.cond (.t 12) .skip (.exit 0)
def f394_5:List AI:=[⟨some 13,.iaddr 1 (.t 9) (.t 11),none⟩,
    ⟨some 14,.load false 1 (.t 13),none⟩,
    ⟨some 5,.mov (.t 14),none⟩]
def f394_6:List AI:=[⟨some 15,.mov (.t 3),none⟩,
    ⟨some 16,.mov (.t 5),none⟩,
    ⟨some 17,.len .slc (.t 16),none⟩,
    ⟨some 18,.bin .add (.t 15) (.t 17),none⟩,
    ⟨some 3,.mov (.t 18),none⟩]
def f394_7:List AI:=[⟨some 19,.mov (.t 3),none⟩,
    ⟨some 20,.bin .lss (.t 19) (.c (.one (.int .i64 0))),none⟩]
def f394_8:AC:=.cond (.t 20) .dead .skip
def f394_9:AC:=.seq (.reg f394_7) f394_8
def f394_10:AC:=.seq (.reg f394_6) f394_9
def f394_11:AC:=.seq (.reg f394_5) f394_10
def f394_12:AC:=.block 1 f394_11
def f394_13:List AI:=[⟨some 22,.bin .add (.t 11) (.c (.one (.int .i64 1))),none⟩,
    ⟨some 11,.mov (.t 22),none⟩]
def f394_14:AC:=.seq f394_12 (.reg f394_13)
def f394_15:AC:=.seq f394_4 f394_14
def f394_16:AC:=.seq (.reg f394_3) f394_15
def f394_17:AC:=.loop f394_16
def f394_18:AC:=.block 0 f394_17
def f394_19:AC:=.seq (.reg f394_2) f394_18
def f394_20:List AI:=[⟨some 23,.mov (.t 3),none⟩,
    ⟨some 24,.call (.c (.one (.fn 398 []))) [(.c (.one .nils)),(.t 23)],none⟩,
    ⟨some 6,.mov (.t 24),none⟩]
def f394_21:List AI:=[⟨some 25,.mov (.t 0),none⟩,
    ⟨some 26,.len .slc (.t 25),none⟩,
    ⟨some 27,.mov (.c (.one (.int .i64 0))),none⟩]
def f394_22:List AI:=[⟨some 28,.bin .lss (.t 27) (.t 26),none⟩]
def f394_23:AC:=.cond (.t 28) .skip (.exit 2)
def f394_24:List AI:=[⟨some 29,.iaddr 1 (.t 25) (.t 27),none⟩,
    ⟨some 30,.load false 1 (.t 29),none⟩,
    ⟨some 8,.mov (.t 30),none⟩]
def f394_25:List AI:=[⟨some 31,.mov (.t 6),none⟩,
    ⟨some 32,.mov (.t 8),none⟩,
    ⟨some 33,.app 3 32 (.t 31) (.t 32),none⟩,
    ⟨some 6,.mov (.t 33),none⟩]
def f394_26:AC:=.seq (.reg f394_24) (.reg f394_25)
def f394_27:AC:=.block 3 f394_26
def f394_28:List AI:=[⟨some 34,.bin .add (.t 27) (.c (.one (.int .i64 1))),none⟩,
    ⟨some 27,.mov (.t 34),none⟩]
def f394_29:AC:=.seq f394_27 (.reg f394_28)
def f394_30:AC:=.seq f394_23 f394_29
def f394_31:AC:=.seq (.reg f394_22) f394_30
def f394_32:AC:=.loop f394_31
def f394_33:AC:=.block 2 f394_32
def f394_34:AC:=.seq (.reg f394_21) f394_33
def f394_35:List AI:=[⟨some 35,.mov (.t 6),none⟩,
    ⟨some 2,.mov (.t 35),none⟩]
def f394_36:AC:=.seq (.reg f394_35) .ret
def f394_37:AC:=.seq f394_34 f394_36
def f394_38:AC:=.seq (.reg f394_20) f394_37
def f394_39:AC:=.seq f394_19 f394_38
def f394_40:AC:=.seq (.reg f394_1) f394_39
def f394_41:AC:=.seq (.reg f394_0) f394_40
def f394B:AC:=f394_41
def f394:AF:=⟨1,36,[(.t 2)],f394B⟩
def f395_0:List AI:=[⟨some 6,.mkmap,none⟩,
    ⟨some 3,.mov (.t 6),none⟩]
def f395_1:List AI:=[⟨some 7,.load false 1 (.t 1),none⟩,
    ⟨some 8,.call (.c (.one (.fn 397 []))) [(.t 7)],none⟩,
    ⟨some 9,.call (.c (.one (.fn 396 []))) [(.t 8),(.c (.one (.fn 392 [])))],none⟩,
    ⟨some 10,.len .slc (.t 9),none⟩,
    ⟨some 11,.mov (.c (.one (.int .i64 0))),none⟩]
def f395_2:List AI:=[⟨some 12,.bin .lss (.t 11) (.t 10),none⟩]
def f395_3:AC:=.cond (.t 12) .skip (.exit 0)
def f395_4:List AI:=[⟨some 13,.iaddr 3 (.t 9) (.t 11),none⟩,
    ⟨some 14,.load true 3 (.t 13),none⟩,
    ⟨some 5,.new [(.str []),(.int .i64 0),(.int .i64 0)],none⟩,
    ⟨none,.store 3 (.t 5) (.t 14),none⟩]
def f395_5:List AI:=[⟨some 15,.mov (.t 3),none⟩,
    ⟨some 16,.faddr 0 (.t 5),none⟩,
    ⟨some 17,.load false 1 (.t 16),none⟩,
    ⟨some 18,.lookup .str (.bool false) (.t 15) (.t 17) false,none⟩]
def f395_6:AC:=.cond (.t 18) (.exit 1) .skip
def f395_7:AC:=.seq (.reg f395_5) f395_6
def f395_8:List AI:=[⟨some 19,.mov (.t 0),none⟩,
    ⟨some 20,.mov (.t 3),none⟩,
    ⟨some 21,.len .map (.t 20),none⟩,
    ⟨some 22,.load true 3 (.t 5),none⟩,
    ⟨some 23,.call (.t 19) [(.t 21),(.t 22)],none⟩,
    ⟨some 24,.un .not (.t 23),none⟩]
def f395_9:AC:=.cond (.t 24) (.exit 0) .skip
def f395_10:AC:=.seq (.reg f395_8) f395_9
def f395_11:List AI:=[⟨some 25,.mov (.t 3),none⟩,
    ⟨some 26,.faddr 0 (.t 5),none⟩,
    ⟨some 27,.load false 1 (.t 26),none⟩,
    ⟨none,.mapset .str (.t 25) (.t 27) (.c (.one (.bool true))),none⟩]
def f395_12:AC:=.seq f395_10 (.reg f395_11)
def f395_13:AC:=.seq f395_7 f395_12
def f395_14:AC:=.seq (.reg f395_4) f395_13
def f395_15:AC:=.block 1 f395_14
def f395_16:List AI:=[⟨some 28,.bin .add (.t 11) (.c (.one (.int .i64 1))),none⟩,
    ⟨some 11,.mov (.t 28),none⟩]
def f395_17:AC:=.seq f395_15 (.reg f395_16)
def f395_18:AC:=.seq f395_3 f395_17
def f395_19:AC:=.seq (.reg f395_2) f395_18
def f395_20:AC:=.loop f395_19
def f395_21:AC:=.block 0 f395_20
def f395_22:AC:=.seq (.reg f395_1) f395_21
def f395_23:AC:=.seq .skip f395_22
def f395_24:AC:=.seq (.reg f395_0) f395_23
def f395_25:AC:=.seq .skip f395_24
def f395B:AC:=f395_25
def f395:AF:=⟨2,29,[],f395B⟩
def f396_0:List AI:=[⟨some 4,.mov (.c (.one .nils)),none⟩]
def f396_1:List AI:=[⟨some 6,.mov (.t 0),none⟩,
    ⟨some 7,.call (.c (.one (.fn 399 []))) [(.t 6)],none⟩,
    ⟨some 5,.mov (.t 7),none⟩]
def f396_2:List AI:=[⟨some 8,.mov (.t 5),none⟩,
    ⟨some 9,.mov (.t 1),none⟩,
    ⟨some 10,.call (.c (.one (.fn 400 []))) [(.t 8),(.t 9)],none⟩]
def f396_3:List AI:=[⟨some 11,.mov (.t 5),none⟩,
    ⟨some 4,.mov (.t 11),none⟩]
def f396_4:AC:=.seq (.reg f396_3) .ret
def f396_5:AC:=.seq (.reg f396_2) f396_4
def f396_6:AC:=.seq (.reg f396_1) f396_5
def f396_7:AC:=.seq (.reg f396_0) f396_6
def f396B:AC:=f396_7
def f396:AF:=⟨2,12,[(.t 4)],f396B⟩
def f397_0:List AI:=[⟨some 1,.box (.t 0),none⟩,
    ⟨some 2,.mov (.c (.one .nilf)),none⟩]
def f397_1:List AI:=[⟨some 3,.mkfn 401 [(.t 1)],none⟩,
    ⟨some 2,.mov (.t 3),none⟩]
def f397_2:AC:=.seq (.reg f397_1) .ret
def f397_3:AC:=.seq (.reg f397_0) f397_2
def f397B:AC:=f397_3
def f397:AF:=⟨1,4,[(.t 2)],f397B⟩
def f399_0:List AI:=[⟨some 2,.mov (.c (.one .nils)),none⟩]
def f399_1:List AI:=[⟨some 3,.mov (.t 0),none⟩,
    ⟨some 4,.call (.c (.one (.fn 402 []))) [(.c (.one .nils)),(.t 3)],none⟩,
    ⟨some 2,.mov (.t 4),none⟩]
def f399_2:AC:=.seq (.reg f399_1) .ret
def f399_3:AC:=.seq (.reg f399_0) f399_2
def f399B:AC:=f399_3
def f399:AF:=⟨1,5,[(.t 2)],f399B⟩
def f401_0:List AI:=[⟨some 5,.load false 1 (.t 1),none⟩,
    ⟨some 6,.len .slc (.t 5),none⟩,
    ⟨some 7,.mov (.c (.one (.int .i64 0))),none⟩]
def f401_1:List AI:=[⟨some 8,.bin .lss (.t 7) (.t 6),none⟩]
def f401_2:AC:=.cond (.t 8) .skip (.exit 0)
def f401_3:List AI:=[⟨some 9,.iaddr 3 (.t 5) (.t 7),none⟩,
    ⟨some 10,.load true 3 (.t 9),none⟩,
    ⟨some 4,.new [(.str []),(.int .i64 0),(.int .i64 0)],none⟩,
    ⟨none,.store 3 (.t 4) (.t 10),none⟩]
def f401_4:List AI:=[⟨some 11,.mov (.t 0),none⟩,
    ⟨some 12,.load true 3 (.t 4),none⟩,
    ⟨some 13,.call (.t 11) [(.t 12)],none⟩,
    ⟨some 14,.un .not (.t 13),none⟩]
def f401_5:AC:=.cond (.t 14) .ret .skip
def f401_6:AC:=.seq (.reg f401_4) f401_5
def f401_7:AC:=.seq (.reg f401_3) f401_6
def f401_8:AC:=.block 1 f401_7
def f401_9:List AI:=[⟨some 15,.bin .add (.t 7) (.c (.one (.int .i64 1))),none⟩,
    ⟨some 7,.mov (.t 15),none⟩]
def f401_10:AC:=.seq f401_8 (.reg f401_9)
def f401_11:AC:=.seq f401_2 f401_10
def f401_12:AC:=.seq (.reg f401_1) f401_11
def f401_13:AC:=.loop f401_12
def f401_14:AC:=.block 0 f401_13
def f401_15:AC:=.seq (.reg f401_0) f401_14
def f401B:AC:=f401_15
def f401:AF:=⟨2,16,[],f401B⟩
def f402_0:List AI:=[⟨some 2,.box (.t 0),none⟩,
    ⟨some 4,.mov (.c (.one .nils)),none⟩]
def f402_1:List AI:=[⟨some 6,.mov (.t 1),none⟩]
def f402_2:List AI:=[⟨some 5,.new [(.str []),(.int .i64 0),(.int .i64 0)],none⟩,
    ⟨none,.store 3 (.t 5) (.t 7),none⟩]
def f402_3:List AI:=[⟨some 8,.load false 1 (.t 2),none⟩,
    ⟨some 9,.load true 3 (.t 5),none⟩,
    ⟨some 10,.rowLit 3 [(.str []),(.int .i64 0),(.int .i64 0)] 1 [(0,(.t 9))],none⟩,
    ⟨some 11,.app 3 32 (.t 8) (.t 10),none⟩,
    ⟨none,.store 1 (.t 2) (.t 11),none⟩]
def f402_4:AC:=.block 1 (.reg f402_3)
def f402_5:AC:=.rangeF (.t 6) [7] (.reg f402_2) f402_4
def f402_6:AC:=.block 0 f402_5
def f402_7:AC:=.seq (.reg f402_1) f402_6
def f402_8:List AI:=[⟨some 12,.load false 1 (.t 2),none⟩,
    ⟨some 4,.mov (.t 12),none⟩]
def f402_9:AC:=.seq (.reg f402_8) .ret
def f402_10:AC:=.seq f402_7 f402_9
def f402_11:AC:=.seq (.reg f402_0) f402_10
def f402B:AC:=f402_11
def f402:AF:=⟨2,13,[(.t 4)],f402B⟩
end Go.EA.F
