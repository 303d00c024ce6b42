/- Functions of the program, as abstract code (printed by a program). Conditions: none (definitions). -/
import Derived.Test.YtfkejbbajggmnaaDoorEK1
namespace Go.EA.F
def f373_0:List AI:=[⟨some 4,.mov (.c (.one (.bool false))),none⟩]
def f373_1:List AI:=[⟨some 14,.call (.c (.one (.fn 377 []))) [],none⟩,
    ⟨some 15,.un .not (.t 14),none⟩]
def f373_2:List AI:=[⟨some 4,.mov (.c (.one (.bool false))),none⟩]
def f373_3:AC:=.seq (.reg f373_2) .ret
def f373_4:AC:=.cond (.t 15) f373_3 .skip
def f373_5:AC:=.seq (.reg f373_1) f373_4
def f373_6:List AI:=[⟨some 16,.mov (.t 0),none⟩,
    ⟨some 17,.call (.c (.one (.fn 378 []))) [(.t 16)],none⟩,
    ⟨some 18,.mov (.t 17),none⟩,
    ⟨some 19,.mov (.t 1),some (18,false)⟩,
    ⟨some 20,.len .str (.t 19),some (18,false)⟩,
    ⟨some 21,.bin .gtr (.t 20) (.c (.one (.int .i64 500))),some (18,false)⟩,
    ⟨some 22,.pick (.t 18) (.c (.one (.bool true))) (.t 21),none⟩]
def f373_7:List AI:=[⟨some 4,.mov (.c (.one (.bool true))),none⟩]
def f373_8:AC:=.seq (.reg f373_7) .ret
def f373_9:AC:=.cond (.t 22) f373_8 .skip
def f373_10:AC:=.seq (.reg f373_6) f373_9
def f373_11:List AI:=[⟨some 24,.mov (.t 0),none⟩,
    ⟨some 25,.call (.c (.one (.fn 379 []))) [(.t 24),(.c (.one (.int .i64 1000)))],none⟩,
    ⟨some 23,.mov (.t 25),none⟩,
    ⟨some 26,.ext (.t 23) 0,none⟩,
    ⟨some 27,.ext (.t 23) 1,none⟩,
    ⟨some 5,.mov (.t 26),none⟩,
    ⟨some 6,.mov (.t 27),none⟩]
def f373_12:List AI:=[⟨some 28,.mov (.t 6),none⟩,
    ⟨some 29,.bin .neq (.t 28) (.c (.one (.int .i64 0))),none⟩]
def f373_13:List AI:=[⟨some 4,.mov (.c (.one (.bool true))),none⟩]
def f373_14:AC:=.seq (.reg f373_13) .ret
def f373_15:AC:=.cond (.t 29) f373_14 .skip
def f373_16:AC:=.seq (.reg f373_12) f373_15
def f373_17:List AI:=[⟨some 7,.mov (.c (.one (.bool false))),none⟩]
def f373_18:List AI:=[⟨some 30,.mov (.t 5),none⟩,
    ⟨some 31,.len .slc (.t 30),none⟩,
    ⟨some 32,.mov (.c (.one (.int .i64 0))),none⟩]
def f373_19:List AI:=[⟨some 33,.bin .lss (.t 32) (.t 31),none⟩]
def f373_20:AC:=.cond (.t 33) .skip (.exit 0)
def f373_21:List AI:=[⟨some 34,.mov (.t 32),none⟩,
    ⟨some 35,.iaddr 3 (.t 30) (.t 32),none⟩,
    ⟨some 36,.load true 3 (.t 35),none⟩,
    ⟨some 9,.new [(.str []),(.int .i64 0),(.int .i64 0)],none⟩,
    ⟨some 8,.mov (.t 34),none⟩,
    ⟨none,.store 3 (.t 9) (.t 36),none⟩]
def f373_22:List AI:=[⟨some 38,.mov (.t 0),none⟩,
    ⟨some 39,.faddr 0 (.t 9),none⟩,
    ⟨some 40,.load false 1 (.t 39),none⟩,
    ⟨some 41,.call (.c (.one (.fn 382 []))) [(.t 38),(.t 40)],none⟩,
    ⟨some 37,.mov (.t 41),none⟩,
    ⟨some 42,.ext (.t 37) 0,none⟩,
    ⟨some 43,.ext (.t 37) 1,none⟩,
    ⟨some 10,.mov (.t 42),none⟩,
    ⟨some 11,.mov (.t 43),none⟩]
def f373_23:List AI:=[⟨some 44,.mov (.t 10),none⟩,
    ⟨some 45,.mov (.t 8),none⟩,
    ⟨some 46,.bin .neq (.t 44) (.t 45),none⟩,
    ⟨some 47,.mov (.t 46),none⟩,
    ⟨some 48,.mov (.t 11),some (47,false)⟩,
    ⟨some 49,.bin .neq (.t 48) (.c (.one (.int .i64 0))),some (47,false)⟩,
    ⟨some 50,.pick (.t 47) (.c (.one (.bool true))) (.t 49),none⟩]
def f373_24:List AI:=[⟨some 4,.mov (.c (.one (.bool false))),none⟩]
def f373_25:AC:=.seq (.reg f373_24) .ret
def f373_26:AC:=.cond (.t 50) f373_25 .skip
def f373_27:AC:=.seq (.reg f373_23) f373_26
def f373_28:List AI:=[⟨some 51,.mov (.t 7),none⟩,
    ⟨some 52,.mov (.t 51),none⟩,
    ⟨some 53,.faddr 0 (.t 9),some (52,false)⟩,
    ⟨some 54,.load false 1 (.t 53),some (52,false)⟩,
    ⟨some 55,.mov (.t 1),some (52,false)⟩,
    ⟨some 56,.bin .eql (.t 54) (.t 55),some (52,false)⟩,
    ⟨some 57,.pick (.t 52) (.c (.one (.bool true))) (.t 56),none⟩,
    ⟨some 7,.mov (.t 57),none⟩]
def f373_29:AC:=.seq f373_27 (.reg f373_28)
def f373_30:AC:=.seq (.reg f373_22) f373_29
def f373_31:AC:=.seq (.reg f373_21) f373_30
def f373_32:AC:=.block 1 f373_31
def f373_33:List AI:=[⟨some 58,.bin .add (.t 32) (.c (.one (.int .i64 1))),none⟩,
    ⟨some 32,.mov (.t 58),none⟩]
def f373_34:AC:=.seq f373_32 (.reg f373_33)
def f373_35:AC:=.seq f373_20 f373_34
def f373_36:AC:=.seq (.reg f373_19) f373_35
def f373_37:AC:=.loop f373_36
def f373_38:AC:=.block 0 f373_37
def f373_39:AC:=.seq (.reg f373_18) f373_38
def f373_40:List AI:=[⟨some 60,.mov (.t 0),none⟩,
    ⟨some 61,.mov (.t 1),none⟩,
    ⟨some 62,.call (.c (.one (.fn 382 []))) [(.t 60),(.t 61)],none⟩,
    ⟨some 59,.mov (.t 62),none⟩,
    ⟨some 63,.ext (.t 59) 0,none⟩,
    ⟨some 64,.ext (.t 59) 1,none⟩,
    ⟨some 12,.mov (.t 63),none⟩,
    ⟨some 13,.mov (.t 64),none⟩]
def f373_41:List AI:=[⟨some 65,.mov (.t 13),none⟩,
    ⟨some 66,.bin .eql (.t 65) (.c (.one (.int .i64 0))),none⟩,
    ⟨some 67,.mov (.t 7),none⟩,
    ⟨some 68,.eqv .bool false (.t 66) (.t 67),none⟩,
    ⟨some 69,.mov (.t 68),none⟩,
    ⟨some 70,.mov (.t 7),some (69,true)⟩,
    ⟨some 71,.mov (.t 70),some (69,true)⟩,
    ⟨some 72,.mov (.t 13),some (71,false)⟩,
    ⟨some 73,.bin .eql (.t 72) (.c (.one (.int .i64 10))),some (71,false)⟩,
    ⟨some 74,.pick (.t 71) (.c (.one (.bool true))) (.t 73),some (69,true)⟩,
    ⟨some 75,.pick (.t 69) (.t 74) (.c (.one (.bool false))),none⟩,
    ⟨some 4,.mov (.t 75),none⟩]
def f373_42:AC:=.seq (.reg f373_41) .ret
def f373_43:AC:=.seq (.reg f373_40) f373_42
def f373_44:AC:=.seq f373_39 f373_43
def f373_45:AC:=.seq (.reg f373_17) f373_44
def f373_46:AC:=.seq f373_16 f373_45
def f373_47:AC:=.seq (.reg f373_11) f373_46
def f373_48:AC:=.seq f373_10 f373_47
def f373_49:AC:=.seq f373_5 f373_48
def f373_50:AC:=.seq (.reg f373_0) f373_49
def f373B:AC:=f373_50
def f373:AF:=⟨2,76,[(.t 4)],f373B⟩
def f377_0:List AI:=[⟨some 0,.mov (.c (.one (.bool false))),none⟩]
def f377_1:List AI:=[⟨some 4,.build [(.str []),(.int .i64 0),(.int .i64 0)] [(0,(1,(.c (.one (.str [97,109]))))),(1,(1,(.c (.one (.int .i64 7))))),(2,(1,(.c (.one (.int .i64 1)))))],none⟩,
    ⟨some 5,.build [(.str []),(.int .i64 0),(.int .i64 0)] [(0,(1,(.c (.one (.str [97,110]))))),(1,(1,(.c (.one (.int .i64 7))))),(2,(1,(.c (.one (.int .i64 2)))))],none⟩,
    ⟨some 6,.build [(.str []),(.int .i64 0),(.int .i64 0)] [(0,(1,(.c (.one (.str [97,109]))))),(1,(1,(.c (.one (.int .i64 9))))),(2,(1,(.c (.one (.int .i64 1)))))],none⟩,
    ⟨some 7,.rowLit 3 [(.str []),(.int .i64 0),(.int .i64 0)] 3 [(0,(.t 4)),(1,(.t 5)),(2,(.t 6))],none⟩,
    ⟨some 8,.call (.c (.one (.fn 379 []))) [(.t 7),(.c (.one (.int .i64 5)))],none⟩,
    ⟨some 3,.mov (.t 8),none⟩,
    ⟨some 9,.ext (.t 3) 0,none⟩,
    ⟨some 10,.ext (.t 3) 1,none⟩,
    ⟨some 1,.mov (.t 9),none⟩,
    ⟨some 2,.mov (.t 10),none⟩]
def f377_2:List AI:=[⟨some 11,.mov (.t 1),none⟩,
    ⟨some 12,.len .slc (.t 11),none⟩,
    ⟨some 13,.bin .eql (.t 12) (.c (.one (.int .i64 2))),none⟩,
    ⟨some 14,.mov (.t 13),none⟩,
    ⟨some 15,.mov (.t 1),some (14,true)⟩,
    ⟨some 16,.iaddr 3 (.t 15) (.c (.one (.int .i64 0))),some (14,true)⟩,
    ⟨some 17,.faddr 0 (.t 16),some (14,true)⟩,
    ⟨some 18,.load false 1 (.t 17),some (14,true)⟩,
    ⟨some 19,.bin .eql (.t 18) (.c (.one (.str [97,110]))),some (14,true)⟩,
    ⟨some 20,.pick (.t 14) (.t 19) (.c (.one (.bool false))),none⟩,
    ⟨some 21,.mov (.t 20),none⟩,
    ⟨some 22,.mov (.t 1),some (21,true)⟩,
    ⟨some 23,.iaddr 3 (.t 22) (.c (.one (.int .i64 1))),some (21,true)⟩,
    ⟨some 24,.faddr 1 (.t 23),some (21,true)⟩,
    ⟨some 25,.load false 1 (.t 24),some (21,true)⟩,
    ⟨some 26,.bin .eql (.t 25) (.c (.one (.int .i64 7))),some (21,true)⟩,
    ⟨some 27,.pick (.t 21) (.t 26) (.c (.one (.bool false))),none⟩,
    ⟨some 28,.mov (.t 27),none⟩,
    ⟨some 29,.mov (.t 2),some (28,true)⟩,
    ⟨some 30,.bin .eql (.t 29) (.c (.one (.int .i64 0))),some (28,true)⟩,
    ⟨some 31,.pick (.t 28) (.t 30) (.c (.one (.bool false))),none⟩,
    ⟨some 32,.mov (.t 31),none⟩,
    ⟨some 33,.build [(.str []),(.int .i64 0),(.int .i64 0)] [],some (32,true)⟩,
    ⟨some 34,.call (.c (.one (.fn 387 []))) [(.t 33)],some (32,true)⟩,
    ⟨some 35,.bin .eql (.t 34) (.c (.one (.int .i64 4))),some (32,true)⟩,
    ⟨some 36,.pick (.t 32) (.t 35) (.c (.one (.bool false))),none⟩,
    ⟨some 0,.mov (.t 36),none⟩]
def f377_3:AC:=.seq (.reg f377_2) .ret
def f377_4:AC:=.seq (.reg f377_1) f377_3
def f377_5:AC:=.seq (.reg f377_0) f377_4
def f377B:AC:=f377_5
def f377:AF:=⟨0,37,[(.t 0)],f377B⟩
def f378_0:List AI:=[⟨some 2,.mov (.c (.one (.bool false))),none⟩]
def f378_1:List AI:=[⟨some 3,.mov (.c (.one (.int .i64 0))),none⟩]
def f378_2:List AI:=[⟨some 6,.mov (.t 0),none⟩,
    ⟨some 7,.len .slc (.t 6),none⟩,
    ⟨some 8,.mov (.c (.one (.int .i64 0))),none⟩]
def f378_3:List AI:=[⟨some 9,.bin .lss (.t 8) (.t 7),none⟩]
def f378_4:AC:=.cond (.t 9) .skip (.exit 0)
def f378_5:List AI:=[⟨some 10,.iaddr 3 (.t 6) (.t 8),none⟩,
    ⟨some 11,.load true 3 (.t 10),none⟩,
    ⟨some 5,.new [(.str []),(.int .i64 0),(.int .i64 0)],none⟩,
    ⟨none,.store 3 (.t 5) (.t 11),none⟩]
def f378_6:List AI:=[⟨some 12,.mov (.t 3),none⟩,
    ⟨some 13,.faddr 0 (.t 5),none⟩,
    ⟨some 14,.load false 1 (.t 13),none⟩,
    ⟨some 15,.len .str (.t 14),none⟩,
    ⟨some 16,.bin .add (.t 12) (.t 15),none⟩,
    ⟨some 3,.mov (.t 16),none⟩]
def f378_7:AC:=.seq (.reg f378_5) (.reg f378_6)
def f378_8:AC:=.block 1 f378_7
def f378_9:List AI:=[⟨some 17,.bin .add (.t 8) (.c (.one (.int .i64 1))),none⟩,
    ⟨some 8,.mov (.t 17),none⟩]
def f378_10:AC:=.seq f378_8 (.reg f378_9)
def f378_11:AC:=.seq f378_4 f378_10
def f378_12:AC:=.seq (.reg f378_3) f378_11
def f378_13:AC:=.loop f378_12
def f378_14:AC:=.block 0 f378_13
def f378_15:AC:=.seq (.reg f378_2) f378_14
def f378_16:List AI:=[⟨some 18,.mov (.t 0),none⟩,
    ⟨some 19,.len .slc (.t 18),none⟩,
    ⟨some 20,.bin .gtr (.t 19) (.c (.one (.int .i64 200))),none⟩,
    ⟨some 21,.mov (.t 20),none⟩,
    ⟨some 22,.mov (.t 3),some (21,false)⟩,
    ⟨some 23,.bin .gtr (.t 22) (.c (.one (.int .i64 4000))),some (21,false)⟩,
    ⟨some 24,.pick (.t 21) (.c (.one (.bool true))) (.t 23),none⟩,
    ⟨some 2,.mov (.t 24),none⟩]
def f378_17:AC:=.seq (.reg f378_16) .ret
def f378_18:AC:=.seq f378_15 f378_17
def f378_19:AC:=.seq (.reg f378_1) f378_18
def f378_20:AC:=.seq (.reg f378_0) f378_19
def f378B:AC:=f378_20
def f378:AF:=⟨1,25,[(.t 2)],f378B⟩
def f379_0:List AI:=[⟨some 3,.box (.t 1),none⟩,
    ⟨some 4,.new [.nils],none⟩,
    ⟨some 5,.mov (.c (.one (.int .i64 0))),none⟩]
def f379_1:List AI:=[⟨some 9,.mov (.t 0),none⟩,
    ⟨some 10,.call (.c (.one (.fn 390 []))) [(.t 9)],none⟩,
    ⟨some 6,.mov (.t 10),none⟩]
def f379_2:List AI:=[⟨some 11,.mov (.t 6),none⟩,
    ⟨some 12,.bin .neq (.t 11) (.c (.one (.int .i64 0))),none⟩]
def f379_3:List AI:=[⟨some 13,.mov (.t 6),none⟩,
    ⟨none,.store 1 (.t 4) (.c (.one .nils)),none⟩,
    ⟨some 5,.mov (.t 13),none⟩]
def f379_4:AC:=.seq (.reg f379_3) .ret
def f379_5:AC:=.cond (.t 12) f379_4 .skip
def f379_6:AC:=.seq (.reg f379_2) f379_5
def f379_7:AC:=.seq (.reg f379_1) f379_6
def f379_8:List AI:=[⟨some 14,.load false 1 (.t 3),none⟩,
    ⟨some 15,.bin .lss (.t 14) (.c (.one (.int .i64 0))),none⟩,
    ⟨some 16,.mov (.t 15),none⟩,
    ⟨some 17,.load false 1 (.t 3),some (16,false)⟩,
    ⟨some 18,.bin .gtr (.t 17) (.c (.one (.int .i64 1000))),some (16,false)⟩,
    ⟨some 19,.pick (.t 16) (.c (.one (.bool true))) (.t 18),none⟩]
def f379_9:List AI:=[⟨none,.store 1 (.t 4) (.c (.one .nils)),none⟩,
    ⟨some 5,.mov (.c (.one (.int .i64 2))),none⟩]
def f379_10:AC:=.seq (.reg f379_9) .ret
def f379_11:AC:=.cond (.t 19) f379_10 .skip
def f379_12:AC:=.seq (.reg f379_8) f379_11
def f379_13:List AI:=[⟨some 20,.mov (.t 0),none⟩,
    ⟨some 21,.call (.c (.one (.fn 391 []))) [(.t 20)],none⟩]
def f379_14:List AI:=[⟨some 7,.mov (.t 22),none⟩]
def f379_15:List AI:=[⟨some 8,.new [(.str []),(.int .i64 0),(.int .i64 0)],none⟩,
    ⟨none,.store 3 (.t 8) (.t 23),none⟩]
def f379_16:AC:=.seq (.reg f379_14) (.reg f379_15)
def f379_17:List AI:=[⟨some 24,.mov (.t 7),none⟩,
    ⟨some 25,.load false 1 (.t 3),none⟩,
    ⟨some 26,.bin .eql (.t 24) (.t 25),none⟩]
def f379_18:AC:=.cond (.t 26) (.exit 0) .skip
def f379_19:AC:=.seq (.reg f379_17) f379_18
def f379_20:List AI:=[⟨some 27,.load false 1 (.t 4),none⟩,
    ⟨some 28,.load true 3 (.t 8),none⟩,
    ⟨some 29,.rowLit 3 [(.str []),(.int .i64 0),(.int .i64 0)] 1 [(0,(.t 28))],none⟩,
    ⟨some 30,.app 3 32 (.t 27) (.t 29),none⟩,
    ⟨none,.store 1 (.t 4) (.t 30),none⟩]
def f379_21:AC:=.seq f379_19 (.reg f379_20)
def f379_22:AC:=.block 1 f379_21
def f379_23:AC:=.rangeF (.t 21) [22,23] f379_16 f379_22
def f379_24:AC:=.block 0 f379_23
def f379_25:AC:=.seq (.reg f379_13) f379_24
def f379_26:List AI:=[⟨some 31,.load false 1 (.t 4),none⟩,
    ⟨none,.store 1 (.t 4) (.t 31),none⟩,
    ⟨some 5,.mov (.c (.one (.int .i64 0))),none⟩]
def f379_27:AC:=.seq (.reg f379_26) .ret
def f379_28:AC:=.seq f379_25 f379_27
def f379_29:AC:=.seq f379_12 f379_28
def f379_30:AC:=.seq f379_7 f379_29
def f379_31:AC:=.seq (.reg f379_0) f379_30
def f379B:AC:=f379_31
def f379:AF:=⟨2,32,[(.cell 4 false 1),(.t 5)],f379B⟩
def f382_0:List AI:=[⟨some 3,.box (.t 1),none⟩,
    ⟨some 4,.new [(.int .i64 0)],none⟩,
    ⟨some 5,.new [(.int .i64 0)],none⟩]
def f382_1:List AI:=[⟨some 9,.mov (.t 0),none⟩,
    ⟨some 10,.call (.c (.one (.fn 390 []))) [(.t 9)],none⟩,
    ⟨some 6,.mov (.t 10),none⟩]
def f382_2:List AI:=[⟨some 11,.mov (.t 6),none⟩,
    ⟨some 12,.bin .neq (.t 11) (.c (.one (.int .i64 0))),none⟩]
def f382_3:List AI:=[⟨some 13,.mov (.t 6),none⟩,
    ⟨none,.store 1 (.t 4) (.c (.one (.int .i64 0))),none⟩,
    ⟨none,.store 1 (.t 5) (.t 13),none⟩]
def f382_4:AC:=.seq (.reg f382_3) .ret
def f382_5:AC:=.cond (.t 12) f382_4 .skip
def f382_6:AC:=.seq (.reg f382_2) f382_5
def f382_7:AC:=.seq (.reg f382_1) f382_6
def f382_8:List AI:=[⟨some 14,.mov (.t 0),none⟩,
    ⟨some 15,.call (.c (.one (.fn 391 []))) [(.t 14)],none⟩]
def f382_9:List AI:=[⟨some 7,.mov (.t 16),none⟩]
def f382_10:List AI:=[⟨some 8,.new [(.str []),(.int .i64 0),(.int .i64 0)],none⟩,
    ⟨none,.store 3 (.t 8) (.t 17),none⟩]
def f382_11:AC:=.seq (.reg f382_9) (.reg f382_10)
def f382_12:List AI:=[⟨some 18,.faddr 0 (.t 8),none⟩,
    ⟨some 19,.load false 1 (.t 18),none⟩,
    ⟨some 20,.load false 1 (.t 3),none⟩,
    ⟨some 21,.bin .eql (.t 19) (.t 20),none⟩]
def f382_13:List AI:=[⟨some 22,.mov (.t 7),none⟩,
    ⟨none,.store 1 (.t 4) (.t 22),none⟩,
    ⟨none,.store 1 (.t 5) (.c (.one (.int .i64 0))),none⟩]
def f382_14:AC:=.seq (.reg f382_13) .ret
def f382_15:AC:=.cond (.t 21) f382_14 .skip
def f382_16:AC:=.seq (.reg f382_12) f382_15
def f382_17:AC:=.block 1 f382_16
def f382_18:AC:=.rangeF (.t 15) [16,17] f382_11 f382_17
def f382_19:AC:=.block 0 f382_18
def f382_20:AC:=.seq (.reg f382_8) f382_19
def f382_21:List AI:=[⟨none,.store 1 (.t 4) (.c (.one (.int .i64 0))),none⟩,
    ⟨none,.store 1 (.t 5) (.c (.one (.int .i64 10))),none⟩]
def f382_22:AC:=.seq (.reg f382_21) .ret
def f382_23:AC:=.seq f382_20 f382_22
def f382_24:AC:=.seq f382_7 f382_23
def f382_25:AC:=.seq (.reg f382_0) f382_24
def f382B:AC:=f382_25
def f382:AF:=⟨2,23,[(.cell 4 false 1),(.cell 5 false 1)],f382B⟩
def f387_0:List AI:=[⟨some 1,.box (.t 0),none⟩,
    ⟨some 2,.mov (.c (.one (.int .i64 0))),none⟩]
def f387_1:List AI:=[⟨some 6,.faddr 0 (.t 1),none⟩,
    ⟨some 7,.load false 1 (.t 6),none⟩,
    ⟨some 8,.call (.c (.one (.fn 20 []))) [(.t 7)],none⟩,
    ⟨some 5,.mov (.t 8),none⟩,
    ⟨some 9,.ext (.t 5) 0,none⟩,
    ⟨some 10,.ext (.t 5) 1,none⟩,
    ⟨some 3,.mov (.t 9),none⟩,
    ⟨some 4,.mov (.t 10),none⟩]
def f387_2:List AI:=[⟨some 11,.mov (.t 4),none⟩,
    ⟨some 12,.bin .eql (.t 11) (.c (.one (.int .i64 0))),none⟩,
    ⟨some 13,.mov (.t 12),none⟩,
    ⟨some 14,.faddr 1 (.t 1),some (13,true)⟩,
    ⟨some 15,.load false 1 (.t 14),some (13,true)⟩,
    ⟨some 16,.bin .lss (.t 15) (.c (.one (.int .i64 0))),some (13,true)⟩,
    ⟨some 17,.mov (.t 16),some (13,true)⟩,
    ⟨some 18,.faddr 1 (.t 1),some (17,false)⟩,
    ⟨some 19,.load false 1 (.t 18),some (17,false)⟩,
    ⟨some 20,.bin .gtr (.t 19) (.c (.one (.int .i64 4096))),some (17,false)⟩,
    ⟨some 21,.pick (.t 17) (.c (.one (.bool true))) (.t 20),some (13,true)⟩,
    ⟨some 22,.mov (.t 21),some (13,true)⟩,
    ⟨some 23,.faddr 2 (.t 1),some (22,false)⟩,
    ⟨some 24,.load false 1 (.t 23),some (22,false)⟩,
    ⟨some 25,.bin .lss (.t 24) (.c (.one (.int .i64 1))),some (22,false)⟩,
    ⟨some 26,.pick (.t 22) (.c (.one (.bool true))) (.t 25),some (13,true)⟩,
    ⟨some 27,.mov (.t 26),some (13,true)⟩,
    ⟨some 28,.faddr 2 (.t 1),some (27,false)⟩,
    ⟨some 29,.load false 1 (.t 28),some (27,false)⟩,
    ⟨some 30,.bin .gtr (.t 29) (.c (.one (.int .i64 1073741824))),some (27,false)⟩,
    ⟨some 31,.pick (.t 27) (.c (.one (.bool true))) (.t 30),some (13,true)⟩,
    ⟨some 32,.pick (.t 13) (.t 31) (.c (.one (.bool false))),none⟩]
def f387_3:List AI:=[⟨some 2,.mov (.c (.one (.int .i64 2))),none⟩]
def f387_4:AC:=.seq (.reg f387_3) .ret
def f387_5:AC:=.cond (.t 32) f387_4 .skip
def f387_6:AC:=.seq (.reg f387_2) f387_5
def f387_7:List AI:=[⟨some 33,.mov (.t 4),none⟩,
    ⟨some 2,.mov (.t 33),none⟩]
def f387_8:AC:=.seq (.reg f387_7) .ret
def f387_9:AC:=.seq f387_6 f387_8
def f387_10:AC:=.seq (.reg f387_1) f387_9
def f387_11:AC:=.seq (.reg f387_0) f387_10
def f387B:AC:=f387_11
def f387:AF:=⟨1,34,[(.t 2)],f387B⟩
def f390_0:List AI:=[⟨some 2,.mov (.c (.one (.int .i64 0))),none⟩]
def f390_1:List AI:=[⟨some 6,.mov (.t 0),none⟩,
    ⟨some 7,.len .slc (.t 6),none⟩,
    ⟨some 8,.mov (.c (.one (.int .i64 0))),none⟩]
def f390_2:List AI:=[⟨some 9,.bin .lss (.t 8) (.t 7),none⟩]
def f390_3:AC:=.cond (.t 9) .skip (.exit 0)
def f390_4:List AI:=[⟨some 10,.iaddr 3 (.t 6) (.t 8),none⟩,
    ⟨some 11,.load true 3 (.t 10),none⟩,
    ⟨some 4,.new [(.str []),(.int .i64 0),(.int .i64 0)],none⟩,
    ⟨none,.store 3 (.t 4) (.t 11),none⟩]
def f390_5:List AI:=[⟨some 12,.load true 3 (.t 4),none⟩,
    ⟨some 13,.call (.c (.one (.fn 387 []))) [(.t 12)],none⟩,
    ⟨some 5,.mov (.t 13),none⟩]
def f390_6:List AI:=[⟨some 14,.mov (.t 5),none⟩,
    ⟨some 15,.bin .neq (.t 14) (.c (.one (.int .i64 0))),none⟩]
def f390_7:List AI:=[⟨some 16,.mov (.t 5),none⟩,
    ⟨some 2,.mov (.t 16),none⟩]
def f390_8:AC:=.seq (.reg f390_7) .ret
def f390_9:AC:=.cond (.t 15) f390_8 .skip
def f390_10:AC:=.seq (.reg f390_6) f390_9
def f390_11:AC:=.seq (.reg f390_5) f390_10
def f390_12:AC:=.seq (.reg f390_4) f390_11
def f390_13:AC:=.block 1 f390_12
def f390_14:List AI:=[⟨some 17,.bin .add (.t 8) (.c (.one (.int .i64 1))),none⟩,
    ⟨some 8,.mov (.t 17),none⟩]
def f390_15:AC:=.seq f390_13 (.reg f390_14)
def f390_16:AC:=.seq f390_3 f390_15
def f390_17:AC:=.seq (.reg f390_2) f390_16
def f390_18:AC:=.loop f390_17
def f390_19:AC:=.block 0 f390_18
def f390_20:AC:=.seq (.reg f390_1) f390_19
def f390_21:List AI:=[⟨some 2,.mov (.c (.one (.int .i64 0))),none⟩]
def f390_22:AC:=.seq (.reg f390_21) .ret
def f390_23:AC:=.seq f390_20 f390_22
def f390_24:AC:=.seq (.reg f390_0) f390_23
def f390B:AC:=f390_24
def f390:AF:=⟨1,18,[(.t 2)],f390B⟩
def f391_0:List AI:=[⟨some 1,.box (.t 0),none⟩,
    ⟨some 2,.mov (.c (.one .nilf)),none⟩]
def f391_1:List AI:=[⟨some 3,.mkfn 395 [(.t 1)],none⟩,
    ⟨some 2,.mov (.t 3),none⟩]
def f391_2:AC:=.seq (.reg f391_1) .ret
def f391_3:AC:=.seq (.reg f391_0) f391_2
def f391B:AC:=f391_3
def f391:AF:=⟨1,4,[(.t 2)],f391B⟩
def f392_0:List AI:=[⟨some 2,.box (.t 0),none⟩,
    ⟨some 3,.box (.t 1),none⟩,
    ⟨some 4,.mov (.c (.one (.int .i64 0))),none⟩]
def f392_1:List AI:=[⟨some 5,.faddr 1 (.t 2),none⟩,
    ⟨some 6,.load false 1 (.t 5),none⟩,
    ⟨some 7,.faddr 1 (.t 3),none⟩,
    ⟨some 8,.load false 1 (.t 7),none⟩,
    ⟨some 9,.call (.c (.one (.fn 328 []))) [(.t 6),(.t 8)],none⟩,
    ⟨some 10,.faddr 2 (.t 3),none⟩,
    ⟨some 11,.load false 1 (.t 10),none⟩,
    ⟨some 12,.faddr 2 (.t 2),none⟩,
    ⟨some 13,.load false 1 (.t 12),none⟩,
    ⟨some 14,.call (.c (.one (.fn 328 []))) [(.t 11),(.t 13)],none⟩,
    ⟨some 15,.faddr 0 (.t 2),none⟩,
    ⟨some 16,.load false 1 (.t 15),none⟩,
    ⟨some 17,.faddr 0 (.t 3),none⟩,
    ⟨some 18,.load false 1 (.t 17),none⟩,
    ⟨some 19,.call (.c (.one (.fn 252 []))) [(.t 16),(.t 18)],none⟩,
    ⟨some 20,.rowLit 1 [(.int .i64 0)] 3 [(0,(.t 9)),(1,(.t 14)),(2,(.t 19))],none⟩,
    ⟨some 21,.call (.c (.one (.fn 251 []))) [(.t 20)],none⟩,
    ⟨some 4,.mov (.t 21),none⟩]
def f392_2:AC:=.seq (.dreg f392_1) .ret
def f392_3:AC:=.seq (.reg f392_0) f392_2
def f392B:AC:=f392_3
def f392:AF:=⟨2,22,[(.t 4)],f392B⟩
def f395_0:List AI:=[⟨some 6,.mkmap,none⟩,
    ⟨some 3,.mov (.t 6),none⟩]
def f395_1:List AI:=[⟨some 7,.load false 1 (.t 1),none⟩,
    ⟨some 8,.call (.c (.one (.fn 397 []))) [(.t 7)],none⟩,
    ⟨some 9,.call (.c (.one (.fn 396 []))) [(.t 8),(.c (.one (.fn 392 [])))],none⟩,
    ⟨some 10,.len .slc (.t 9),none⟩,
    ⟨some 11,.mov (.c (.one (.int .i64 0))),none⟩]
def f395_2:List AI:=[⟨some 12,.bin .lss (.t 11) (.t 10),none⟩]
def f395_3:AC:=.cond (.t 12) .skip (.exit 0)
def f395_4:List AI:=[⟨some 13,.iaddr 3 (.t 9) (.t 11),none⟩,
    ⟨some 14,.load true 3 (.t 13),none⟩,
    ⟨some 5,.new [(.str []),(.int .i64 0),(.int .i64 0)],none⟩,
    ⟨none,.store 3 (.t 5) (.t 14),none⟩]
def f395_5:List AI:=[⟨some 15,.mov (.t 3),none⟩,
    ⟨some 16,.faddr 0 (.t 5),none⟩,
    ⟨some 17,.load false 1 (.t 16),none⟩,
    ⟨some 18,.lookup .str (.bool false) (.t 15) (.t 17) false,none⟩]
def f395_6:AC:=.cond (.t 18) (.exit 1) .skip
def f395_7:AC:=.seq (.reg f395_5) f395_6
def f395_8:List AI:=[⟨some 19,.mov (.t 0),none⟩,
    ⟨some 20,.mov (.t 3),none⟩,
    ⟨some 21,.len .map (.t 20),none⟩,
    ⟨some 22,.load true 3 (.t 5),none⟩,
    ⟨some 23,.call (.t 19) [(.t 21),(.t 22)],none⟩,
    ⟨some 24,.un .not (.t 23),none⟩]
def f395_9:AC:=.cond (.t 24) (.exit 0) .skip
def f395_10:AC:=.seq (.reg f395_8) f395_9
def f395_11:List AI:=[⟨some 25,.mov (.t 3),none⟩,
    ⟨some 26,.faddr 0 (.t 5),none⟩,
    ⟨some 27,.load false 1 (.t 26),none⟩,
    ⟨none,.mapset .str (.t 25) (.t 27) (.c (.one (.bool true))),none⟩]
def f395_12:AC:=.seq f395_10 (.reg f395_11)
def f395_13:AC:=.seq f395_7 f395_12
def f395_14:AC:=.seq (.reg f395_4) f395_13
def f395_15:AC:=.block 1 f395_14
def f395_16:List AI:=[⟨some 28,.bin .add (.t 11) (.c (.one (.int .i64 1))),none⟩,
    ⟨some 11,.mov (.t 28),none⟩]
def f395_17:AC:=.seq f395_15 (.reg f395_16)
def f395_18:AC:=.seq f395_3 f395_17
def f395_19:AC:=.seq (.reg f395_2) f395_18
def f395_20:AC:=.loop f395_19
def f395_21:AC:=.block 0 f395_20
def f395_22:AC:=.seq (.reg f395_1) f395_21
def f395_23:AC:=.seq .skip f395_22
def f395_24:AC:=.seq (.reg f395_0) f395_23
def f395_25:AC:=.seq .skip f395_24
def f395B:AC:=f395_25
def f395:AF:=⟨2,29,[],f395B⟩
def f396_0:List AI:=[⟨some 4,.mov (.c (.one .nils)),none⟩]
def f396_1:List AI:=[⟨some 6,.mov (.t 0),none⟩,
    ⟨some 7,.call (.c (.one (.fn 399 []))) [(.t 6)],none⟩,
    ⟨some 5,.mov (.t 7),none⟩]
def f396_2:List AI:=[⟨some 8,.mov (.t 5),none⟩,
    ⟨some 9,.mov (.t 1),none⟩,
    ⟨some 10,.call (.c (.one (.fn 400 []))) [(.t 8),(.t 9)],none⟩]
def f396_3:List AI:=[⟨some 11,.mov (.t 5),none⟩,
    ⟨some 4,.mov (.t 11),none⟩]
def f396_4:AC:=.seq (.reg f396_3) .ret
def f396_5:AC:=.seq (.reg f396_2) f396_4
def f396_6:AC:=.seq (.reg f396_1) f396_5
def f396_7:AC:=.seq (.reg f396_0) f396_6
def f396B:AC:=f396_7
def f396:AF:=⟨2,12,[(.t 4)],f396B⟩
def f397_0:List AI:=[⟨some 1,.box (.t 0),none⟩,
    ⟨some 2,.mov (.c (.one .nilf)),none⟩]
def f397_1:List AI:=[⟨some 3,.mkfn 401 [(.t 1)],none⟩,
    ⟨some 2,.mov (.t 3),none⟩]
def f397_2:AC:=.seq (.reg f397_1) .ret
def f397_3:AC:=.seq (.reg f397_0) f397_2
def f397B:AC:=f397_3
def f397:AF:=⟨1,4,[(.t 2)],f397B⟩
def f399_0:List AI:=[⟨some 2,.mov (.c (.one .nils)),none⟩]
def f399_1:List AI:=[⟨some 3,.mov (.t 0),none⟩,
    ⟨some 4,.call (.c (.one (.fn 402 []))) [(.c (.one .nils)),(.t 3)],none⟩,
    ⟨some 2,.mov (.t 4),none⟩]
def f399_2:AC:=.seq (.reg f399_1) .ret
def f399_3:AC:=.seq (.reg f399_0) f399_2
def f399B:AC:=f399_3
def f399:AF:=⟨1,5,[(.t 2)],f399B⟩
def f401_0:List AI:=[⟨some 5,.load false 1 (.t 1),none⟩,
    ⟨some 6,.len .slc (.t 5),none⟩,
    ⟨some 7,.mov (.c (.one (.int .i64 0))),none⟩]
def f401_1:List AI:=[⟨some 8,.bin .lss (.t 7) (.t 6),none⟩]
def f401_2:AC:=.cond (.t 8) .skip (.exit 0)
def f401_3:List AI:=[⟨some 9,.iaddr 3 (.t 5) (.t 7),none⟩,
    ⟨some 10,.load true 3 (.t 9),none⟩,
    ⟨some 4,.new [(.str []),(.int .i64 0),(.int .i64 0)],none⟩,
    ⟨none,.store 3 (.t 4) (.t 10),none⟩]
def f401_4:List AI:=[⟨some 11,.mov (.t 0),none⟩,
    ⟨some 12,.load true 3 (.t 4),none⟩,
    ⟨some 13,.call (.t 11) [(.t 12)],none⟩,
    ⟨some 14,.un .not (.t 13),none⟩]
def f401_5:AC:=.cond (.t 14) .ret .skip
def f401_6:AC:=.seq (.reg f401_4) f401_5
def f401_7:AC:=.seq (.reg f401_3) f401_6
def f401_8:AC:=.block 1 f401_7
def f401_9:List AI:=[⟨some 15,.bin .add (.t 7) (.c (.one (.int .i64 1))),none⟩,
    ⟨some 7,.mov (.t 15),none⟩]
def f401_10:AC:=.seq f401_8 (.reg f401_9)
def f401_11:AC:=.seq f401_2 f401_10
def f401_12:AC:=.seq (.reg f401_1) f401_11
def f401_13:AC:=.loop f401_12
def f401_14:AC:=.block 0 f401_13
def f401_15:AC:=.seq (.reg f401_0) f401_14
def f401B:AC:=f401_15
def f401:AF:=⟨2,16,[],f401B⟩
def f402_0:List AI:=[⟨some 2,.box (.t 0),none⟩,
    ⟨some 4,.mov (.c (.one .nils)),none⟩]
def f402_1:List AI:=[⟨some 6,.mov (.t 1),none⟩]
def f402_2:List AI:=[⟨some 5,.new [(.str []),(.int .i64 0),(.int .i64 0)],none⟩,
    ⟨none,.store 3 (.t 5) (.t 7),none⟩]
def f402_3:List AI:=[⟨some 8,.load false 1 (.t 2),none⟩,
    ⟨some 9,.load true 3 (.t 5),none⟩,
    ⟨some 10,.rowLit 3 [(.str []),(.int .i64 0),(.int .i64 0)] 1 [(0,(.t 9))],none⟩,
    ⟨some 11,.app 3 32 (.t 8) (.t 10),none⟩,
    ⟨none,.store 1 (.t 2) (.t 11),none⟩]
def f402_4:AC:=.block 1 (.reg f402_3)
def f402_5:AC:=.rangeF (.t 6) [7] (.reg f402_2) f402_4
def f402_6:AC:=.block 0 f402_5
def f402_7:AC:=.seq (.reg f402_1) f402_6
def f402_8:List AI:=[⟨some 12,.load false 1 (.t 2),none⟩,
    ⟨some 4,.mov (.t 12),none⟩]
def f402_9:AC:=.seq (.reg f402_8) .ret
def f402_10:AC:=.seq f402_7 f402_9
def f402_11:AC:=.seq (.reg f402_0) f402_10
def f402B:AC:=f402_11
def f402:AF:=⟨2,13,[(.t 4)],f402B⟩
end Go.EA.F
