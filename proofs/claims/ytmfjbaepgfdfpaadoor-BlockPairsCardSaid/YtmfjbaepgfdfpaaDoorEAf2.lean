/- Functions of the program, as abstract code (printed by a program). Conditions: none (definitions). -/
import Derived.Test.YtmfjbaepgfdfpaaDoorEK1
namespace Go.EA.F
def f26_0:List AI:=[⟨some 0,.mov (.c (.one (.bool false))),none⟩]
def f26_1:List AI:=[⟨some 4,.call (.c (.one (.fn 27 []))) [(.c (.one (.str [97,98,32,49,99])))],none⟩,
    ⟨some 3,.mov (.t 4),none⟩,
    ⟨some 5,.ext (.t 3) 0,none⟩,
    ⟨some 6,.ext (.t 3) 1,none⟩,
    ⟨some 1,.mov (.t 5),none⟩,
    ⟨some 2,.mov (.t 6),none⟩]
def f26_2:List AI:=[⟨some 7,.mov (.t 1),none⟩,
    ⟨some 8,.len .slc (.t 7),none⟩,
    ⟨some 9,.bin .eql (.t 8) (.c (.one (.int .i64 3))),none⟩,
    ⟨some 10,.mov (.t 9),none⟩,
    ⟨some 11,.mov (.t 1),some (10,true)⟩,
    ⟨some 12,.iaddr 3 (.t 11) (.c (.one (.int .i64 0))),some (10,true)⟩,
    ⟨some 13,.load true 3 (.t 12),some (10,true)⟩,
    ⟨some 14,.build [(.int .i64 0),(.int .i64 0),(.bool false)] [(0,(1,(.c (.one (.int .i64 0))))),(1,(1,(.c (.one (.int .i64 2))))),(2,(1,(.c (.one (.bool true)))))],some (10,true)⟩,
    ⟨some 15,.eqv (.cells [(.int .i64),(.int .i64),.bool]) false (.t 13) (.t 14),some (10,true)⟩,
    ⟨some 16,.pick (.t 10) (.t 15) (.c (.one (.bool false))),none⟩,
    ⟨some 17,.mov (.t 16),none⟩,
    ⟨some 18,.mov (.t 1),some (17,true)⟩,
    ⟨some 19,.iaddr 3 (.t 18) (.c (.one (.int .i64 1))),some (17,true)⟩,
    ⟨some 20,.faddr 1 (.t 19),some (17,true)⟩,
    ⟨some 21,.load false 1 (.t 20),some (17,true)⟩,
    ⟨some 22,.bin .eql (.t 21) (.c (.one (.int .i64 4))),some (17,true)⟩,
    ⟨some 23,.pick (.t 17) (.t 22) (.c (.one (.bool false))),none⟩,
    ⟨some 24,.mov (.t 23),none⟩,
    ⟨some 25,.mov (.t 1),some (24,true)⟩,
    ⟨some 26,.iaddr 3 (.t 25) (.c (.one (.int .i64 2))),some (24,true)⟩,
    ⟨some 27,.faddr 2 (.t 26),some (24,true)⟩,
    ⟨some 28,.load false 1 (.t 27),some (24,true)⟩,
    ⟨some 29,.pick (.t 24) (.t 28) (.c (.one (.bool false))),none⟩,
    ⟨some 30,.mov (.t 29),none⟩,
    ⟨some 31,.mov (.t 2),some (30,true)⟩,
    ⟨some 32,.bin .eql (.t 31) (.c (.one (.int .i64 0))),some (30,true)⟩,
    ⟨some 33,.pick (.t 30) (.t 32) (.c (.one (.bool false))),none⟩,
    ⟨some 0,.mov (.t 33),none⟩]
def f26_3:AC:=.seq (.reg f26_2) .ret
def f26_4:AC:=.seq (.reg f26_1) f26_3
def f26_5:AC:=.seq (.reg f26_0) f26_4
def f26B:AC:=f26_5
def f26:AF:=⟨0,34,[(.t 0)],f26B⟩
def f27_0:List AI:=[⟨some 2,.mov (.c (.one .nils)),none⟩,
    ⟨some 3,.mov (.c (.one (.int .i64 0))),none⟩]
def f27_1:List AI:=[⟨some 8,.mov (.t 0),none⟩,
    ⟨some 9,.len .str (.t 8),none⟩,
    ⟨some 10,.bin .gtr (.t 9) (.c (.one (.int .i64 1048576))),none⟩,
    ⟨some 7,.mov (.t 10),none⟩]
def f27_2:List AI:=[⟨some 2,.mov (.c (.one .nils)),none⟩,
    ⟨some 3,.mov (.c (.one (.int .i64 5))),none⟩]
def f27_3:AC:=.seq (.reg f27_2) .ret
def f27_4:List AI:=[⟨some 12,.mov (.t 0),none⟩,
    ⟨some 13,.call (.c (.one (.fn 38 []))) [(.t 12)],none⟩,
    ⟨some 14,.un .not (.t 13),none⟩,
    ⟨some 11,.mov (.t 14),none⟩]
def f27_5:List AI:=[⟨some 2,.mov (.c (.one .nils)),none⟩,
    ⟨some 3,.mov (.c (.one (.int .i64 3))),none⟩]
def f27_6:AC:=.seq (.reg f27_5) .ret
def f27_7:AC:=.cond (.t 11) f27_6 .skip
def f27_8:AC:=.seq (.reg f27_4) f27_7
def f27_9:AC:=.cond (.t 7) f27_3 f27_8
def f27_10:AC:=.seq (.reg f27_1) f27_9
def f27_11:AC:=.block 0 f27_10
def f27_12:List AI:=[⟨some 4,.mov (.c (.one (.bool true))),none⟩]
def f27_13:List AI:=[⟨some 5,.mov (.c (.one (.int .i64 0))),none⟩]
def f27_14:List AI:=[⟨some 15,.mov (.t 5),none⟩,
    ⟨some 16,.mov (.t 0),none⟩,
    ⟨some 17,.len .str (.t 16),none⟩,
    ⟨some 18,.bin .lss (.t 15) (.t 17),none⟩]
def f27_15:AC:=.cond (.t 18) .skip (.exit 1)
def f27_16:AC:=.seq (.reg f27_14) f27_15
def f27_17:List AI:=[⟨some 21,.mov (.t 0),none⟩,
    ⟨some 22,.mov (.t 5),none⟩,
    ⟨some 23,.slice .str 1 (.t 21) (some (.t 22)) none none,none⟩,
    ⟨some 24,.mov (.t 4),none⟩,
    ⟨some 25,.call (.c (.one (.fn 50 []))) [(.t 23),(.t 24)],none⟩,
    ⟨some 6,.mov (.t 25),none⟩]
def f27_18:List AI:=[⟨some 26,.mov (.t 6),none⟩,
    ⟨some 27,.bin .gtr (.t 26) (.c (.one (.int .i64 0))),none⟩]
def f27_19:List AI:=[⟨some 28,.mov (.t 2),none⟩,
    ⟨some 29,.mov (.t 5),none⟩,
    ⟨some 30,.mov (.t 5),none⟩,
    ⟨some 31,.mov (.t 6),none⟩,
    ⟨some 32,.bin .add (.t 30) (.t 31),none⟩,
    ⟨some 33,.mov (.t 4),none⟩,
    ⟨some 34,.build [(.int .i64 0),(.int .i64 0),(.bool false)] [(0,(1,(.t 29))),(1,(1,(.t 32))),(2,(1,(.t 33)))],none⟩,
    ⟨some 35,.rowLit 3 [(.int .i64 0),(.int .i64 0),(.bool false)] 1 [(0,(.t 34))],none⟩,
    ⟨some 36,.app 3 24 (.t 28) (.t 35),none⟩,
    ⟨some 2,.mov (.t 36),none⟩]
def f27_20:List AI:=[⟨some 37,.mov (.t 5),none⟩,
    ⟨some 38,.mov (.t 6),none⟩,
    ⟨some 39,.bin .add (.t 37) (.t 38),none⟩,
    ⟨some 5,.mov (.t 39),none⟩]
def f27_21:AC:=.seq (.reg f27_19) (.reg f27_20)
def f27_22:AC:=.cond (.t 27) f27_21 .skip
def f27_23:AC:=.seq (.reg f27_18) f27_22
def f27_24:AC:=.seq (.reg f27_17) f27_23
def f27_25:AC:=.block 2 f27_24
def f27_26:List AI:=[⟨some 19,.mov (.t 4),none⟩,
    ⟨some 20,.un .not (.t 19),none⟩,
    ⟨some 4,.mov (.t 20),none⟩]
def f27_27:AC:=.seq f27_25 (.reg f27_26)
def f27_28:AC:=.seq f27_16 f27_27
def f27_29:AC:=.loop f27_28
def f27_30:AC:=.block 1 f27_29
def f27_31:AC:=.seq (.reg f27_13) f27_30
def f27_32:List AI:=[⟨some 40,.mov (.t 2),none⟩,
    ⟨some 2,.mov (.t 40),none⟩,
    ⟨some 3,.mov (.c (.one (.int .i64 0))),none⟩]
def f27_33:AC:=.seq (.reg f27_32) .ret
def f27_34:AC:=.seq f27_31 f27_33
def f27_35:AC:=.seq (.reg f27_12) f27_34
def f27_36:AC:=.seq f27_11 f27_35
def f27_37:AC:=.seq (.reg f27_0) f27_36
def f27B:AC:=f27_37
def f27:AF:=⟨1,41,[(.t 2),(.t 3)],f27B⟩
def f28_0:List AI:=[⟨some 2,.mov (.c (.one .nils)),none⟩,
    ⟨some 3,.mov (.c (.one (.int .i64 0))),none⟩]
def f28_1:List AI:=[⟨some 12,.mov (.t 0),none⟩,
    ⟨some 13,.len .str (.t 12),none⟩,
    ⟨some 14,.bin .gtr (.t 13) (.c (.one (.int .i64 1048576))),none⟩]
def f28_2:List AI:=[⟨some 2,.mov (.c (.one .nils)),none⟩,
    ⟨some 3,.mov (.c (.one (.int .i64 5))),none⟩]
def f28_3:AC:=.seq (.reg f28_2) .ret
def f28_4:AC:=.cond (.t 14) f28_3 .skip
def f28_5:AC:=.seq (.reg f28_1) f28_4
def f28_6:List AI:=[⟨some 16,.mov (.t 0),none⟩,
    ⟨some 17,.call (.c (.one (.fn 19 []))) [(.t 16)],none⟩,
    ⟨some 15,.mov (.t 17),none⟩,
    ⟨some 18,.ext (.t 15) 0,none⟩,
    ⟨some 19,.ext (.t 15) 1,none⟩,
    ⟨some 4,.mov (.t 18),none⟩,
    ⟨some 5,.mov (.t 19),none⟩]
def f28_7:List AI:=[⟨some 20,.mov (.t 5),none⟩,
    ⟨some 21,.bin .neq (.t 20) (.c (.one (.int .i64 0))),none⟩]
def f28_8:List AI:=[⟨some 22,.mov (.t 5),none⟩,
    ⟨some 2,.mov (.c (.one .nils)),none⟩,
    ⟨some 3,.mov (.t 22),none⟩]
def f28_9:AC:=.seq (.reg f28_8) .ret
def f28_10:AC:=.cond (.t 21) f28_9 .skip
def f28_11:AC:=.seq (.reg f28_7) f28_10
def f28_12:List AI:=[⟨some 6,.mov (.c (.one .nils)),none⟩]
def f28_13:List AI:=[⟨some 7,.mov (.c (.one (.int .i64 0))),none⟩]
def f28_14:List AI:=[⟨some 23,.mov (.t 4),none⟩,
    ⟨some 24,.len .slc (.t 23),none⟩,
    ⟨some 25,.mov (.c (.one (.int .i64 0))),none⟩]
def f28_15:List AI:=[⟨some 26,.bin .lss (.t 25) (.t 24),none⟩]
def f28_16:AC:=.cond (.t 26) .skip (.exit 0)
def f28_17:List AI:=[⟨some 27,.iaddr 1 (.t 23) (.t 25),none⟩,
    ⟨some 28,.load false 1 (.t 27),none⟩,
    ⟨some 9,.mov (.t 28),none⟩]
def f28_18:List AI:=[⟨some 29,.mov (.t 9),none⟩,
    ⟨some 30,.rowLit 1 [(.int .i32 0)] 1 [(0,(.t 29))],none⟩,
    ⟨some 31,.call (.c (.one (.fn 51 []))) [(.t 30)],none⟩,
    ⟨some 32,.len .str (.t 31),none⟩,
    ⟨some 10,.mov (.t 32),none⟩]
def f28_19:List AI:=[⟨some 33,.mov (.t 9),none⟩,
    ⟨some 34,.call (.c (.one (.fn 36 []))) [(.t 33)],none⟩,
    ⟨some 11,.mov (.t 34),none⟩]
def f28_20:List AI:=[⟨some 35,.mov (.t 6),none⟩,
    ⟨some 36,.len .slc (.t 35),none⟩,
    ⟨some 37,.bin .gtr (.t 36) (.c (.one (.int .i64 0))),none⟩,
    ⟨some 38,.mov (.t 37),none⟩,
    ⟨some 39,.mov (.t 6),some (38,true)⟩,
    ⟨some 40,.mov (.t 6),some (38,true)⟩,
    ⟨some 41,.len .slc (.t 40),some (38,true)⟩,
    ⟨some 42,.bin .sub (.t 41) (.c (.one (.int .i64 1))),some (38,true)⟩,
    ⟨some 43,.iaddr 3 (.t 39) (.t 42),some (38,true)⟩,
    ⟨some 44,.faddr 2 (.t 43),some (38,true)⟩,
    ⟨some 45,.load false 1 (.t 44),some (38,true)⟩,
    ⟨some 46,.mov (.t 11),some (38,true)⟩,
    ⟨some 47,.eqv .bool false (.t 45) (.t 46),some (38,true)⟩,
    ⟨some 48,.pick (.t 38) (.t 47) (.c (.one (.bool false))),none⟩]
def f28_21:List AI:=[⟨some 49,.mov (.t 6),none⟩,
    ⟨some 50,.mov (.t 6),none⟩,
    ⟨some 51,.len .slc (.t 50),none⟩,
    ⟨some 52,.bin .sub (.t 51) (.c (.one (.int .i64 1))),none⟩,
    ⟨some 53,.mov (.t 7),none⟩,
    ⟨some 54,.mov (.t 10),none⟩,
    ⟨some 55,.bin .add (.t 53) (.t 54),none⟩,
    ⟨some 56,.iaddr 3 (.t 49) (.t 52),none⟩,
    ⟨some 57,.faddr 1 (.t 56),none⟩,
    ⟨none,.store 1 (.t 57) (.t 55),none⟩]
def f28_22:List AI:=[⟨some 58,.mov (.t 6),none⟩,
    ⟨some 59,.mov (.t 7),none⟩,
    ⟨some 60,.mov (.t 7),none⟩,
    ⟨some 61,.mov (.t 10),none⟩,
    ⟨some 62,.bin .add (.t 60) (.t 61),none⟩,
    ⟨some 63,.mov (.t 11),none⟩,
    ⟨some 64,.build [(.int .i64 0),(.int .i64 0),(.bool false)] [(0,(1,(.t 59))),(1,(1,(.t 62))),(2,(1,(.t 63)))],none⟩,
    ⟨some 65,.rowLit 3 [(.int .i64 0),(.int .i64 0),(.bool false)] 1 [(0,(.t 64))],none⟩,
    ⟨some 66,.app 3 24 (.t 58) (.t 65),none⟩,
    ⟨some 6,.mov (.t 66),none⟩]
def f28_23:AC:=.cond (.t 48) (.reg f28_21) (.reg f28_22)
def f28_24:AC:=.seq (.reg f28_20) f28_23
def f28_25:List AI:=[⟨some 67,.mov (.t 7),none⟩,
    ⟨some 68,.mov (.t 10),none⟩,
    ⟨some 69,.bin .add (.t 67) (.t 68),none⟩,
    ⟨some 7,.mov (.t 69),none⟩]
def f28_26:AC:=.seq f28_24 (.reg f28_25)
def f28_27:AC:=.seq (.reg f28_19) f28_26
def f28_28:AC:=.seq (.reg f28_18) f28_27
def f28_29:AC:=.seq (.reg f28_17) f28_28
def f28_30:AC:=.block 1 f28_29
def f28_31:List AI:=[⟨some 70,.bin .add (.t 25) (.c (.one (.int .i64 1))),none⟩,
    ⟨some 25,.mov (.t 70),none⟩]
def f28_32:AC:=.seq f28_30 (.reg f28_31)
def f28_33:AC:=.seq f28_16 f28_32
def f28_34:AC:=.seq (.reg f28_15) f28_33
def f28_35:AC:=.loop f28_34
def f28_36:AC:=.block 0 f28_35
def f28_37:AC:=.seq (.reg f28_14) f28_36
def f28_38:List AI:=[⟨some 71,.mov (.t 6),none⟩,
    ⟨some 2,.mov (.t 71),none⟩,
    ⟨some 3,.mov (.c (.one (.int .i64 0))),none⟩]
def f28_39:AC:=.seq (.reg f28_38) .ret
def f28_40:AC:=.seq f28_37 f28_39
def f28_41:AC:=.seq (.reg f28_13) f28_40
def f28_42:AC:=.seq (.reg f28_12) f28_41
def f28_43:AC:=.seq f28_11 f28_42
def f28_44:AC:=.seq (.reg f28_6) f28_43
def f28_45:AC:=.seq f28_5 f28_44
def f28_46:AC:=.seq (.reg f28_0) f28_45
def f28B:AC:=f28_46
def f28:AF:=⟨1,72,[(.t 2),(.t 3)],f28B⟩
def f30_0:List AI:=[⟨some 2,.mov (.c (.one .nils)),none⟩,
    ⟨some 3,.mov (.c (.one (.int .i64 0))),none⟩]
def f30_1:List AI:=[⟨some 10,.mov (.t 0),none⟩,
    ⟨some 11,.call (.c (.one (.fn 28 []))) [(.t 10)],none⟩,
    ⟨some 9,.mov (.t 11),none⟩,
    ⟨some 12,.ext (.t 9) 0,none⟩,
    ⟨some 13,.ext (.t 9) 1,none⟩,
    ⟨some 4,.mov (.t 12),none⟩,
    ⟨some 5,.mov (.t 13),none⟩]
def f30_2:List AI:=[⟨some 6,.mov (.c (.one .nils)),none⟩]
def f30_3:List AI:=[⟨some 14,.mov (.t 4),none⟩,
    ⟨some 15,.len .slc (.t 14),none⟩,
    ⟨some 16,.mov (.c (.one (.int .i64 0))),none⟩]
def f30_4:List AI:=[⟨some 17,.bin .lss (.t 16) (.t 15),none⟩]
def f30_5:AC:=.cond (.t 17) .skip (.exit 0)
def f30_6:List AI:=[⟨some 18,.iaddr 3 (.t 14) (.t 16),none⟩,
    ⟨some 19,.load true 3 (.t 18),none⟩,
    ⟨some 8,.new [(.int .i64 0),(.int .i64 0),(.bool false)],none⟩,
    ⟨none,.store 3 (.t 8) (.t 19),none⟩]
def f30_7:List AI:=[⟨some 20,.faddr 2 (.t 8),none⟩,
    ⟨some 21,.load false 1 (.t 20),none⟩]
def f30_8:List AI:=[⟨some 22,.mov (.t 6),none⟩,
    ⟨some 23,.mov (.t 0),none⟩,
    ⟨some 24,.faddr 0 (.t 8),none⟩,
    ⟨some 25,.load false 1 (.t 24),none⟩,
    ⟨some 26,.faddr 1 (.t 8),none⟩,
    ⟨some 27,.load false 1 (.t 26),none⟩,
    ⟨some 28,.slice .str 1 (.t 23) (some (.t 25)) (some (.t 27)) none,none⟩,
    ⟨some 29,.rowLit 1 [(.str [])] 1 [(0,(.t 28))],none⟩,
    ⟨some 30,.app 1 16 (.t 22) (.t 29),none⟩,
    ⟨some 6,.mov (.t 30),none⟩]
def f30_9:AC:=.cond (.t 21) (.reg f30_8) .skip
def f30_10:AC:=.seq (.reg f30_7) f30_9
def f30_11:AC:=.seq (.reg f30_6) f30_10
def f30_12:AC:=.block 1 f30_11
def f30_13:List AI:=[⟨some 31,.bin .add (.t 16) (.c (.one (.int .i64 1))),none⟩,
    ⟨some 16,.mov (.t 31),none⟩]
def f30_14:AC:=.seq f30_12 (.reg f30_13)
def f30_15:AC:=.seq f30_5 f30_14
def f30_16:AC:=.seq (.reg f30_4) f30_15
def f30_17:AC:=.loop f30_16
def f30_18:AC:=.block 0 f30_17
def f30_19:AC:=.seq (.reg f30_3) f30_18
def f30_20:List AI:=[⟨some 32,.mov (.t 6),none⟩,
    ⟨some 33,.mov (.t 5),none⟩,
    ⟨some 2,.mov (.t 32),none⟩,
    ⟨some 3,.mov (.t 33),none⟩]
def f30_21:AC:=.seq (.reg f30_20) .ret
def f30_22:AC:=.seq f30_19 f30_21
def f30_23:AC:=.seq (.reg f30_2) f30_22
def f30_24:AC:=.seq (.reg f30_1) f30_23
def f30_25:AC:=.seq (.reg f30_0) f30_24
def f30B:AC:=f30_25
def f30:AF:=⟨1,34,[(.t 2),(.t 3)],f30B⟩
def f31_0:List AI:=[⟨some 4,.mov (.c (.one (.bool false))),none⟩]
def f31_1:List AI:=[⟨some 6,.mov (.t 0),none⟩,
    ⟨some 7,.len .slc (.t 6),none⟩,
    ⟨some 8,.mov (.t 1),none⟩,
    ⟨some 9,.len .slc (.t 8),none⟩,
    ⟨some 10,.bin .neq (.t 7) (.t 9),none⟩]
def f31_2:List AI:=[⟨some 4,.mov (.c (.one (.bool false))),none⟩]
def f31_3:AC:=.seq (.reg f31_2) .ret
def f31_4:AC:=.cond (.t 10) f31_3 .skip
def f31_5:AC:=.seq (.reg f31_1) f31_4
def f31_6:List AI:=[⟨some 11,.mov (.t 0),none⟩,
    ⟨some 12,.len .slc (.t 11),none⟩,
    ⟨some 13,.mov (.c (.one (.int .i64 0))),none⟩]
def f31_7:List AI:=[⟨some 14,.bin .lss (.t 13) (.t 12),none⟩]
def f31_8:AC:=.cond (.t 14) .skip (.exit 0)
def f31_9:List AI:=[⟨some 15,.mov (.t 13),none⟩,
    ⟨some 5,.mov (.t 15),none⟩]
def f31_10:List AI:=[⟨some 16,.mov (.t 0),none⟩,
    ⟨some 17,.mov (.t 5),none⟩,
    ⟨some 18,.iaddr 3 (.t 16) (.t 17),none⟩,
    ⟨some 19,.load true 3 (.t 18),none⟩,
    ⟨some 20,.mov (.t 1),none⟩,
    ⟨some 21,.mov (.t 5),none⟩,
    ⟨some 22,.iaddr 3 (.t 20) (.t 21),none⟩,
    ⟨some 23,.load true 3 (.t 22),none⟩,
    ⟨some 24,.eqv (.cells [(.int .i64),(.int .i64),.bool]) true (.t 19) (.t 23),none⟩]
def f31_11:List AI:=[⟨some 4,.mov (.c (.one (.bool false))),none⟩]
def f31_12:AC:=.seq (.reg f31_11) .ret
def f31_13:AC:=.cond (.t 24) f31_12 .skip
def f31_14:AC:=.seq (.dreg f31_10) f31_13
def f31_15:AC:=.seq (.reg f31_9) f31_14
def f31_16:AC:=.block 1 f31_15
def f31_17:List AI:=[⟨some 25,.bin .add (.t 13) (.c (.one (.int .i64 1))),none⟩,
    ⟨some 13,.mov (.t 25),none⟩]
def f31_18:AC:=.seq f31_16 (.reg f31_17)
def f31_19:AC:=.seq f31_8 f31_18
def f31_20:AC:=.seq (.reg f31_7) f31_19
def f31_21:AC:=.loop f31_20
def f31_22:AC:=.block 0 f31_21
def f31_23:AC:=.seq (.reg f31_6) f31_22
def f31_24:List AI:=[⟨some 4,.mov (.c (.one (.bool true))),none⟩]
def f31_25:AC:=.seq (.reg f31_24) .ret
def f31_26:AC:=.seq f31_23 f31_25
def f31_27:AC:=.seq f31_5 f31_26
def f31_28:AC:=.seq (.reg f31_0) f31_27
def f31B:AC:=f31_28
def f31:AF:=⟨2,26,[(.t 4)],f31B⟩
def f32_0:List AI:=[⟨some 4,.mov (.c (.one (.bool false))),none⟩]
def f32_1:List AI:=[⟨some 6,.mov (.t 0),none⟩,
    ⟨some 7,.len .slc (.t 6),none⟩,
    ⟨some 8,.mov (.t 1),none⟩,
    ⟨some 9,.len .slc (.t 8),none⟩,
    ⟨some 10,.bin .neq (.t 7) (.t 9),none⟩]
def f32_2:List AI:=[⟨some 4,.mov (.c (.one (.bool false))),none⟩]
def f32_3:AC:=.seq (.reg f32_2) .ret
def f32_4:AC:=.cond (.t 10) f32_3 .skip
def f32_5:AC:=.seq (.reg f32_1) f32_4
def f32_6:List AI:=[⟨some 11,.mov (.t 0),none⟩,
    ⟨some 12,.len .slc (.t 11),none⟩,
    ⟨some 13,.mov (.c (.one (.int .i64 0))),none⟩]
def f32_7:List AI:=[⟨some 14,.bin .lss (.t 13) (.t 12),none⟩]
def f32_8:AC:=.cond (.t 14) .skip (.exit 0)
def f32_9:List AI:=[⟨some 15,.mov (.t 13),none⟩,
    ⟨some 5,.mov (.t 15),none⟩]
def f32_10:List AI:=[⟨some 16,.mov (.t 0),none⟩,
    ⟨some 17,.mov (.t 5),none⟩,
    ⟨some 18,.iaddr 1 (.t 16) (.t 17),none⟩,
    ⟨some 19,.load false 1 (.t 18),none⟩,
    ⟨some 20,.mov (.t 1),none⟩,
    ⟨some 21,.mov (.t 5),none⟩,
    ⟨some 22,.iaddr 1 (.t 20) (.t 21),none⟩,
    ⟨some 23,.load false 1 (.t 22),none⟩,
    ⟨some 24,.bin .neq (.t 19) (.t 23),none⟩]
def f32_11:List AI:=[⟨some 4,.mov (.c (.one (.bool false))),none⟩]
def f32_12:AC:=.seq (.reg f32_11) .ret
def f32_13:AC:=.cond (.t 24) f32_12 .skip
def f32_14:AC:=.seq (.dreg f32_10) f32_13
def f32_15:AC:=.seq (.reg f32_9) f32_14
def f32_16:AC:=.block 1 f32_15
def f32_17:List AI:=[⟨some 25,.bin .add (.t 13) (.c (.one (.int .i64 1))),none⟩,
    ⟨some 13,.mov (.t 25),none⟩]
def f32_18:AC:=.seq f32_16 (.reg f32_17)
def f32_19:AC:=.seq f32_8 f32_18
def f32_20:AC:=.seq (.reg f32_7) f32_19
def f32_21:AC:=.loop f32_20
def f32_22:AC:=.block 0 f32_21
def f32_23:AC:=.seq (.reg f32_6) f32_22
def f32_24:List AI:=[⟨some 4,.mov (.c (.one (.bool true))),none⟩]
def f32_25:AC:=.seq (.reg f32_24) .ret
def f32_26:AC:=.seq f32_23 f32_25
def f32_27:AC:=.seq f32_5 f32_26
def f32_28:AC:=.seq (.reg f32_0) f32_27
def f32B:AC:=f32_28
def f32:AF:=⟨2,26,[(.t 4)],f32B⟩
def f42_0:List AI:=[⟨some 4,.mov (.c (.one (.bool false))),none⟩]
def f42_1:List AI:=[⟨some 8,.mov (.t 0),none⟩,
    ⟨some 9,.call (.c (.one (.fn 28 []))) [(.t 8)],none⟩,
    ⟨some 7,.mov (.t 9),none⟩,
    ⟨some 10,.ext (.t 7) 0,none⟩,
    ⟨some 11,.ext (.t 7) 1,none⟩,
    ⟨some 5,.mov (.t 10),none⟩,
    ⟨some 6,.mov (.t 11),none⟩]
def f42_2:List AI:=[⟨some 12,.mov (.t 6),none⟩,
    ⟨some 13,.bin .eql (.t 12) (.c (.one (.int .i64 0))),none⟩,
    ⟨some 14,.mov (.t 13),none⟩,
    ⟨some 15,.mov (.t 5),some (14,true)⟩,
    ⟨some 16,.mov (.t 1),some (14,true)⟩,
    ⟨some 17,.call (.c (.one (.fn 31 []))) [(.t 15),(.t 16)],some (14,true)⟩,
    ⟨some 18,.pick (.t 14) (.t 17) (.c (.one (.bool false))),none⟩,
    ⟨some 4,.mov (.t 18),none⟩]
def f42_3:AC:=.seq (.reg f42_2) .ret
def f42_4:AC:=.seq (.reg f42_1) f42_3
def f42_5:AC:=.seq (.reg f42_0) f42_4
def f42B:AC:=f42_5
def f42:AF:=⟨2,19,[(.t 4)],f42B⟩
def f52_0:List AI:=[⟨some 1,.box (.t 0),none⟩,
    ⟨some 2,.mov (.c (.one .nilf)),none⟩]
def f52_1:List AI:=[⟨some 3,.mkfn 73 [(.t 1)],none⟩,
    ⟨some 2,.mov (.t 3),none⟩]
def f52_2:AC:=.seq (.reg f52_1) .ret
def f52_3:AC:=.seq (.reg f52_0) f52_2
def f52B:AC:=f52_3
def f52:AF:=⟨1,4,[(.t 2)],f52B⟩
def f63_0:List AI:=[⟨some 4,.mov (.c (.one (.bool false))),none⟩]
def f63_1:List AI:=[⟨some 6,.mov (.t 0),none⟩,
    ⟨some 7,.len .slc (.t 6),none⟩,
    ⟨some 8,.mov (.t 1),none⟩,
    ⟨some 9,.len .slc (.t 8),none⟩,
    ⟨some 10,.bin .neq (.t 7) (.t 9),none⟩]
def f63_2:List AI:=[⟨some 4,.mov (.c (.one (.bool false))),none⟩]
def f63_3:AC:=.seq (.reg f63_2) .ret
def f63_4:AC:=.cond (.t 10) f63_3 .skip
def f63_5:AC:=.seq (.reg f63_1) f63_4
def f63_6:List AI:=[⟨some 11,.mov (.t 0),none⟩,
    ⟨some 12,.len .slc (.t 11),none⟩,
    ⟨some 13,.mov (.c (.one (.int .i64 0))),none⟩]
def f63_7:List AI:=[⟨some 14,.bin .lss (.t 13) (.t 12),none⟩]
def f63_8:AC:=.cond (.t 14) .skip (.exit 0)
def f63_9:List AI:=[⟨some 15,.mov (.t 13),none⟩,
    ⟨some 5,.mov (.t 15),none⟩]
def f63_10:List AI:=[⟨some 16,.mov (.t 0),none⟩,
    ⟨some 17,.mov (.t 5),none⟩,
    ⟨some 18,.iaddr 3 (.t 16) (.t 17),none⟩,
    ⟨some 19,.load true 3 (.t 18),none⟩,
    ⟨some 20,.mov (.t 1),none⟩,
    ⟨some 21,.mov (.t 5),none⟩,
    ⟨some 22,.iaddr 3 (.t 20) (.t 21),none⟩,
    ⟨some 23,.load true 3 (.t 22),none⟩,
    ⟨some 24,.eqv (.cells [(.int .i64),(.int .i64),.bool]) true (.t 19) (.t 23),none⟩]
def f63_11:List AI:=[⟨some 4,.mov (.c (.one (.bool false))),none⟩]
def f63_12:AC:=.seq (.reg f63_11) .ret
def f63_13:AC:=.cond (.t 24) f63_12 .skip
def f63_14:AC:=.seq (.dreg f63_10) f63_13
def f63_15:AC:=.seq (.reg f63_9) f63_14
def f63_16:AC:=.block 1 f63_15
def f63_17:List AI:=[⟨some 25,.bin .add (.t 13) (.c (.one (.int .i64 1))),none⟩,
    ⟨some 13,.mov (.t 25),none⟩]
def f63_18:AC:=.seq f63_16 (.reg f63_17)
def f63_19:AC:=.seq f63_8 f63_18
def f63_20:AC:=.seq (.reg f63_7) f63_19
def f63_21:AC:=.loop f63_20
def f63_22:AC:=.block 0 f63_21
def f63_23:AC:=.seq (.reg f63_6) f63_22
def f63_24:List AI:=[⟨some 4,.mov (.c (.one (.bool true))),none⟩]
def f63_25:AC:=.seq (.reg f63_24) .ret
def f63_26:AC:=.seq f63_23 f63_25
def f63_27:AC:=.seq f63_5 f63_26
def f63_28:AC:=.seq (.reg f63_0) f63_27
def f63B:AC:=f63_28
def f63:AF:=⟨2,26,[(.t 4)],f63B⟩
def f72_0:List AI:=[⟨some 2,.mov (.c (.one (.int .i64 0))),none⟩]
def f72_1:List AI:=[⟨some 4,.mov (.t 0),none⟩,
    ⟨some 5,.bin .lss (.t 4) (.c (.one (.int .i32 0))),none⟩,
    ⟨some 3,.mov (.t 5),none⟩]
def f72_2:List AI:=[⟨some 2,.mov (.c (.one (.int .i64 (-1)))),none⟩]
def f72_3:AC:=.seq (.reg f72_2) .ret
def f72_4:List AI:=[⟨some 7,.mov (.t 0),none⟩,
    ⟨some 8,.bin .leq (.t 7) (.c (.one (.int .i32 127))),none⟩,
    ⟨some 6,.mov (.t 8),none⟩]
def f72_5:List AI:=[⟨some 2,.mov (.c (.one (.int .i64 1))),none⟩]
def f72_6:AC:=.seq (.reg f72_5) .ret
def f72_7:List AI:=[⟨some 10,.mov (.t 0),none⟩,
    ⟨some 11,.bin .leq (.t 10) (.c (.one (.int .i32 2047))),none⟩,
    ⟨some 9,.mov (.t 11),none⟩]
def f72_8:List AI:=[⟨some 2,.mov (.c (.one (.int .i64 2))),none⟩]
def f72_9:AC:=.seq (.reg f72_8) .ret
def f72_10:List AI:=[⟨some 13,.mov (.t 0),none⟩,
    ⟨some 14,.bin .leq (.c (.one (.int .i32 55296))) (.t 13),none⟩,
    ⟨some 15,.mov (.t 14),none⟩,
    ⟨some 16,.mov (.t 0),some (15,true)⟩,
    ⟨some 17,.bin .leq (.t 16) (.c (.one (.int .i32 57343))),some (15,true)⟩,
    ⟨some 18,.pick (.t 15) (.t 17) (.c (.one (.bool false))),none⟩,
    ⟨some 12,.mov (.t 18),none⟩]
def f72_11:List AI:=[⟨some 2,.mov (.c (.one (.int .i64 (-1)))),none⟩]
def f72_12:AC:=.seq (.reg f72_11) .ret
def f72_13:List AI:=[⟨some 20,.mov (.t 0),none⟩,
    ⟨some 21,.bin .leq (.t 20) (.c (.one (.int .i32 65535))),none⟩,
    ⟨some 19,.mov (.t 21),none⟩]
def f72_14:List AI:=[⟨some 2,.mov (.c (.one (.int .i64 3))),none⟩]
def f72_15:AC:=.seq (.reg f72_14) .ret
def f72_16:List AI:=[⟨some 23,.mov (.t 0),none⟩,
    ⟨some 24,.bin .leq (.t 23) (.c (.one (.int .i32 1114111))),none⟩,
    ⟨some 22,.mov (.t 24),none⟩]
def f72_17:List AI:=[⟨some 2,.mov (.c (.one (.int .i64 4))),none⟩]
def f72_18:AC:=.seq (.reg f72_17) .ret
def f72_19:AC:=.cond (.t 22) f72_18 .skip
def f72_20:AC:=.seq (.reg f72_16) f72_19
def f72_21:AC:=.cond (.t 19) f72_15 f72_20
def f72_22:AC:=.seq (.reg f72_13) f72_21
def f72_23:AC:=.cond (.t 12) f72_12 f72_22
def f72_24:AC:=.seq (.reg f72_10) f72_23
def f72_25:AC:=.cond (.t 9) f72_9 f72_24
def f72_26:AC:=.seq (.reg f72_7) f72_25
def f72_27:AC:=.cond (.t 6) f72_6 f72_26
def f72_28:AC:=.seq (.reg f72_4) f72_27
def f72_29:AC:=.cond (.t 3) f72_3 f72_28
def f72_30:AC:=.seq (.reg f72_1) f72_29
def f72_31:AC:=.block 0 f72_30
def f72_32:List AI:=[⟨some 2,.mov (.c (.one (.int .i64 (-1)))),none⟩]
def f72_33:AC:=.seq (.reg f72_32) .ret
def f72_34:AC:=.seq f72_31 f72_33
def f72_35:AC:=.seq (.reg f72_0) f72_34
def f72B:AC:=f72_35
def f72:AF:=⟨1,25,[(.t 2)],f72B⟩
end Go.EA.F
