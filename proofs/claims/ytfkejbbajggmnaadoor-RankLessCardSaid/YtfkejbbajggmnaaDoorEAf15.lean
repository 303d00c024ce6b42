/- Functions of the program, as abstract code (printed by a program). Conditions: none (definitions). -/
import Derived.Test.YtfkejbbajggmnaaDoorEK1
namespace Go.EA.F
def f371_0:List AI:=[⟨some 3,.box (.t 0),none⟩,
    ⟨some 4,.box (.t 1),none⟩,
    ⟨some 5,.box (.t 2),none⟩,
    ⟨some 6,.mov (.c (.one (.bool false))),none⟩]
def f371_1:List AI:=[⟨some 10,.call (.c (.one (.fn 377 []))) [],none⟩,
    ⟨some 11,.un .not (.t 10),none⟩]
def f371_2:List AI:=[⟨some 6,.mov (.c (.one (.bool false))),none⟩]
def f371_3:AC:=.seq (.reg f371_2) .ret
def f371_4:AC:=.cond (.t 11) f371_3 .skip
def f371_5:AC:=.seq (.reg f371_1) f371_4
def f371_6:List AI:=[⟨some 7,.mov (.c (.one (.int .i64 0))),none⟩]
def f371_7:List AI:=[⟨some 12,.load true 3 (.t 3),none⟩,
    ⟨some 13,.load true 3 (.t 4),none⟩,
    ⟨some 14,.call (.c (.one (.fn 381 []))) [(.t 12),(.t 13)],none⟩,
    ⟨some 15,.load true 3 (.t 4),none⟩,
    ⟨some 16,.load true 3 (.t 3),none⟩,
    ⟨some 17,.call (.c (.one (.fn 381 []))) [(.t 15),(.t 16)],none⟩,
    ⟨some 18,.load true 3 (.t 3),none⟩,
    ⟨some 19,.load true 3 (.t 4),none⟩,
    ⟨some 20,.eqv (.cells [.str,(.int .i64),(.int .i64)]) false (.t 18) (.t 19),none⟩,
    ⟨some 21,.build [(.bool false),(.bool false),(.bool false)] [(0,(1,(.t 14))),(1,(1,(.t 17))),(2,(1,(.t 20)))],none⟩,
    ⟨some 22,.mov (.c (.one (.int .i64 0))),none⟩]
def f371_8:List AI:=[⟨some 23,.bin .lss (.t 22) (.c (.one (.int .i64 3))),none⟩]
def f371_9:AC:=.cond (.t 23) .skip (.exit 0)
def f371_10:List AI:=[⟨some 24,.aidx false 3 1 (.t 21) (.t 22),none⟩,
    ⟨some 9,.mov (.t 24),none⟩]
def f371_11:List AI:=[⟨some 25,.mov (.t 9),none⟩]
def f371_12:List AI:=[⟨some 26,.mov (.t 7),none⟩,
    ⟨some 27,.bin .add (.t 26) (.c (.one (.int .i64 1))),none⟩,
    ⟨some 7,.mov (.t 27),none⟩]
def f371_13:AC:=.cond (.t 25) (.reg f371_12) .skip
def f371_14:AC:=.seq (.reg f371_11) f371_13
def f371_15:AC:=.seq (.reg f371_10) f371_14
def f371_16:AC:=.block 1 f371_15
def f371_17:List AI:=[⟨some 28,.bin .add (.t 22) (.c (.one (.int .i64 1))),none⟩,
    ⟨some 22,.mov (.t 28),none⟩]
def f371_18:AC:=.seq f371_16 (.reg f371_17)
def f371_19:AC:=.seq f371_9 f371_18
def f371_20:AC:=.seq (.reg f371_8) f371_19
def f371_21:AC:=.loop f371_20
def f371_22:AC:=.block 0 f371_21
def f371_23:AC:=.seq (.dreg f371_7) f371_22
def f371_24:List AI:=[⟨some 29,.mov (.t 7),none⟩,
    ⟨some 30,.bin .eql (.t 29) (.c (.one (.int .i64 1))),none⟩,
    ⟨some 31,.mov (.t 30),none⟩,
    ⟨some 32,.load true 3 (.t 3),some (31,true)⟩,
    ⟨some 33,.load true 3 (.t 4),some (31,true)⟩,
    ⟨some 34,.call (.c (.one (.fn 381 []))) [(.t 32),(.t 33)],some (31,true)⟩,
    ⟨some 35,.un .not (.t 34),some (31,true)⟩,
    ⟨some 36,.mov (.t 35),some (31,true)⟩,
    ⟨some 37,.load true 3 (.t 4),some (36,false)⟩,
    ⟨some 38,.load true 3 (.t 5),some (36,false)⟩,
    ⟨some 39,.call (.c (.one (.fn 381 []))) [(.t 37),(.t 38)],some (36,false)⟩,
    ⟨some 40,.un .not (.t 39),some (36,false)⟩,
    ⟨some 41,.pick (.t 36) (.c (.one (.bool true))) (.t 40),some (31,true)⟩,
    ⟨some 42,.mov (.t 41),some (31,true)⟩,
    ⟨some 43,.load true 3 (.t 3),some (42,false)⟩,
    ⟨some 44,.load true 3 (.t 5),some (42,false)⟩,
    ⟨some 45,.call (.c (.one (.fn 381 []))) [(.t 43),(.t 44)],some (42,false)⟩,
    ⟨some 46,.pick (.t 42) (.c (.one (.bool true))) (.t 45),some (31,true)⟩,
    ⟨some 47,.pick (.t 31) (.t 46) (.c (.one (.bool false))),none⟩,
    ⟨some 6,.mov (.t 47),none⟩]
def f371_25:AC:=.seq (.reg f371_24) .ret
def f371_26:AC:=.seq f371_23 f371_25
def f371_27:AC:=.seq (.reg f371_6) f371_26
def f371_28:AC:=.seq f371_5 f371_27
def f371_29:AC:=.seq (.reg f371_0) f371_28
def f371B:AC:=f371_29
def f371:AF:=⟨3,48,[(.t 6)],f371B⟩
def f377_0:List AI:=[⟨some 0,.mov (.c (.one (.bool false))),none⟩]
def f377_1:List AI:=[⟨some 4,.build [(.str []),(.int .i64 0),(.int .i64 0)] [(0,(1,(.c (.one (.str [97,109]))))),(1,(1,(.c (.one (.int .i64 7))))),(2,(1,(.c (.one (.int .i64 1)))))],none⟩,
    ⟨some 5,.build [(.str []),(.int .i64 0),(.int .i64 0)] [(0,(1,(.c (.one (.str [97,110]))))),(1,(1,(.c (.one (.int .i64 7))))),(2,(1,(.c (.one (.int .i64 2)))))],none⟩,
    ⟨some 6,.build [(.str []),(.int .i64 0),(.int .i64 0)] [(0,(1,(.c (.one (.str [97,109]))))),(1,(1,(.c (.one (.int .i64 9))))),(2,(1,(.c (.one (.int .i64 1)))))],none⟩,
    ⟨some 7,.rowLit 3 [(.str []),(.int .i64 0),(.int .i64 0)] 3 [(0,(.t 4)),(1,(.t 5)),(2,(.t 6))],none⟩,
    ⟨some 8,.call (.c (.one (.fn 379 []))) [(.t 7),(.c (.one (.int .i64 5)))],none⟩,
    ⟨some 3,.mov (.t 8),none⟩,
    ⟨some 9,.ext (.t 3) 0,none⟩,
    ⟨some 10,.ext (.t 3) 1,none⟩,
    ⟨some 1,.mov (.t 9),none⟩,
    ⟨some 2,.mov (.t 10),none⟩]
def f377_2:List AI:=[⟨some 11,.mov (.t 1),none⟩,
    ⟨some 12,.len .slc (.t 11),none⟩,
    ⟨some 13,.bin .eql (.t 12) (.c (.one (.int .i64 2))),none⟩,
    ⟨some 14,.mov (.t 13),none⟩,
    ⟨some 15,.mov (.t 1),some (14,true)⟩,
    ⟨some 16,.iaddr 3 (.t 15) (.c (.one (.int .i64 0))),some (14,true)⟩,
    ⟨some 17,.faddr 0 (.t 16),some (14,true)⟩,
    ⟨some 18,.load false 1 (.t 17),some (14,true)⟩,
    ⟨some 19,.bin .eql (.t 18) (.c (.one (.str [97,110]))),some (14,true)⟩,
    ⟨some 20,.pick (.t 14) (.t 19) (.c (.one (.bool false))),none⟩,
    ⟨some 21,.mov (.t 20),none⟩,
    ⟨some 22,.mov (.t 1),some (21,true)⟩,
    ⟨some 23,.iaddr 3 (.t 22) (.c (.one (.int .i64 1))),some (21,true)⟩,
    ⟨some 24,.faddr 1 (.t 23),some (21,true)⟩,
    ⟨some 25,.load false 1 (.t 24),some (21,true)⟩,
    ⟨some 26,.bin .eql (.t 25) (.c (.one (.int .i64 7))),some (21,true)⟩,
    ⟨some 27,.pick (.t 21) (.t 26) (.c (.one (.bool false))),none⟩,
    ⟨some 28,.mov (.t 27),none⟩,
    ⟨some 29,.mov (.t 2),some (28,true)⟩,
    ⟨some 30,.bin .eql (.t 29) (.c (.one (.int .i64 0))),some (28,true)⟩,
    ⟨some 31,.pick (.t 28) (.t 30) (.c (.one (.bool false))),none⟩,
    ⟨some 32,.mov (.t 31),none⟩,
    ⟨some 33,.build [(.str []),(.int .i64 0),(.int .i64 0)] [],some (32,true)⟩,
    ⟨some 34,.call (.c (.one (.fn 387 []))) [(.t 33)],some (32,true)⟩,
    ⟨some 35,.bin .eql (.t 34) (.c (.one (.int .i64 4))),some (32,true)⟩,
    ⟨some 36,.pick (.t 32) (.t 35) (.c (.one (.bool false))),none⟩,
    ⟨some 0,.mov (.t 36),none⟩]
def f377_3:AC:=.seq (.reg f377_2) .ret
def f377_4:AC:=.seq (.reg f377_1) f377_3
def f377_5:AC:=.seq (.reg f377_0) f377_4
def f377B:AC:=f377_5
def f377:AF:=⟨0,37,[(.t 0)],f377B⟩
def f379_0:List AI:=[⟨some 3,.box (.t 1),none⟩,
    ⟨some 4,.new [.nils],none⟩,
    ⟨some 5,.mov (.c (.one (.int .i64 0))),none⟩]
def f379_1:List AI:=[⟨some 9,.mov (.t 0),none⟩,
    ⟨some 10,.call (.c (.one (.fn 390 []))) [(.t 9)],none⟩,
    ⟨some 6,.mov (.t 10),none⟩]
def f379_2:List AI:=[⟨some 11,.mov (.t 6),none⟩,
    ⟨some 12,.bin .neq (.t 11) (.c (.one (.int .i64 0))),none⟩]
def f379_3:List AI:=[⟨some 13,.mov (.t 6),none⟩,
    ⟨none,.store 1 (.t 4) (.c (.one .nils)),none⟩,
    ⟨some 5,.mov (.t 13),none⟩]
def f379_4:AC:=.seq (.reg f379_3) .ret
def f379_5:AC:=.cond (.t 12) f379_4 .skip
def f379_6:AC:=.seq (.reg f379_2) f379_5
def f379_7:AC:=.seq (.reg f379_1) f379_6
def f379_8:List AI:=[⟨some 14,.load false 1 (.t 3),none⟩,
    ⟨some 15,.bin .lss (.t 14) (.c (.one (.int .i64 0))),none⟩,
    ⟨some 16,.mov (.t 15),none⟩,
    ⟨some 17,.load false 1 (.t 3),some (16,false)⟩,
    ⟨some 18,.bin .gtr (.t 17) (.c (.one (.int .i64 1000))),some (16,false)⟩,
    ⟨some 19,.pick (.t 16) (.c (.one (.bool true))) (.t 18),none⟩]
def f379_9:List AI:=[⟨none,.store 1 (.t 4) (.c (.one .nils)),none⟩,
    ⟨some 5,.mov (.c (.one (.int .i64 2))),none⟩]
def f379_10:AC:=.seq (.reg f379_9) .ret
def f379_11:AC:=.cond (.t 19) f379_10 .skip
def f379_12:AC:=.seq (.reg f379_8) f379_11
def f379_13:List AI:=[⟨some 20,.mov (.t 0),none⟩,
    ⟨some 21,.call (.c (.one (.fn 391 []))) [(.t 20)],none⟩]
def f379_14:List AI:=[⟨some 7,.mov (.t 22),none⟩]
def f379_15:List AI:=[⟨some 8,.new [(.str []),(.int .i64 0),(.int .i64 0)],none⟩,
    ⟨none,.store 3 (.t 8) (.t 23),none⟩]
def f379_16:AC:=.seq (.reg f379_14) (.reg f379_15)
def f379_17:List AI:=[⟨some 24,.mov (.t 7),none⟩,
    ⟨some 25,.load false 1 (.t 3),none⟩,
    ⟨some 26,.bin .eql (.t 24) (.t 25),none⟩]
def f379_18:AC:=.cond (.t 26) (.exit 0) .skip
def f379_19:AC:=.seq (.reg f379_17) f379_18
def f379_20:List AI:=[⟨some 27,.load false 1 (.t 4),none⟩,
    ⟨some 28,.load true 3 (.t 8),none⟩,
    ⟨some 29,.rowLit 3 [(.str []),(.int .i64 0),(.int .i64 0)] 1 [(0,(.t 28))],none⟩,
    ⟨some 30,.app 3 32 (.t 27) (.t 29),none⟩,
    ⟨none,.store 1 (.t 4) (.t 30),none⟩]
def f379_21:AC:=.seq f379_19 (.reg f379_20)
def f379_22:AC:=.block 1 f379_21
def f379_23:AC:=.rangeF (.t 21) [22,23] f379_16 f379_22
def f379_24:AC:=.block 0 f379_23
def f379_25:AC:=.seq (.reg f379_13) f379_24
def f379_26:List AI:=[⟨some 31,.load false 1 (.t 4),none⟩,
    ⟨none,.store 1 (.t 4) (.t 31),none⟩,
    ⟨some 5,.mov (.c (.one (.int .i64 0))),none⟩]
def f379_27:AC:=.seq (.reg f379_26) .ret
def f379_28:AC:=.seq f379_25 f379_27
def f379_29:AC:=.seq f379_12 f379_28
def f379_30:AC:=.seq f379_7 f379_29
def f379_31:AC:=.seq (.reg f379_0) f379_30
def f379B:AC:=f379_31
def f379:AF:=⟨2,32,[(.cell 4 false 1),(.t 5)],f379B⟩
def f381_0:List AI:=[⟨some 2,.box (.t 0),none⟩,
    ⟨some 3,.box (.t 1),none⟩,
    ⟨some 4,.mov (.c (.one (.bool false))),none⟩]
def f381_1:List AI:=[⟨some 5,.load true 3 (.t 2),none⟩,
    ⟨some 6,.load true 3 (.t 3),none⟩,
    ⟨some 7,.call (.c (.one (.fn 392 []))) [(.t 5),(.t 6)],none⟩,
    ⟨some 8,.bin .lss (.t 7) (.c (.one (.int .i64 0))),none⟩,
    ⟨some 4,.mov (.t 8),none⟩]
def f381_2:AC:=.seq (.reg f381_1) .ret
def f381_3:AC:=.seq (.reg f381_0) f381_2
def f381B:AC:=f381_3
def f381:AF:=⟨2,9,[(.t 4)],f381B⟩
def f387_0:List AI:=[⟨some 1,.box (.t 0),none⟩,
    ⟨some 2,.mov (.c (.one (.int .i64 0))),none⟩]
def f387_1:List AI:=[⟨some 6,.faddr 0 (.t 1),none⟩,
    ⟨some 7,.load false 1 (.t 6),none⟩,
    ⟨some 8,.call (.c (.one (.fn 20 []))) [(.t 7)],none⟩,
    ⟨some 5,.mov (.t 8),none⟩,
    ⟨some 9,.ext (.t 5) 0,none⟩,
    ⟨some 10,.ext (.t 5) 1,none⟩,
    ⟨some 3,.mov (.t 9),none⟩,
    ⟨some 4,.mov (.t 10),none⟩]
def f387_2:List AI:=[⟨some 11,.mov (.t 4),none⟩,
    ⟨some 12,.bin .eql (.t 11) (.c (.one (.int .i64 0))),none⟩,
    ⟨some 13,.mov (.t 12),none⟩,
    ⟨some 14,.faddr 1 (.t 1),some (13,true)⟩,
    ⟨some 15,.load false 1 (.t 14),some (13,true)⟩,
    ⟨some 16,.bin .lss (.t 15) (.c (.one (.int .i64 0))),some (13,true)⟩,
    ⟨some 17,.mov (.t 16),some (13,true)⟩,
    ⟨some 18,.faddr 1 (.t 1),some (17,false)⟩,
    ⟨some 19,.load false 1 (.t 18),some (17,false)⟩,
    ⟨some 20,.bin .gtr (.t 19) (.c (.one (.int .i64 4096))),some (17,false)⟩,
    ⟨some 21,.pick (.t 17) (.c (.one (.bool true))) (.t 20),some (13,true)⟩,
    ⟨some 22,.mov (.t 21),some (13,true)⟩,
    ⟨some 23,.faddr 2 (.t 1),some (22,false)⟩,
    ⟨some 24,.load false 1 (.t 23),some (22,false)⟩,
    ⟨some 25,.bin .lss (.t 24) (.c (.one (.int .i64 1))),some (22,false)⟩,
    ⟨some 26,.pick (.t 22) (.c (.one (.bool true))) (.t 25),some (13,true)⟩,
    ⟨some 27,.mov (.t 26),some (13,true)⟩,
    ⟨some 28,.faddr 2 (.t 1),some (27,false)⟩,
    ⟨some 29,.load false 1 (.t 28),some (27,false)⟩,
    ⟨some 30,.bin .gtr (.t 29) (.c (.one (.int .i64 1073741824))),some (27,false)⟩,
    ⟨some 31,.pick (.t 27) (.c (.one (.bool true))) (.t 30),some (13,true)⟩,
    ⟨some 32,.pick (.t 13) (.t 31) (.c (.one (.bool false))),none⟩]
def f387_3:List AI:=[⟨some 2,.mov (.c (.one (.int .i64 2))),none⟩]
def f387_4:AC:=.seq (.reg f387_3) .ret
def f387_5:AC:=.cond (.t 32) f387_4 .skip
def f387_6:AC:=.seq (.reg f387_2) f387_5
def f387_7:List AI:=[⟨some 33,.mov (.t 4),none⟩,
    ⟨some 2,.mov (.t 33),none⟩]
def f387_8:AC:=.seq (.reg f387_7) .ret
def f387_9:AC:=.seq f387_6 f387_8
def f387_10:AC:=.seq (.reg f387_1) f387_9
def f387_11:AC:=.seq (.reg f387_0) f387_10
def f387B:AC:=f387_11
def f387:AF:=⟨1,34,[(.t 2)],f387B⟩
def f390_0:List AI:=[⟨some 2,.mov (.c (.one (.int .i64 0))),none⟩]
def f390_1:List AI:=[⟨some 6,.mov (.t 0),none⟩,
    ⟨some 7,.len .slc (.t 6),none⟩,
    ⟨some 8,.mov (.c (.one (.int .i64 0))),none⟩]
def f390_2:List AI:=[⟨some 9,.bin .lss (.t 8) (.t 7),none⟩]
def f390_3:AC:=.cond (.t 9) .skip (.exit 0)
def f390_4:List AI:=[⟨some 10,.iaddr 3 (.t 6) (.t 8),none⟩,
    ⟨some 11,.load true 3 (.t 10),none⟩,
    ⟨some 4,.new [(.str []),(.int .i64 0),(.int .i64 0)],none⟩,
    ⟨none,.store 3 (.t 4) (.t 11),none⟩]
def f390_5:List AI:=[⟨some 12,.load true 3 (.t 4),none⟩,
    ⟨some 13,.call (.c (.one (.fn 387 []))) [(.t 12)],none⟩,
    ⟨some 5,.mov (.t 13),none⟩]
def f390_6:List AI:=[⟨some 14,.mov (.t 5),none⟩,
    ⟨some 15,.bin .neq (.t 14) (.c (.one (.int .i64 0))),none⟩]
def f390_7:List AI:=[⟨some 16,.mov (.t 5),none⟩,
    ⟨some 2,.mov (.t 16),none⟩]
def f390_8:AC:=.seq (.reg f390_7) .ret
def f390_9:AC:=.cond (.t 15) f390_8 .skip
def f390_10:AC:=.seq (.reg f390_6) f390_9
def f390_11:AC:=.seq (.reg f390_5) f390_10
def f390_12:AC:=.seq (.reg f390_4) f390_11
def f390_13:AC:=.block 1 f390_12
def f390_14:List AI:=[⟨some 17,.bin .add (.t 8) (.c (.one (.int .i64 1))),none⟩,
    ⟨some 8,.mov (.t 17),none⟩]
def f390_15:AC:=.seq f390_13 (.reg f390_14)
def f390_16:AC:=.seq f390_3 f390_15
def f390_17:AC:=.seq (.reg f390_2) f390_16
def f390_18:AC:=.loop f390_17
def f390_19:AC:=.block 0 f390_18
def f390_20:AC:=.seq (.reg f390_1) f390_19
def f390_21:List AI:=[⟨some 2,.mov (.c (.one (.int .i64 0))),none⟩]
def f390_22:AC:=.seq (.reg f390_21) .ret
def f390_23:AC:=.seq f390_20 f390_22
def f390_24:AC:=.seq (.reg f390_0) f390_23
def f390B:AC:=f390_24
def f390:AF:=⟨1,18,[(.t 2)],f390B⟩
def f391_0:List AI:=[⟨some 1,.box (.t 0),none⟩,
    ⟨some 2,.mov (.c (.one .nilf)),none⟩]
def f391_1:List AI:=[⟨some 3,.mkfn 395 [(.t 1)],none⟩,
    ⟨some 2,.mov (.t 3),none⟩]
def f391_2:AC:=.seq (.reg f391_1) .ret
def f391_3:AC:=.seq (.reg f391_0) f391_2
def f391B:AC:=f391_3
def f391:AF:=⟨1,4,[(.t 2)],f391B⟩
def f392_0:List AI:=[⟨some 2,.box (.t 0),none⟩,
    ⟨some 3,.box (.t 1),none⟩,
    ⟨some 4,.mov (.c (.one (.int .i64 0))),none⟩]
def f392_1:List AI:=[⟨some 5,.faddr 1 (.t 2),none⟩,
    ⟨some 6,.load false 1 (.t 5),none⟩,
    ⟨some 7,.faddr 1 (.t 3),none⟩,
    ⟨some 8,.load false 1 (.t 7),none⟩,
    ⟨some 9,.call (.c (.one (.fn 328 []))) [(.t 6),(.t 8)],none⟩,
    ⟨some 10,.faddr 2 (.t 3),none⟩,
    ⟨some 11,.load false 1 (.t 10),none⟩,
    ⟨some 12,.faddr 2 (.t 2),none⟩,
    ⟨some 13,.load false 1 (.t 12),none⟩,
    ⟨some 14,.call (.c (.one (.fn 328 []))) [(.t 11),(.t 13)],none⟩,
    ⟨some 15,.faddr 0 (.t 2),none⟩,
    ⟨some 16,.load false 1 (.t 15),none⟩,
    ⟨some 17,.faddr 0 (.t 3),none⟩,
    ⟨some 18,.load false 1 (.t 17),none⟩,
    ⟨some 19,.call (.c (.one (.fn 252 []))) [(.t 16),(.t 18)],none⟩,
    ⟨some 20,.rowLit 1 [(.int .i64 0)] 3 [(0,(.t 9)),(1,(.t 14)),(2,(.t 19))],none⟩,
    ⟨some 21,.call (.c (.one (.fn 251 []))) [(.t 20)],none⟩,
    ⟨some 4,.mov (.t 21),none⟩]
def f392_2:AC:=.seq (.dreg f392_1) .ret
def f392_3:AC:=.seq (.reg f392_0) f392_2
def f392B:AC:=f392_3
def f392:AF:=⟨2,22,[(.t 4)],f392B⟩
def f395_0:List AI:=[⟨some 6,.mkmap,none⟩,
    ⟨some 3,.mov (.t 6),none⟩]
def f395_1:List AI:=[⟨some 7,.load false 1 (.t 1),none⟩,
    ⟨some 8,.call (.c (.one (.fn 397 []))) [(.t 7)],none⟩,
    ⟨some 9,.call (.c (.one (.fn 396 []))) [(.t 8),(.c (.one (.fn 392 [])))],none⟩,
    ⟨some 10,.len .slc (.t 9),none⟩,
    ⟨some 11,.mov (.c (.one (.int .i64 0))),none⟩]
def f395_2:List AI:=[⟨some 12,.bin .lss (.t 11) (.t 10),none⟩]
def f395_3:AC:=.cond (.t 12) .skip (.exit 0)
def f395_4:List AI:=[⟨some 13,.iaddr 3 (.t 9) (.t 11),none⟩,
    ⟨some 14,.load true 3 (.t 13),none⟩,
    ⟨some 5,.new [(.str []),(.int .i64 0),(.int .i64 0)],none⟩,
    ⟨none,.store 3 (.t 5) (.t 14),none⟩]
def f395_5:List AI:=[⟨some 15,.mov (.t 3),none⟩,
    ⟨some 16,.faddr 0 (.t 5),none⟩,
    ⟨some 17,.load false 1 (.t 16),none⟩,
    ⟨some 18,.lookup .str (.bool false) (.t 15) (.t 17) false,none⟩]
def f395_6:AC:=.cond (.t 18) (.exit 1) .skip
def f395_7:AC:=.seq (.reg f395_5) f395_6
def f395_8:List AI:=[⟨some 19,.mov (.t 0),none⟩,
    ⟨some 20,.mov (.t 3),none⟩,
    ⟨some 21,.len .map (.t 20),none⟩,
    ⟨some 22,.load true 3 (.t 5),none⟩,
    ⟨some 23,.call (.t 19) [(.t 21),(.t 22)],none⟩,
    ⟨some 24,.un .not (.t 23),none⟩]
def f395_9:AC:=.cond (.t 24) (.exit 0) .skip
def f395_10:AC:=.seq (.reg f395_8) f395_9
def f395_11:List AI:=[⟨some 25,.mov (.t 3),none⟩,
    ⟨some 26,.faddr 0 (.t 5),none⟩,
    ⟨some 27,.load false 1 (.t 26),none⟩,
    ⟨none,.mapset .str (.t 25) (.t 27) (.c (.one (.bool true))),none⟩]
def f395_12:AC:=.seq f395_10 (.reg f395_11)
def f395_13:AC:=.seq f395_7 f395_12
def f395_14:AC:=.seq (.reg f395_4) f395_13
def f395_15:AC:=.block 1 f395_14
def f395_16:List AI:=[⟨some 28,.bin .add (.t 11) (.c (.one (.int .i64 1))),none⟩,
    ⟨some 11,.mov (.t 28),none⟩]
def f395_17:AC:=.seq f395_15 (.reg f395_16)
def f395_18:AC:=.seq f395_3 f395_17
def f395_19:AC:=.seq (.reg f395_2) f395_18
def f395_20:AC:=.loop f395_19
def f395_21:AC:=.block 0 f395_20
def f395_22:AC:=.seq (.reg f395_1) f395_21
def f395_23:AC:=.seq .skip f395_22
def f395_24:AC:=.seq (.reg f395_0) f395_23
def f395_25:AC:=.seq .skip f395_24
def f395B:AC:=f395_25
def f395:AF:=⟨2,29,[],f395B⟩
def f396_0:List AI:=[⟨some 4,.mov (.c (.one .nils)),none⟩]
def f396_1:List AI:=[⟨some 6,.mov (.t 0),none⟩,
    ⟨some 7,.call (.c (.one (.fn 399 []))) [(.t 6)],none⟩,
    ⟨some 5,.mov (.t 7),none⟩]
def f396_2:List AI:=[⟨some 8,.mov (.t 5),none⟩,
    ⟨some 9,.mov (.t 1),none⟩,
    ⟨some 10,.call (.c (.one (.fn 400 []))) [(.t 8),(.t 9)],none⟩]
def f396_3:List AI:=[⟨some 11,.mov (.t 5),none⟩,
    ⟨some 4,.mov (.t 11),none⟩]
def f396_4:AC:=.seq (.reg f396_3) .ret
def f396_5:AC:=.seq (.reg f396_2) f396_4
def f396_6:AC:=.seq (.reg f396_1) f396_5
def f396_7:AC:=.seq (.reg f396_0) f396_6
def f396B:AC:=f396_7
def f396:AF:=⟨2,12,[(.t 4)],f396B⟩
def f397_0:List AI:=[⟨some 1,.box (.t 0),none⟩,
    ⟨some 2,.mov (.c (.one .nilf)),none⟩]
def f397_1:List AI:=[⟨some 3,.mkfn 401 [(.t 1)],none⟩,
    ⟨some 2,.mov (.t 3),none⟩]
def f397_2:AC:=.seq (.reg f397_1) .ret
def f397_3:AC:=.seq (.reg f397_0) f397_2
def f397B:AC:=f397_3
def f397:AF:=⟨1,4,[(.t 2)],f397B⟩
def f399_0:List AI:=[⟨some 2,.mov (.c (.one .nils)),none⟩]
def f399_1:List AI:=[⟨some 3,.mov (.t 0),none⟩,
    ⟨some 4,.call (.c (.one (.fn 402 []))) [(.c (.one .nils)),(.t 3)],none⟩,
    ⟨some 2,.mov (.t 4),none⟩]
def f399_2:AC:=.seq (.reg f399_1) .ret
def f399_3:AC:=.seq (.reg f399_0) f399_2
def f399B:AC:=f399_3
def f399:AF:=⟨1,5,[(.t 2)],f399B⟩
def f401_0:List AI:=[⟨some 5,.load false 1 (.t 1),none⟩,
    ⟨some 6,.len .slc (.t 5),none⟩,
    ⟨some 7,.mov (.c (.one (.int .i64 0))),none⟩]
def f401_1:List AI:=[⟨some 8,.bin .lss (.t 7) (.t 6),none⟩]
def f401_2:AC:=.cond (.t 8) .skip (.exit 0)
def f401_3:List AI:=[⟨some 9,.iaddr 3 (.t 5) (.t 7),none⟩,
    ⟨some 10,.load true 3 (.t 9),none⟩,
    ⟨some 4,.new [(.str []),(.int .i64 0),(.int .i64 0)],none⟩,
    ⟨none,.store 3 (.t 4) (.t 10),none⟩]
def f401_4:List AI:=[⟨some 11,.mov (.t 0),none⟩,
    ⟨some 12,.load true 3 (.t 4),none⟩,
    ⟨some 13,.call (.t 11) [(.t 12)],none⟩,
    ⟨some 14,.un .not (.t 13),none⟩]
def f401_5:AC:=.cond (.t 14) .ret .skip
def f401_6:AC:=.seq (.reg f401_4) f401_5
def f401_7:AC:=.seq (.reg f401_3) f401_6
def f401_8:AC:=.block 1 f401_7
def f401_9:List AI:=[⟨some 15,.bin .add (.t 7) (.c (.one (.int .i64 1))),none⟩,
    ⟨some 7,.mov (.t 15),none⟩]
def f401_10:AC:=.seq f401_8 (.reg f401_9)
def f401_11:AC:=.seq f401_2 f401_10
def f401_12:AC:=.seq (.reg f401_1) f401_11
def f401_13:AC:=.loop f401_12
def f401_14:AC:=.block 0 f401_13
def f401_15:AC:=.seq (.reg f401_0) f401_14
def f401B:AC:=f401_15
def f401:AF:=⟨2,16,[],f401B⟩
def f402_0:List AI:=[⟨some 2,.box (.t 0),none⟩,
    ⟨some 4,.mov (.c (.one .nils)),none⟩]
def f402_1:List AI:=[⟨some 6,.mov (.t 1),none⟩]
def f402_2:List AI:=[⟨some 5,.new [(.str []),(.int .i64 0),(.int .i64 0)],none⟩,
    ⟨none,.store 3 (.t 5) (.t 7),none⟩]
def f402_3:List AI:=[⟨some 8,.load false 1 (.t 2),none⟩,
    ⟨some 9,.load true 3 (.t 5),none⟩,
    ⟨some 10,.rowLit 3 [(.str []),(.int .i64 0),(.int .i64 0)] 1 [(0,(.t 9))],none⟩,
    ⟨some 11,.app 3 32 (.t 8) (.t 10),none⟩,
    ⟨none,.store 1 (.t 2) (.t 11),none⟩]
def f402_4:AC:=.block 1 (.reg f402_3)
def f402_5:AC:=.rangeF (.t 6) [7] (.reg f402_2) f402_4
def f402_6:AC:=.block 0 f402_5
def f402_7:AC:=.seq (.reg f402_1) f402_6
def f402_8:List AI:=[⟨some 12,.load false 1 (.t 2),none⟩,
    ⟨some 4,.mov (.t 12),none⟩]
def f402_9:AC:=.seq (.reg f402_8) .ret
def f402_10:AC:=.seq f402_7 f402_9
def f402_11:AC:=.seq (.reg f402_0) f402_10
def f402B:AC:=f402_11
def f402:AF:=⟨2,13,[(.t 4)],f402B⟩
end Go.EA.F
