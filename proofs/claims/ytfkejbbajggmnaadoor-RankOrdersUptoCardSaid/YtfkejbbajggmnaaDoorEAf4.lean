/- Functions of the program, as abstract code (printed by a program). Conditions: none (definitions). -/
import Derived.Test.YtfkejbbajggmnaaDoorEK1
namespace Go.EA.F
def f43_0:List AI:=[⟨some 2,.mov (.c (.one (.int .i64 0))),none⟩]
def f43_1:List AI:=[⟨some 3,.mov (.t 0),none⟩,
    ⟨some 4,.rng (.t 3),none⟩]
def f43_2:List AI:=[⟨some 5,.nxt (.t 4),none⟩,
    ⟨some 6,.ext (.t 5) 0,none⟩]
def f43_3:AC:=.cond (.t 6) .skip (.exit 0)
def f43_4:List AI:=[⟨some 7,.mov (.t 2),none⟩,
    ⟨some 8,.bin .add (.t 7) (.c (.one (.int .i64 1))),none⟩,
    ⟨some 2,.mov (.t 8),none⟩]
def f43_5:AC:=.block 1 (.reg f43_4)
def f43_6:AC:=.seq f43_3 f43_5
def f43_7:AC:=.seq (.reg f43_2) f43_6
def f43_8:AC:=.loop f43_7
def f43_9:AC:=.block 0 f43_8
def f43_10:AC:=.seq (.reg f43_1) f43_9
def f43_11:List AI:=[⟨some 9,.mov (.t 2),none⟩,
    ⟨some 2,.mov (.t 9),none⟩]
def f43_12:AC:=.seq (.reg f43_11) .ret
def f43_13:AC:=.seq f43_10 f43_12
def f43_14:AC:=.seq (.reg f43_0) f43_13
def f43B:AC:=f43_14
def f43:AF:=⟨1,10,[(.t 2)],f43B⟩
def f251_0:List AI:=[⟨some 2,.mov (.c (.one (.int .i64 0))),none⟩]
def f251_1:List AI:=[⟨some 3,.mov (.c (.one (.int .i64 0))),none⟩]
def f251_2:List AI:=[⟨some 6,.mov (.t 0),none⟩,
    ⟨some 7,.len .slc (.t 6),none⟩,
    ⟨some 8,.mov (.c (.one (.int .i64 0))),none⟩]
def f251_3:List AI:=[⟨some 9,.bin .lss (.t 8) (.t 7),none⟩]
def f251_4:AC:=.cond (.t 9) .skip (.exit 0)
def f251_5:List AI:=[⟨some 10,.iaddr 1 (.t 6) (.t 8),none⟩,
    ⟨some 11,.load false 1 (.t 10),none⟩,
    ⟨some 5,.mov (.t 11),none⟩]
def f251_6:List AI:=[⟨some 12,.mov (.t 5),none⟩,
    ⟨some 13,.mov (.t 3),none⟩,
    ⟨some 14,.bin .neq (.t 12) (.t 13),none⟩]
def f251_7:List AI:=[⟨some 15,.mov (.t 5),none⟩,
    ⟨some 2,.mov (.t 15),none⟩]
def f251_8:AC:=.seq (.reg f251_7) .ret
def f251_9:AC:=.cond (.t 14) f251_8 .skip
def f251_10:AC:=.seq (.reg f251_6) f251_9
def f251_11:AC:=.seq (.reg f251_5) f251_10
def f251_12:AC:=.block 1 f251_11
def f251_13:List AI:=[⟨some 16,.bin .add (.t 8) (.c (.one (.int .i64 1))),none⟩,
    ⟨some 8,.mov (.t 16),none⟩]
def f251_14:AC:=.seq f251_12 (.reg f251_13)
def f251_15:AC:=.seq f251_4 f251_14
def f251_16:AC:=.seq (.reg f251_3) f251_15
def f251_17:AC:=.loop f251_16
def f251_18:AC:=.block 0 f251_17
def f251_19:AC:=.seq (.reg f251_2) f251_18
def f251_20:List AI:=[⟨some 17,.mov (.t 3),none⟩,
    ⟨some 2,.mov (.t 17),none⟩]
def f251_21:AC:=.seq (.reg f251_20) .ret
def f251_22:AC:=.seq f251_19 f251_21
def f251_23:AC:=.seq (.reg f251_1) f251_22
def f251_24:AC:=.seq (.reg f251_0) f251_23
def f251B:AC:=f251_24
def f251:AF:=⟨1,18,[(.t 2)],f251B⟩
def f252_0:List AI:=[⟨some 4,.mov (.c (.one (.int .i64 0))),none⟩]
def f252_1:List AI:=[⟨some 7,.mov (.t 0),none⟩,
    ⟨some 8,.call (.c (.one (.fn 261 []))) [(.t 7)],none⟩,
    ⟨some 5,.mov (.t 8),none⟩]
def f252_2:List AI:=[⟨some 9,.mov (.t 1),none⟩,
    ⟨some 10,.call (.c (.one (.fn 261 []))) [(.t 9)],none⟩,
    ⟨some 6,.mov (.t 10),none⟩]
def f252_3:List AI:=[⟨some 11,.mov (.t 5),none⟩]
def f252_4:List AI:=[⟨some 12,.mov (.t 6),none⟩]
def f252_5:List AI:=[⟨some 4,.mov (.c (.one (.int .i64 0))),none⟩]
def f252_6:AC:=.seq (.reg f252_5) .ret
def f252_7:AC:=.cond (.t 12) f252_6 .skip
def f252_8:AC:=.seq (.reg f252_4) f252_7
def f252_9:List AI:=[⟨some 4,.mov (.c (.one (.int .i64 (-1)))),none⟩]
def f252_10:AC:=.seq (.reg f252_9) .ret
def f252_11:AC:=.seq f252_8 f252_10
def f252_12:AC:=.cond (.t 11) f252_11 .skip
def f252_13:AC:=.seq (.reg f252_3) f252_12
def f252_14:List AI:=[⟨some 13,.mov (.t 6),none⟩]
def f252_15:List AI:=[⟨some 4,.mov (.c (.one (.int .i64 1))),none⟩]
def f252_16:AC:=.seq (.reg f252_15) .ret
def f252_17:AC:=.cond (.t 13) f252_16 .skip
def f252_18:AC:=.seq (.reg f252_14) f252_17
def f252_19:List AI:=[⟨some 14,.mov (.t 0),none⟩,
    ⟨some 15,.mov (.t 1),none⟩,
    ⟨some 16,.bin .lss (.t 14) (.t 15),none⟩]
def f252_20:List AI:=[⟨some 4,.mov (.c (.one (.int .i64 (-1)))),none⟩]
def f252_21:AC:=.seq (.reg f252_20) .ret
def f252_22:AC:=.cond (.t 16) f252_21 .skip
def f252_23:AC:=.seq (.reg f252_19) f252_22
def f252_24:List AI:=[⟨some 17,.mov (.t 0),none⟩,
    ⟨some 18,.mov (.t 1),none⟩,
    ⟨some 19,.bin .gtr (.t 17) (.t 18),none⟩]
def f252_25:List AI:=[⟨some 4,.mov (.c (.one (.int .i64 1))),none⟩]
def f252_26:AC:=.seq (.reg f252_25) .ret
def f252_27:AC:=.cond (.t 19) f252_26 .skip
def f252_28:AC:=.seq (.reg f252_24) f252_27
def f252_29:List AI:=[⟨some 4,.mov (.c (.one (.int .i64 0))),none⟩]
def f252_30:AC:=.seq (.reg f252_29) .ret
def f252_31:AC:=.seq f252_28 f252_30
def f252_32:AC:=.seq f252_23 f252_31
def f252_33:AC:=.seq f252_18 f252_32
def f252_34:AC:=.seq f252_13 f252_33
def f252_35:AC:=.seq (.reg f252_2) f252_34
def f252_36:AC:=.seq (.reg f252_1) f252_35
def f252_37:AC:=.seq (.reg f252_0) f252_36
def f252B:AC:=f252_37
def f252:AF:=⟨2,20,[(.t 4)],f252B⟩
def f260_0:List AI:=[⟨some 3,.mov (.c (.one (.int .i64 0))),none⟩]
def f260_1:List AI:=[⟨some 5,.mov (.t 3),none⟩,
    ⟨some 6,.load false 1 (.t 1),none⟩,
    ⟨some 7,.len .slc (.t 6),none⟩,
    ⟨some 8,.bin .lss (.t 5) (.t 7),none⟩]
def f260_2:AC:=.cond (.t 8) .skip (.exit 0)
def f260_3:AC:=.seq (.reg f260_1) f260_2
def f260_4:List AI:=[⟨some 11,.load false 1 (.t 1),none⟩,
    ⟨some 12,.mov (.t 3),none⟩,
    ⟨some 13,.iaddr 3 (.t 11) (.t 12),none⟩,
    ⟨some 14,.faddr 0 (.t 13),none⟩,
    ⟨some 15,.load false 1 (.t 14),none⟩,
    ⟨some 16,.bin .eql (.t 15) (.c (.one (.int .i64 0))),none⟩]
def f260_5:AC:=.cond (.t 16) (.exit 1) .skip
def f260_6:AC:=.seq (.reg f260_4) f260_5
def f260_7:List AI:=[⟨some 17,.mov (.t 3),none⟩,
    ⟨some 4,.mov (.t 17),none⟩]
def f260_8:List AI:=[⟨some 18,.mov (.t 3),none⟩,
    ⟨some 19,.load false 1 (.t 1),none⟩,
    ⟨some 20,.len .slc (.t 19),none⟩,
    ⟨some 21,.bin .lss (.t 18) (.t 20),none⟩,
    ⟨some 22,.mov (.t 21),none⟩,
    ⟨some 23,.load false 1 (.t 1),some (22,true)⟩,
    ⟨some 24,.mov (.t 3),some (22,true)⟩,
    ⟨some 25,.iaddr 3 (.t 23) (.t 24),some (22,true)⟩,
    ⟨some 26,.faddr 0 (.t 25),some (22,true)⟩,
    ⟨some 27,.load false 1 (.t 26),some (22,true)⟩,
    ⟨some 28,.bin .neq (.t 27) (.c (.one (.int .i64 0))),some (22,true)⟩,
    ⟨some 29,.pick (.t 22) (.t 28) (.c (.one (.bool false))),none⟩]
def f260_9:AC:=.cond (.t 29) .skip (.exit 2)
def f260_10:AC:=.seq (.reg f260_8) f260_9
def f260_11:List AI:=[⟨some 30,.mov (.t 3),none⟩,
    ⟨some 31,.bin .add (.t 30) (.c (.one (.int .i64 1))),none⟩,
    ⟨some 3,.mov (.t 31),none⟩]
def f260_12:AC:=.block 3 (.reg f260_11)
def f260_13:AC:=.seq f260_10 f260_12
def f260_14:AC:=.loop f260_13
def f260_15:AC:=.block 2 f260_14
def f260_16:List AI:=[⟨some 32,.mov (.t 0),none⟩,
    ⟨some 33,.load false 1 (.t 1),none⟩,
    ⟨some 34,.mov (.t 4),none⟩,
    ⟨some 35,.mov (.t 3),none⟩,
    ⟨some 36,.slice .slc 3 (.t 33) (some (.t 34)) (some (.t 35)) none,none⟩,
    ⟨some 37,.call (.t 32) [(.t 36)],none⟩,
    ⟨some 38,.un .not (.t 37),none⟩]
def f260_17:AC:=.cond (.t 38) .ret .skip
def f260_18:AC:=.seq (.reg f260_16) f260_17
def f260_19:AC:=.seq f260_15 f260_18
def f260_20:AC:=.seq (.reg f260_7) f260_19
def f260_21:AC:=.seq f260_6 f260_20
def f260_22:AC:=.block 1 f260_21
def f260_23:List AI:=[⟨some 9,.mov (.t 3),none⟩,
    ⟨some 10,.bin .add (.t 9) (.c (.one (.int .i64 1))),none⟩,
    ⟨some 3,.mov (.t 10),none⟩]
def f260_24:AC:=.seq f260_22 (.reg f260_23)
def f260_25:AC:=.seq f260_3 f260_24
def f260_26:AC:=.loop f260_25
def f260_27:AC:=.block 0 f260_26
def f260_28:AC:=.seq (.reg f260_0) f260_27
def f260_29:AC:=.seq .skip f260_28
def f260_30:AC:=.seq .skip f260_29
def f260B:AC:=f260_30
def f260:AF:=⟨2,39,[],f260B⟩
def f261_0:List AI:=[⟨some 2,.mov (.c (.one (.bool false))),none⟩]
def f261_1:List AI:=[⟨some 3,.mov (.t 0),none⟩,
    ⟨some 4,.mov (.t 0),none⟩,
    ⟨some 5,.bin .neq (.t 3) (.t 4),none⟩,
    ⟨some 2,.mov (.t 5),none⟩]
def f261_2:AC:=.seq (.reg f261_1) .ret
def f261_3:AC:=.seq (.reg f261_0) f261_2
def f261B:AC:=f261_3
def f261:AF:=⟨1,6,[(.t 2)],f261B⟩
end Go.EA.F
