/- Functions of the program, as abstract code (printed by a program). Conditions: none (definitions). -/
import Derived.Test.YtfkejbbajggmnaaDoorEK1
namespace Go.EA.F
def f328_0:List AI:=[⟨some 4,.mov (.c (.one (.int .i64 0))),none⟩]
def f328_1:List AI:=[⟨some 7,.mov (.t 0),none⟩,
    ⟨some 8,.call (.c (.one (.fn 345 []))) [(.t 7)],none⟩,
    ⟨some 5,.mov (.t 8),none⟩]
def f328_2:List AI:=[⟨some 9,.mov (.t 1),none⟩,
    ⟨some 10,.call (.c (.one (.fn 345 []))) [(.t 9)],none⟩,
    ⟨some 6,.mov (.t 10),none⟩]
def f328_3:List AI:=[⟨some 11,.mov (.t 5),none⟩]
def f328_4:List AI:=[⟨some 12,.mov (.t 6),none⟩]
def f328_5:List AI:=[⟨some 4,.mov (.c (.one (.int .i64 0))),none⟩]
def f328_6:AC:=.seq (.reg f328_5) .ret
def f328_7:AC:=.cond (.t 12) f328_6 .skip
def f328_8:AC:=.seq (.reg f328_4) f328_7
def f328_9:List AI:=[⟨some 4,.mov (.c (.one (.int .i64 (-1)))),none⟩]
def f328_10:AC:=.seq (.reg f328_9) .ret
def f328_11:AC:=.seq f328_8 f328_10
def f328_12:AC:=.cond (.t 11) f328_11 .skip
def f328_13:AC:=.seq (.reg f328_3) f328_12
def f328_14:List AI:=[⟨some 13,.mov (.t 6),none⟩]
def f328_15:List AI:=[⟨some 4,.mov (.c (.one (.int .i64 1))),none⟩]
def f328_16:AC:=.seq (.reg f328_15) .ret
def f328_17:AC:=.cond (.t 13) f328_16 .skip
def f328_18:AC:=.seq (.reg f328_14) f328_17
def f328_19:List AI:=[⟨some 14,.mov (.t 0),none⟩,
    ⟨some 15,.mov (.t 1),none⟩,
    ⟨some 16,.bin .lss (.t 14) (.t 15),none⟩]
def f328_20:List AI:=[⟨some 4,.mov (.c (.one (.int .i64 (-1)))),none⟩]
def f328_21:AC:=.seq (.reg f328_20) .ret
def f328_22:AC:=.cond (.t 16) f328_21 .skip
def f328_23:AC:=.seq (.reg f328_19) f328_22
def f328_24:List AI:=[⟨some 17,.mov (.t 0),none⟩,
    ⟨some 18,.mov (.t 1),none⟩,
    ⟨some 19,.bin .gtr (.t 17) (.t 18),none⟩]
def f328_25:List AI:=[⟨some 4,.mov (.c (.one (.int .i64 1))),none⟩]
def f328_26:AC:=.seq (.reg f328_25) .ret
def f328_27:AC:=.cond (.t 19) f328_26 .skip
def f328_28:AC:=.seq (.reg f328_24) f328_27
def f328_29:List AI:=[⟨some 4,.mov (.c (.one (.int .i64 0))),none⟩]
def f328_30:AC:=.seq (.reg f328_29) .ret
def f328_31:AC:=.seq f328_28 f328_30
def f328_32:AC:=.seq f328_23 f328_31
def f328_33:AC:=.seq f328_18 f328_32
def f328_34:AC:=.seq f328_13 f328_33
def f328_35:AC:=.seq (.reg f328_2) f328_34
def f328_36:AC:=.seq (.reg f328_1) f328_35
def f328_37:AC:=.seq (.reg f328_0) f328_36
def f328B:AC:=f328_37
def f328:AF:=⟨2,20,[(.t 4)],f328B⟩
def f345_0:List AI:=[⟨some 2,.mov (.c (.one (.bool false))),none⟩]
def f345_1:List AI:=[⟨some 3,.mov (.t 0),none⟩,
    ⟨some 4,.mov (.t 0),none⟩,
    ⟨some 5,.bin .neq (.t 3) (.t 4),none⟩,
    ⟨some 2,.mov (.t 5),none⟩]
def f345_2:AC:=.seq (.reg f345_1) .ret
def f345_3:AC:=.seq (.reg f345_0) f345_2
def f345B:AC:=f345_3
def f345:AF:=⟨1,6,[(.t 2)],f345B⟩
end Go.EA.F
