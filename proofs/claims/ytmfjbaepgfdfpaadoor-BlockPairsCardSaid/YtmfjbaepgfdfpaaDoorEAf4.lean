/- Functions of the program, as abstract code (printed by a program). Conditions: none (definitions). -/
import Derived.Test.YtmfjbaepgfdfpaaDoorEK1
namespace Go.EA.F
def f43_0:List AI:=[⟨some 2,.mov (.c (.one (.int .i64 0))),none⟩]
def f43_1:List AI:=[⟨some 3,.mov (.t 0),none⟩,
    ⟨some 4,.rng (.t 3),none⟩]
def f43_2:List AI:=[⟨some 5,.nxt (.t 4),none⟩,
    ⟨some 6,.ext (.t 5) 0,none⟩]
def f43_3:AC:=.cond (.t 6) .skip (.exit 0)
def f43_4:List AI:=[⟨some 7,.mov (.t 2),none⟩,
    ⟨some 8,.bin .add (.t 7) (.c (.one (.int .i64 1))),none⟩,
    ⟨some 2,.mov (.t 8),none⟩]
def f43_5:AC:=.block 1 (.reg f43_4)
def f43_6:AC:=.seq f43_3 f43_5
def f43_7:AC:=.seq (.reg f43_2) f43_6
def f43_8:AC:=.loop f43_7
def f43_9:AC:=.block 0 f43_8
def f43_10:AC:=.seq (.reg f43_1) f43_9
def f43_11:List AI:=[⟨some 9,.mov (.t 2),none⟩,
    ⟨some 2,.mov (.t 9),none⟩]
def f43_12:AC:=.seq (.reg f43_11) .ret
def f43_13:AC:=.seq f43_10 f43_12
def f43_14:AC:=.seq (.reg f43_0) f43_13
def f43B:AC:=f43_14
def f43:AF:=⟨1,10,[(.t 2)],f43B⟩
def f69_0:List AI:=[⟨some 2,.mov (.c (.one (.int .i32 0))),none⟩,
    ⟨some 3,.mov (.c (.one (.int .i64 0))),none⟩]
def f69_1:List AI:=[⟨some 4,.mov (.t 0),none⟩,
    ⟨some 5,.bin .neq (.t 4) (.c (.one (.str []))),none⟩,
    ⟨some 6,.mov (.t 5),none⟩,
    ⟨some 7,.mov (.t 0),some (6,true)⟩,
    ⟨some 8,.sidx (.t 7) (.c (.one (.int .i64 0))),some (6,true)⟩,
    ⟨some 9,.bin .lss (.t 8) (.c (.one (.int .u8 128))),some (6,true)⟩,
    ⟨some 10,.pick (.t 6) (.t 9) (.c (.one (.bool false))),none⟩]
def f69_2:List AI:=[⟨some 11,.mov (.t 0),none⟩,
    ⟨some 12,.sidx (.t 11) (.c (.one (.int .i64 0))),none⟩,
    ⟨some 13,.wrapI .i32 (.t 12),none⟩,
    ⟨some 2,.mov (.t 13),none⟩,
    ⟨some 3,.mov (.c (.one (.int .i64 1))),none⟩]
def f69_3:AC:=.seq (.reg f69_2) .ret
def f69_4:List AI:=[⟨some 15,.mov (.t 0),none⟩,
    ⟨some 16,.call (.c (.one (.fn 81 []))) [(.t 15)],none⟩,
    ⟨some 14,.mov (.t 16),none⟩,
    ⟨some 17,.ext (.t 14) 0,none⟩,
    ⟨some 18,.ext (.t 14) 1,none⟩,
    ⟨some 2,.mov (.t 17),none⟩,
    ⟨some 3,.mov (.t 18),none⟩]
def f69_5:AC:=.cond (.t 10) f69_3 (.reg f69_4)
def f69_6:AC:=.seq (.reg f69_1) f69_5
def f69_7:AC:=.seq f69_6 .ret
def f69_8:AC:=.seq (.reg f69_0) f69_7
def f69B:AC:=f69_8
def f69:AF:=⟨1,19,[(.t 2),(.t 3)],f69B⟩
def f206_0:List AI:=[⟨some 4,.mov (.c (.one (.bool false))),none⟩]
def f206_1:List AI:=[⟨some 9,.call (.c (.one (.fn 225 []))) [],none⟩,
    ⟨some 10,.un .not (.t 9),none⟩]
def f206_2:List AI:=[⟨some 4,.mov (.c (.one (.bool false))),none⟩]
def f206_3:AC:=.seq (.reg f206_2) .ret
def f206_4:AC:=.cond (.t 10) f206_3 .skip
def f206_5:AC:=.seq (.reg f206_1) f206_4
def f206_6:List AI:=[⟨some 11,.mov (.t 0),none⟩,
    ⟨some 12,.len .str (.t 11),none⟩,
    ⟨some 13,.bin .gtr (.t 12) (.c (.one (.int .i64 1000))),none⟩,
    ⟨some 14,.mov (.t 13),none⟩,
    ⟨some 15,.mov (.t 1),some (14,false)⟩,
    ⟨some 16,.len .str (.t 15),some (14,false)⟩,
    ⟨some 17,.bin .gtr (.t 16) (.c (.one (.int .i64 1000))),some (14,false)⟩,
    ⟨some 18,.pick (.t 14) (.c (.one (.bool true))) (.t 17),none⟩]
def f206_7:List AI:=[⟨some 4,.mov (.c (.one (.bool true))),none⟩]
def f206_8:AC:=.seq (.reg f206_7) .ret
def f206_9:AC:=.cond (.t 18) f206_8 .skip
def f206_10:AC:=.seq (.reg f206_6) f206_9
def f206_11:List AI:=[⟨some 20,.mov (.t 0),none⟩,
    ⟨some 21,.mov (.t 1),none⟩,
    ⟨some 22,.call (.c (.one (.fn 226 []))) [(.t 20),(.t 21)],none⟩,
    ⟨some 19,.mov (.t 22),none⟩,
    ⟨some 23,.ext (.t 19) 0,none⟩,
    ⟨some 24,.ext (.t 19) 1,none⟩,
    ⟨some 5,.mov (.t 23),none⟩,
    ⟨some 6,.mov (.t 24),none⟩]
def f206_12:List AI:=[⟨some 26,.mov (.t 0),none⟩,
    ⟨some 27,.mov (.t 1),none⟩,
    ⟨some 28,.call (.c (.one (.fn 227 []))) [(.t 26),(.t 27)],none⟩,
    ⟨some 25,.mov (.t 28),none⟩,
    ⟨some 29,.ext (.t 25) 0,none⟩,
    ⟨some 30,.ext (.t 25) 1,none⟩,
    ⟨some 7,.mov (.t 29),none⟩,
    ⟨some 8,.mov (.t 30),none⟩]
def f206_13:List AI:=[⟨some 31,.mov (.t 5),none⟩,
    ⟨some 32,.mov (.t 7),none⟩,
    ⟨some 33,.call (.c (.one (.fn 228 []))) [(.t 31),(.t 32)],none⟩,
    ⟨some 34,.mov (.t 33),none⟩,
    ⟨some 35,.mov (.t 6),some (34,true)⟩,
    ⟨some 36,.mov (.t 8),some (34,true)⟩,
    ⟨some 37,.bin .eql (.t 35) (.t 36),some (34,true)⟩,
    ⟨some 38,.pick (.t 34) (.t 37) (.c (.one (.bool false))),none⟩,
    ⟨some 4,.mov (.t 38),none⟩]
def f206_14:AC:=.seq (.reg f206_13) .ret
def f206_15:AC:=.seq (.reg f206_12) f206_14
def f206_16:AC:=.seq (.reg f206_11) f206_15
def f206_17:AC:=.seq f206_10 f206_16
def f206_18:AC:=.seq f206_5 f206_17
def f206_19:AC:=.seq (.reg f206_0) f206_18
def f206B:AC:=f206_19
def f206:AF:=⟨2,39,[(.t 4)],f206B⟩
def f214_0:List AI:=[⟨some 4,.mov (.c (.one .nils)),none⟩,
    ⟨some 5,.mov (.c (.one (.int .i64 0))),none⟩]
def f214_1:List AI:=[⟨some 10,.mov (.t 0),none⟩,
    ⟨some 11,.mov (.t 1),none⟩,
    ⟨some 12,.call (.c (.one (.fn 237 []))) [(.t 10),(.t 11)],none⟩,
    ⟨some 9,.mov (.t 12),none⟩,
    ⟨some 13,.ext (.t 9) 0,none⟩,
    ⟨some 14,.ext (.t 9) 1,none⟩,
    ⟨some 6,.mov (.t 13),none⟩,
    ⟨some 7,.mov (.t 14),none⟩]
def f214_2:List AI:=[⟨some 15,.mov (.t 7),none⟩,
    ⟨some 16,.bin .neq (.t 15) (.c (.one (.int .i64 0))),none⟩]
def f214_3:List AI:=[⟨some 17,.mov (.t 7),none⟩,
    ⟨some 4,.mov (.c (.one .nils)),none⟩,
    ⟨some 5,.mov (.t 17),none⟩]
def f214_4:AC:=.seq (.reg f214_3) .ret
def f214_5:AC:=.cond (.t 16) f214_4 .skip
def f214_6:AC:=.seq (.reg f214_2) f214_5
def f214_7:List AI:=[⟨some 18,.mov (.t 6),none⟩,
    ⟨some 19,.call (.c (.one (.fn 239 []))) [(.t 18)],none⟩,
    ⟨some 20,.call (.c (.one (.fn 238 []))) [(.t 19)],none⟩,
    ⟨some 8,.mov (.t 20),none⟩]
def f214_8:List AI:=[⟨some 21,.mov (.t 8),none⟩,
    ⟨some 22,.call (.c (.one (.fn 240 []))) [(.t 21)],none⟩]
def f214_9:List AI:=[⟨some 23,.mov (.t 8),none⟩,
    ⟨some 4,.mov (.t 23),none⟩,
    ⟨some 5,.mov (.c (.one (.int .i64 0))),none⟩]
def f214_10:AC:=.seq (.reg f214_9) .ret
def f214_11:AC:=.seq (.reg f214_8) f214_10
def f214_12:AC:=.seq (.reg f214_7) f214_11
def f214_13:AC:=.seq f214_6 f214_12
def f214_14:AC:=.seq (.reg f214_1) f214_13
def f214_15:AC:=.seq (.reg f214_0) f214_14
def f214B:AC:=f214_15
def f214:AF:=⟨2,24,[(.t 4),(.t 5)],f214B⟩
def f215_0:List AI:=[⟨some 4,.mov (.c (.one .nils)),none⟩,
    ⟨some 5,.mov (.c (.one (.int .i64 0))),none⟩]
def f215_1:List AI:=[⟨some 16,.mov (.t 0),none⟩,
    ⟨some 17,.mov (.t 1),none⟩,
    ⟨some 18,.call (.c (.one (.fn 241 []))) [(.t 16),(.t 17)],none⟩,
    ⟨some 15,.mov (.t 18),none⟩,
    ⟨some 19,.ext (.t 15) 0,none⟩,
    ⟨some 20,.ext (.t 15) 1,none⟩,
    ⟨some 21,.ext (.t 15) 2,none⟩,
    ⟨some 6,.mov (.t 19),none⟩,
    ⟨some 7,.mov (.t 20),none⟩,
    ⟨some 8,.mov (.t 21),none⟩]
def f215_2:List AI:=[⟨some 22,.mov (.t 8),none⟩,
    ⟨some 23,.bin .neq (.t 22) (.c (.one (.int .i64 0))),none⟩]
def f215_3:List AI:=[⟨some 24,.mov (.t 8),none⟩,
    ⟨some 4,.mov (.c (.one .nils)),none⟩,
    ⟨some 5,.mov (.t 24),none⟩]
def f215_4:AC:=.seq (.reg f215_3) .ret
def f215_5:AC:=.cond (.t 23) f215_4 .skip
def f215_6:AC:=.seq (.reg f215_2) f215_5
def f215_7:List AI:=[⟨some 25,.mov (.t 6),none⟩,
    ⟨some 26,.mov (.t 7),none⟩,
    ⟨some 27,.call (.c (.one (.fn 242 []))) [(.t 25),(.t 26)],none⟩,
    ⟨some 9,.mov (.t 27),none⟩]
def f215_8:List AI:=[⟨some 10,.mov (.c (.one .nils)),none⟩]
def f215_9:List AI:=[⟨some 28,.mov (.t 6),none⟩,
    ⟨some 29,.len .slc (.t 28),none⟩,
    ⟨some 30,.mov (.t 7),none⟩,
    ⟨some 31,.len .slc (.t 30),none⟩,
    ⟨some 11,.mov (.t 29),none⟩,
    ⟨some 12,.mov (.t 31),none⟩]
def f215_10:List AI:=[⟨some 32,.mov (.t 11),none⟩,
    ⟨some 33,.bin .gtr (.t 32) (.c (.one (.int .i64 0))),none⟩,
    ⟨some 34,.mov (.t 33),none⟩,
    ⟨some 35,.mov (.t 12),some (34,false)⟩,
    ⟨some 36,.bin .gtr (.t 35) (.c (.one (.int .i64 0))),some (34,false)⟩,
    ⟨some 37,.pick (.t 34) (.c (.one (.bool true))) (.t 36),none⟩]
def f215_11:AC:=.cond (.t 37) .skip (.exit 0)
def f215_12:AC:=.seq (.reg f215_10) f215_11
def f215_13:List AI:=[⟨some 50,.mov (.t 11),none⟩,
    ⟨some 51,.bin .gtr (.t 50) (.c (.one (.int .i64 0))),none⟩,
    ⟨some 52,.mov (.t 51),none⟩,
    ⟨some 53,.mov (.t 12),some (52,true)⟩,
    ⟨some 54,.bin .gtr (.t 53) (.c (.one (.int .i64 0))),some (52,true)⟩,
    ⟨some 55,.pick (.t 52) (.t 54) (.c (.one (.bool false))),none⟩,
    ⟨some 56,.mov (.t 55),none⟩,
    ⟨some 57,.mov (.t 6),some (56,true)⟩,
    ⟨some 58,.mov (.t 11),some (56,true)⟩,
    ⟨some 59,.bin .sub (.t 58) (.c (.one (.int .i64 1))),some (56,true)⟩,
    ⟨some 60,.iaddr 1 (.t 57) (.t 59),some (56,true)⟩,
    ⟨some 61,.load false 1 (.t 60),some (56,true)⟩,
    ⟨some 62,.mov (.t 7),some (56,true)⟩,
    ⟨some 63,.mov (.t 12),some (56,true)⟩,
    ⟨some 64,.bin .sub (.t 63) (.c (.one (.int .i64 1))),some (56,true)⟩,
    ⟨some 65,.iaddr 1 (.t 62) (.t 64),some (56,true)⟩,
    ⟨some 66,.load false 1 (.t 65),some (56,true)⟩,
    ⟨some 67,.bin .eql (.t 61) (.t 66),some (56,true)⟩,
    ⟨some 68,.pick (.t 56) (.t 67) (.c (.one (.bool false))),none⟩,
    ⟨some 69,.mov (.t 68),none⟩,
    ⟨some 70,.mov (.t 9),some (69,true)⟩,
    ⟨some 71,.mov (.t 11),some (69,true)⟩,
    ⟨some 72,.iaddr 1 (.t 70) (.t 71),some (69,true)⟩,
    ⟨some 73,.load false 1 (.t 72),some (69,true)⟩,
    ⟨some 74,.mov (.t 12),some (69,true)⟩,
    ⟨some 75,.iaddr 1 (.t 73) (.t 74),some (69,true)⟩,
    ⟨some 76,.load false 1 (.t 75),some (69,true)⟩,
    ⟨some 77,.mov (.t 9),some (69,true)⟩,
    ⟨some 78,.mov (.t 11),some (69,true)⟩,
    ⟨some 79,.bin .sub (.t 78) (.c (.one (.int .i64 1))),some (69,true)⟩,
    ⟨some 80,.iaddr 1 (.t 77) (.t 79),some (69,true)⟩,
    ⟨some 81,.load false 1 (.t 80),some (69,true)⟩,
    ⟨some 82,.mov (.t 12),some (69,true)⟩,
    ⟨some 83,.bin .sub (.t 82) (.c (.one (.int .i64 1))),some (69,true)⟩,
    ⟨some 84,.iaddr 1 (.t 81) (.t 83),some (69,true)⟩,
    ⟨some 85,.load false 1 (.t 84),some (69,true)⟩,
    ⟨some 86,.bin .eql (.t 76) (.t 85),some (69,true)⟩,
    ⟨some 87,.pick (.t 69) (.t 86) (.c (.one (.bool false))),none⟩,
    ⟨some 49,.mov (.t 87),none⟩]
def f215_14:List AI:=[⟨some 88,.mov (.t 10),none⟩,
    ⟨some 89,.mov (.t 6),none⟩,
    ⟨some 90,.mov (.t 11),none⟩,
    ⟨some 91,.bin .sub (.t 90) (.c (.one (.int .i64 1))),none⟩,
    ⟨some 92,.iaddr 1 (.t 89) (.t 91),none⟩,
    ⟨some 93,.load false 1 (.t 92),none⟩,
    ⟨some 94,.mov (.t 7),none⟩,
    ⟨some 95,.mov (.t 12),none⟩,
    ⟨some 96,.bin .sub (.t 95) (.c (.one (.int .i64 1))),none⟩,
    ⟨some 97,.iaddr 1 (.t 94) (.t 96),none⟩,
    ⟨some 98,.load false 1 (.t 97),none⟩,
    ⟨some 99,.build [(.int .i64 0),(.int .i32 0),(.int .i32 0)] [(0,(1,(.c (.one (.int .i64 0))))),(1,(1,(.t 93))),(2,(1,(.t 98)))],none⟩,
    ⟨some 100,.rowLit 3 [(.int .i64 0),(.int .i32 0),(.int .i32 0)] 1 [(0,(.t 99))],none⟩,
    ⟨some 101,.app 3 16 (.t 88) (.t 100),none⟩,
    ⟨some 10,.mov (.t 101),none⟩]
def f215_15:List AI:=[⟨some 102,.mov (.t 11),none⟩,
    ⟨some 103,.bin .sub (.t 102) (.c (.one (.int .i64 1))),none⟩,
    ⟨some 11,.mov (.t 103),none⟩]
def f215_16:List AI:=[⟨some 104,.mov (.t 12),none⟩,
    ⟨some 105,.bin .sub (.t 104) (.c (.one (.int .i64 1))),none⟩,
    ⟨some 12,.mov (.t 105),none⟩]
def f215_17:AC:=.seq (.reg f215_15) (.reg f215_16)
def f215_18:AC:=.seq (.dreg f215_14) f215_17
def f215_19:List AI:=[⟨some 107,.mov (.t 11),none⟩,
    ⟨some 108,.bin .gtr (.t 107) (.c (.one (.int .i64 0))),none⟩,
    ⟨some 109,.mov (.t 108),none⟩,
    ⟨some 110,.mov (.t 12),some (109,true)⟩,
    ⟨some 111,.bin .gtr (.t 110) (.c (.one (.int .i64 0))),some (109,true)⟩,
    ⟨some 112,.pick (.t 109) (.t 111) (.c (.one (.bool false))),none⟩,
    ⟨some 113,.mov (.t 112),none⟩,
    ⟨some 114,.mov (.t 6),some (113,true)⟩,
    ⟨some 115,.mov (.t 11),some (113,true)⟩,
    ⟨some 116,.bin .sub (.t 115) (.c (.one (.int .i64 1))),some (113,true)⟩,
    ⟨some 117,.iaddr 1 (.t 114) (.t 116),some (113,true)⟩,
    ⟨some 118,.load false 1 (.t 117),some (113,true)⟩,
    ⟨some 119,.mov (.t 7),some (113,true)⟩,
    ⟨some 120,.mov (.t 12),some (113,true)⟩,
    ⟨some 121,.bin .sub (.t 120) (.c (.one (.int .i64 1))),some (113,true)⟩,
    ⟨some 122,.iaddr 1 (.t 119) (.t 121),some (113,true)⟩,
    ⟨some 123,.load false 1 (.t 122),some (113,true)⟩,
    ⟨some 124,.bin .neq (.t 118) (.t 123),some (113,true)⟩,
    ⟨some 125,.pick (.t 113) (.t 124) (.c (.one (.bool false))),none⟩,
    ⟨some 126,.mov (.t 125),none⟩,
    ⟨some 127,.mov (.t 9),some (126,true)⟩,
    ⟨some 128,.mov (.t 11),some (126,true)⟩,
    ⟨some 129,.iaddr 1 (.t 127) (.t 128),some (126,true)⟩,
    ⟨some 130,.load false 1 (.t 129),some (126,true)⟩,
    ⟨some 131,.mov (.t 12),some (126,true)⟩,
    ⟨some 132,.iaddr 1 (.t 130) (.t 131),some (126,true)⟩,
    ⟨some 133,.load false 1 (.t 132),some (126,true)⟩,
    ⟨some 134,.mov (.t 9),some (126,true)⟩,
    ⟨some 135,.mov (.t 11),some (126,true)⟩,
    ⟨some 136,.bin .sub (.t 135) (.c (.one (.int .i64 1))),some (126,true)⟩,
    ⟨some 137,.iaddr 1 (.t 134) (.t 136),some (126,true)⟩,
    ⟨some 138,.load false 1 (.t 137),some (126,true)⟩,
    ⟨some 139,.mov (.t 12),some (126,true)⟩,
    ⟨some 140,.bin .sub (.t 139) (.c (.one (.int .i64 1))),some (126,true)⟩,
    ⟨some 141,.iaddr 1 (.t 138) (.t 140),some (126,true)⟩,
    ⟨some 142,.load false 1 (.t 141),some (126,true)⟩,
    ⟨some 143,.bin .add (.t 142) (.c (.one (.int .i64 1))),some (126,true)⟩,
    ⟨some 144,.bin .eql (.t 133) (.t 143),some (126,true)⟩,
    ⟨some 145,.pick (.t 126) (.t 144) (.c (.one (.bool false))),none⟩,
    ⟨some 106,.mov (.t 145),none⟩]
def f215_20:List AI:=[⟨some 146,.mov (.t 10),none⟩,
    ⟨some 147,.mov (.t 6),none⟩,
    ⟨some 148,.mov (.t 11),none⟩,
    ⟨some 149,.bin .sub (.t 148) (.c (.one (.int .i64 1))),none⟩,
    ⟨some 150,.iaddr 1 (.t 147) (.t 149),none⟩,
    ⟨some 151,.load false 1 (.t 150),none⟩,
    ⟨some 152,.mov (.t 7),none⟩,
    ⟨some 153,.mov (.t 12),none⟩,
    ⟨some 154,.bin .sub (.t 153) (.c (.one (.int .i64 1))),none⟩,
    ⟨some 155,.iaddr 1 (.t 152) (.t 154),none⟩,
    ⟨some 156,.load false 1 (.t 155),none⟩,
    ⟨some 157,.build [(.int .i64 0),(.int .i32 0),(.int .i32 0)] [(0,(1,(.c (.one (.int .i64 1))))),(1,(1,(.t 151))),(2,(1,(.t 156)))],none⟩,
    ⟨some 158,.rowLit 3 [(.int .i64 0),(.int .i32 0),(.int .i32 0)] 1 [(0,(.t 157))],none⟩,
    ⟨some 159,.app 3 16 (.t 146) (.t 158),none⟩,
    ⟨some 10,.mov (.t 159),none⟩]
def f215_21:List AI:=[⟨some 160,.mov (.t 11),none⟩,
    ⟨some 161,.bin .sub (.t 160) (.c (.one (.int .i64 1))),none⟩,
    ⟨some 11,.mov (.t 161),none⟩]
def f215_22:List AI:=[⟨some 162,.mov (.t 12),none⟩,
    ⟨some 163,.bin .sub (.t 162) (.c (.one (.int .i64 1))),none⟩,
    ⟨some 12,.mov (.t 163),none⟩]
def f215_23:AC:=.seq (.reg f215_21) (.reg f215_22)
def f215_24:AC:=.seq (.dreg f215_20) f215_23
def f215_25:List AI:=[⟨some 165,.mov (.t 11),none⟩,
    ⟨some 166,.bin .gtr (.t 165) (.c (.one (.int .i64 0))),none⟩,
    ⟨some 167,.mov (.t 166),none⟩,
    ⟨some 168,.mov (.t 9),some (167,true)⟩,
    ⟨some 169,.mov (.t 11),some (167,true)⟩,
    ⟨some 170,.iaddr 1 (.t 168) (.t 169),some (167,true)⟩,
    ⟨some 171,.load false 1 (.t 170),some (167,true)⟩,
    ⟨some 172,.mov (.t 12),some (167,true)⟩,
    ⟨some 173,.iaddr 1 (.t 171) (.t 172),some (167,true)⟩,
    ⟨some 174,.load false 1 (.t 173),some (167,true)⟩,
    ⟨some 175,.mov (.t 9),some (167,true)⟩,
    ⟨some 176,.mov (.t 11),some (167,true)⟩,
    ⟨some 177,.bin .sub (.t 176) (.c (.one (.int .i64 1))),some (167,true)⟩,
    ⟨some 178,.iaddr 1 (.t 175) (.t 177),some (167,true)⟩,
    ⟨some 179,.load false 1 (.t 178),some (167,true)⟩,
    ⟨some 180,.mov (.t 12),some (167,true)⟩,
    ⟨some 181,.iaddr 1 (.t 179) (.t 180),some (167,true)⟩,
    ⟨some 182,.load false 1 (.t 181),some (167,true)⟩,
    ⟨some 183,.bin .add (.t 182) (.c (.one (.int .i64 1))),some (167,true)⟩,
    ⟨some 184,.bin .eql (.t 174) (.t 183),some (167,true)⟩,
    ⟨some 185,.pick (.t 167) (.t 184) (.c (.one (.bool false))),none⟩,
    ⟨some 164,.mov (.t 185),none⟩]
def f215_26:List AI:=[⟨some 186,.mov (.t 10),none⟩,
    ⟨some 187,.mov (.t 6),none⟩,
    ⟨some 188,.mov (.t 11),none⟩,
    ⟨some 189,.bin .sub (.t 188) (.c (.one (.int .i64 1))),none⟩,
    ⟨some 190,.iaddr 1 (.t 187) (.t 189),none⟩,
    ⟨some 191,.load false 1 (.t 190),none⟩,
    ⟨some 192,.build [(.int .i64 0),(.int .i32 0),(.int .i32 0)] [(0,(1,(.c (.one (.int .i64 2))))),(1,(1,(.t 191)))],none⟩,
    ⟨some 193,.rowLit 3 [(.int .i64 0),(.int .i32 0),(.int .i32 0)] 1 [(0,(.t 192))],none⟩,
    ⟨some 194,.app 3 16 (.t 186) (.t 193),none⟩,
    ⟨some 10,.mov (.t 194),none⟩]
def f215_27:List AI:=[⟨some 195,.mov (.t 11),none⟩,
    ⟨some 196,.bin .sub (.t 195) (.c (.one (.int .i64 1))),none⟩,
    ⟨some 11,.mov (.t 196),none⟩]
def f215_28:AC:=.seq (.reg f215_26) (.reg f215_27)
def f215_29:List AI:=[⟨some 38,.mov (.t 10),none⟩,
    ⟨some 39,.mov (.t 7),none⟩,
    ⟨some 40,.mov (.t 12),none⟩,
    ⟨some 41,.bin .sub (.t 40) (.c (.one (.int .i64 1))),none⟩,
    ⟨some 42,.iaddr 1 (.t 39) (.t 41),none⟩,
    ⟨some 43,.load false 1 (.t 42),none⟩,
    ⟨some 44,.build [(.int .i64 0),(.int .i32 0),(.int .i32 0)] [(0,(1,(.c (.one (.int .i64 3))))),(2,(1,(.t 43)))],none⟩,
    ⟨some 45,.rowLit 3 [(.int .i64 0),(.int .i32 0),(.int .i32 0)] 1 [(0,(.t 44))],none⟩,
    ⟨some 46,.app 3 16 (.t 38) (.t 45),none⟩,
    ⟨some 10,.mov (.t 46),none⟩]
def f215_30:List AI:=[⟨some 47,.mov (.t 12),none⟩,
    ⟨some 48,.bin .sub (.t 47) (.c (.one (.int .i64 1))),none⟩,
    ⟨some 12,.mov (.t 48),none⟩]
def f215_31:AC:=.seq (.reg f215_29) (.reg f215_30)
def f215_32:AC:=.cond (.t 164) f215_28 f215_31
def f215_33:AC:=.seq (.dreg f215_25) f215_32
def f215_34:AC:=.cond (.t 106) f215_24 f215_33
def f215_35:AC:=.seq (.dreg f215_19) f215_34
def f215_36:AC:=.cond (.t 49) f215_18 f215_35
def f215_37:AC:=.seq (.dreg f215_13) f215_36
def f215_38:AC:=.block 2 f215_37
def f215_39:AC:=.block 1 f215_38
def f215_40:AC:=.seq f215_12 f215_39
def f215_41:AC:=.loop f215_40
def f215_42:AC:=.block 0 f215_41
def f215_43:List AI:=[⟨some 13,.mov (.c (.one .nils)),none⟩]
def f215_44:List AI:=[⟨some 197,.mov (.t 10),none⟩,
    ⟨some 198,.len .slc (.t 197),none⟩,
    ⟨some 199,.bin .sub (.t 198) (.c (.one (.int .i64 1))),none⟩,
    ⟨some 14,.mov (.t 199),none⟩]
def f215_45:List AI:=[⟨some 200,.mov (.t 14),none⟩,
    ⟨some 201,.bin .geq (.t 200) (.c (.one (.int .i64 0))),none⟩]
def f215_46:AC:=.cond (.t 201) .skip (.exit 3)
def f215_47:AC:=.seq (.reg f215_45) f215_46
def f215_48:List AI:=[⟨some 204,.mov (.t 13),none⟩,
    ⟨some 205,.mov (.t 10),none⟩,
    ⟨some 206,.mov (.t 14),none⟩,
    ⟨some 207,.iaddr 3 (.t 205) (.t 206),none⟩,
    ⟨some 208,.load true 3 (.t 207),none⟩,
    ⟨some 209,.rowLit 3 [(.int .i64 0),(.int .i32 0),(.int .i32 0)] 1 [(0,(.t 208))],none⟩,
    ⟨some 210,.app 3 16 (.t 204) (.t 209),none⟩,
    ⟨some 13,.mov (.t 210),none⟩]
def f215_49:AC:=.block 4 (.reg f215_48)
def f215_50:List AI:=[⟨some 202,.mov (.t 14),none⟩,
    ⟨some 203,.bin .sub (.t 202) (.c (.one (.int .i64 1))),none⟩,
    ⟨some 14,.mov (.t 203),none⟩]
def f215_51:AC:=.seq f215_49 (.reg f215_50)
def f215_52:AC:=.seq f215_47 f215_51
def f215_53:AC:=.loop f215_52
def f215_54:AC:=.block 3 f215_53
def f215_55:AC:=.seq (.reg f215_44) f215_54
def f215_56:List AI:=[⟨some 211,.mov (.t 13),none⟩,
    ⟨some 4,.mov (.t 211),none⟩,
    ⟨some 5,.mov (.c (.one (.int .i64 0))),none⟩]
def f215_57:AC:=.seq (.reg f215_56) .ret
def f215_58:AC:=.seq f215_55 f215_57
def f215_59:AC:=.seq (.reg f215_43) f215_58
def f215_60:AC:=.seq f215_42 f215_59
def f215_61:AC:=.seq (.reg f215_9) f215_60
def f215_62:AC:=.seq (.reg f215_8) f215_61
def f215_63:AC:=.seq (.reg f215_7) f215_62
def f215_64:AC:=.seq f215_6 f215_63
def f215_65:AC:=.seq (.reg f215_1) f215_64
def f215_66:AC:=.seq (.reg f215_0) f215_65
def f215B:AC:=f215_66
def f215:AF:=⟨2,212,[(.t 4),(.t 5)],f215B⟩
def f220_0:List AI:=[⟨some 2,.mov (.c (.one (.str []))),none⟩,
    ⟨some 3,.mov (.c (.one (.str []))),none⟩,
    ⟨some 4,.mov (.c (.one (.int .i64 0))),none⟩]
def f220_1:List AI:=[⟨some 10,.mov (.t 0),none⟩,
    ⟨some 11,.call (.c (.one (.fn 222 []))) [(.t 10)],none⟩,
    ⟨some 5,.mov (.t 11),none⟩]
def f220_2:List AI:=[⟨some 12,.mov (.t 5),none⟩,
    ⟨some 13,.bin .neq (.t 12) (.c (.one (.int .i64 0))),none⟩]
def f220_3:List AI:=[⟨some 14,.mov (.t 5),none⟩,
    ⟨some 2,.mov (.c (.one (.str []))),none⟩,
    ⟨some 3,.mov (.c (.one (.str []))),none⟩,
    ⟨some 4,.mov (.t 14),none⟩]
def f220_4:AC:=.seq (.reg f220_3) .ret
def f220_5:AC:=.cond (.t 13) f220_4 .skip
def f220_6:AC:=.seq (.reg f220_2) f220_5
def f220_7:AC:=.seq (.reg f220_1) f220_6
def f220_8:List AI:=[⟨some 6,.mov (.c (.one .nils)),none⟩,
    ⟨some 7,.mov (.c (.one .nils)),none⟩]
def f220_9:List AI:=[⟨some 15,.mov (.t 0),none⟩,
    ⟨some 16,.len .slc (.t 15),none⟩,
    ⟨some 17,.mov (.c (.one (.int .i64 0))),none⟩]
def f220_10:List AI:=[⟨some 18,.bin .lss (.t 17) (.t 16),none⟩]
def f220_11:AC:=.cond (.t 18) .skip (.exit 0)
def f220_12:List AI:=[⟨some 19,.iaddr 3 (.t 15) (.t 17),none⟩,
    ⟨some 20,.load true 3 (.t 19),none⟩,
    ⟨some 9,.new [(.int .i64 0),(.int .i32 0),(.int .i32 0)],none⟩,
    ⟨none,.store 3 (.t 9) (.t 20),none⟩]
def f220_13:List AI:=[⟨some 21,.faddr 0 (.t 9),none⟩,
    ⟨some 22,.load false 1 (.t 21),none⟩,
    ⟨some 23,.bin .neq (.t 22) (.c (.one (.int .i64 3))),none⟩]
def f220_14:List AI:=[⟨some 24,.mov (.t 6),none⟩,
    ⟨some 25,.faddr 1 (.t 9),none⟩,
    ⟨some 26,.load false 1 (.t 25),none⟩,
    ⟨some 27,.call (.c (.one (.fn 56 []))) [(.t 24),(.t 26)],none⟩,
    ⟨some 6,.mov (.t 27),none⟩]
def f220_15:AC:=.cond (.t 23) (.reg f220_14) .skip
def f220_16:AC:=.seq (.reg f220_13) f220_15
def f220_17:List AI:=[⟨some 28,.faddr 0 (.t 9),none⟩,
    ⟨some 29,.load false 1 (.t 28),none⟩,
    ⟨some 30,.bin .neq (.t 29) (.c (.one (.int .i64 2))),none⟩]
def f220_18:List AI:=[⟨some 31,.mov (.t 7),none⟩,
    ⟨some 32,.faddr 2 (.t 9),none⟩,
    ⟨some 33,.load false 1 (.t 32),none⟩,
    ⟨some 34,.call (.c (.one (.fn 56 []))) [(.t 31),(.t 33)],none⟩,
    ⟨some 7,.mov (.t 34),none⟩]
def f220_19:AC:=.cond (.t 30) (.reg f220_18) .skip
def f220_20:AC:=.seq (.reg f220_17) f220_19
def f220_21:AC:=.seq f220_16 f220_20
def f220_22:AC:=.seq (.reg f220_12) f220_21
def f220_23:AC:=.block 1 f220_22
def f220_24:List AI:=[⟨some 35,.bin .add (.t 17) (.c (.one (.int .i64 1))),none⟩,
    ⟨some 17,.mov (.t 35),none⟩]
def f220_25:AC:=.seq f220_23 (.reg f220_24)
def f220_26:AC:=.seq f220_11 f220_25
def f220_27:AC:=.seq (.reg f220_10) f220_26
def f220_28:AC:=.loop f220_27
def f220_29:AC:=.block 0 f220_28
def f220_30:AC:=.seq (.reg f220_9) f220_29
def f220_31:List AI:=[⟨some 36,.mov (.t 6),none⟩,
    ⟨some 37,.b2s (.t 36),none⟩,
    ⟨some 38,.mov (.t 7),none⟩,
    ⟨some 39,.b2s (.t 38),none⟩,
    ⟨some 2,.mov (.t 37),none⟩,
    ⟨some 3,.mov (.t 39),none⟩,
    ⟨some 4,.mov (.c (.one (.int .i64 0))),none⟩]
def f220_32:AC:=.seq (.dreg f220_31) .ret
def f220_33:AC:=.seq f220_30 f220_32
def f220_34:AC:=.seq (.reg f220_8) f220_33
def f220_35:AC:=.seq f220_7 f220_34
def f220_36:AC:=.seq (.reg f220_0) f220_35
def f220B:AC:=f220_36
def f220:AF:=⟨1,40,[(.t 2),(.t 3),(.t 4)],f220B⟩
def f221_0:List AI:=[⟨some 2,.mov (.c (.one (.str []))),none⟩,
    ⟨some 3,.mov (.c (.one (.str []))),none⟩,
    ⟨some 4,.mov (.c (.one (.int .i64 0))),none⟩]
def f221_1:List AI:=[⟨some 10,.mov (.t 0),none⟩,
    ⟨some 11,.call (.c (.one (.fn 223 []))) [(.t 10)],none⟩,
    ⟨some 5,.mov (.t 11),none⟩]
def f221_2:List AI:=[⟨some 12,.mov (.t 5),none⟩,
    ⟨some 13,.bin .neq (.t 12) (.c (.one (.int .i64 0))),none⟩]
def f221_3:List AI:=[⟨some 14,.mov (.t 5),none⟩,
    ⟨some 2,.mov (.c (.one (.str []))),none⟩,
    ⟨some 3,.mov (.c (.one (.str []))),none⟩,
    ⟨some 4,.mov (.t 14),none⟩]
def f221_4:AC:=.seq (.reg f221_3) .ret
def f221_5:AC:=.cond (.t 13) f221_4 .skip
def f221_6:AC:=.seq (.reg f221_2) f221_5
def f221_7:AC:=.seq (.reg f221_1) f221_6
def f221_8:List AI:=[⟨some 6,.mov (.c (.one .nils)),none⟩,
    ⟨some 7,.mov (.c (.one .nils)),none⟩]
def f221_9:List AI:=[⟨some 15,.mov (.t 0),none⟩,
    ⟨some 16,.len .slc (.t 15),none⟩,
    ⟨some 17,.mov (.c (.one (.int .i64 0))),none⟩]
def f221_10:List AI:=[⟨some 18,.bin .lss (.t 17) (.t 16),none⟩]
def f221_11:AC:=.cond (.t 18) .skip (.exit 0)
def f221_12:List AI:=[⟨some 19,.iaddr 3 (.t 15) (.t 17),none⟩,
    ⟨some 20,.load true 3 (.t 19),none⟩,
    ⟨some 9,.new [(.int .i64 0),(.int .i32 0),(.int .i32 0)],none⟩,
    ⟨none,.store 3 (.t 9) (.t 20),none⟩]
def f221_13:List AI:=[⟨some 21,.faddr 0 (.t 9),none⟩,
    ⟨some 22,.load false 1 (.t 21),none⟩,
    ⟨some 23,.bin .neq (.t 22) (.c (.one (.int .i64 3))),none⟩]
def f221_14:List AI:=[⟨some 24,.mov (.t 6),none⟩,
    ⟨some 25,.faddr 1 (.t 9),none⟩,
    ⟨some 26,.load false 1 (.t 25),none⟩,
    ⟨some 27,.rowLit 1 [(.int .i32 0)] 1 [(0,(.t 26))],none⟩,
    ⟨some 28,.app 1 4 (.t 24) (.t 27),none⟩,
    ⟨some 6,.mov (.t 28),none⟩]
def f221_15:AC:=.cond (.t 23) (.reg f221_14) .skip
def f221_16:AC:=.seq (.reg f221_13) f221_15
def f221_17:List AI:=[⟨some 29,.faddr 0 (.t 9),none⟩,
    ⟨some 30,.load false 1 (.t 29),none⟩,
    ⟨some 31,.bin .neq (.t 30) (.c (.one (.int .i64 2))),none⟩]
def f221_18:List AI:=[⟨some 32,.mov (.t 7),none⟩,
    ⟨some 33,.faddr 2 (.t 9),none⟩,
    ⟨some 34,.load false 1 (.t 33),none⟩,
    ⟨some 35,.rowLit 1 [(.int .i32 0)] 1 [(0,(.t 34))],none⟩,
    ⟨some 36,.app 1 4 (.t 32) (.t 35),none⟩,
    ⟨some 7,.mov (.t 36),none⟩]
def f221_19:AC:=.cond (.t 31) (.reg f221_18) .skip
def f221_20:AC:=.seq (.reg f221_17) f221_19
def f221_21:AC:=.seq f221_16 f221_20
def f221_22:AC:=.seq (.reg f221_12) f221_21
def f221_23:AC:=.block 1 f221_22
def f221_24:List AI:=[⟨some 37,.bin .add (.t 17) (.c (.one (.int .i64 1))),none⟩,
    ⟨some 17,.mov (.t 37),none⟩]
def f221_25:AC:=.seq f221_23 (.reg f221_24)
def f221_26:AC:=.seq f221_11 f221_25
def f221_27:AC:=.seq (.reg f221_10) f221_26
def f221_28:AC:=.loop f221_27
def f221_29:AC:=.block 0 f221_28
def f221_30:AC:=.seq (.reg f221_9) f221_29
def f221_31:List AI:=[⟨some 38,.mov (.t 6),none⟩,
    ⟨some 39,.call (.c (.one (.fn 51 []))) [(.t 38)],none⟩,
    ⟨some 40,.mov (.t 7),none⟩,
    ⟨some 41,.call (.c (.one (.fn 51 []))) [(.t 40)],none⟩,
    ⟨some 2,.mov (.t 39),none⟩,
    ⟨some 3,.mov (.t 41),none⟩,
    ⟨some 4,.mov (.c (.one (.int .i64 0))),none⟩]
def f221_32:AC:=.seq (.reg f221_31) .ret
def f221_33:AC:=.seq f221_30 f221_32
def f221_34:AC:=.seq (.reg f221_8) f221_33
def f221_35:AC:=.seq f221_7 f221_34
def f221_36:AC:=.seq (.reg f221_0) f221_35
def f221B:AC:=f221_36
def f221:AF:=⟨1,42,[(.t 2),(.t 3),(.t 4)],f221B⟩
def f222_0:List AI:=[⟨some 2,.mov (.c (.one (.int .i64 0))),none⟩]
def f222_1:List AI:=[⟨some 3,.mov (.t 0),none⟩,
    ⟨some 4,.call (.c (.one (.fn 246 []))) [(.t 3),(.c (.one (.fn 247 [])))],none⟩]
def f222_2:List AI:=[⟨some 2,.mov (.c (.one (.int .i64 7))),none⟩]
def f222_3:AC:=.seq (.reg f222_2) .ret
def f222_4:AC:=.cond (.t 4) f222_3 .skip
def f222_5:AC:=.seq (.reg f222_1) f222_4
def f222_6:List AI:=[⟨some 2,.mov (.c (.one (.int .i64 0))),none⟩]
def f222_7:AC:=.seq (.reg f222_6) .ret
def f222_8:AC:=.seq f222_5 f222_7
def f222_9:AC:=.seq (.reg f222_0) f222_8
def f222B:AC:=f222_9
def f222:AF:=⟨1,5,[(.t 2)],f222B⟩
def f223_0:List AI:=[⟨some 2,.mov (.c (.one (.int .i64 0))),none⟩]
def f223_1:List AI:=[⟨some 6,.mov (.t 0),none⟩,
    ⟨some 7,.len .slc (.t 6),none⟩,
    ⟨some 8,.mov (.c (.one (.int .i64 0))),none⟩]
def f223_2:List AI:=[⟨some 9,.bin .lss (.t 8) (.t 7),none⟩]
def f223_3:AC:=.cond (.t 9) .skip (.exit 0)
def f223_4:List AI:=[⟨some 10,.iaddr 3 (.t 6) (.t 8),none⟩,
    ⟨some 11,.load true 3 (.t 10),none⟩,
    ⟨some 4,.new [(.int .i64 0),(.int .i32 0),(.int .i32 0)],none⟩,
    ⟨none,.store 3 (.t 4) (.t 11),none⟩]
def f223_5:List AI:=[⟨some 12,.faddr 1 (.t 4),none⟩,
    ⟨some 13,.load false 1 (.t 12),none⟩,
    ⟨some 14,.call (.c (.one (.fn 57 []))) [(.t 13)],none⟩,
    ⟨some 15,.mov (.t 14),none⟩,
    ⟨some 16,.faddr 2 (.t 4),some (15,true)⟩,
    ⟨some 17,.load false 1 (.t 16),some (15,true)⟩,
    ⟨some 18,.call (.c (.one (.fn 57 []))) [(.t 17)],some (15,true)⟩,
    ⟨some 19,.pick (.t 15) (.t 18) (.c (.one (.bool false))),none⟩,
    ⟨some 5,.mov (.t 19),none⟩]
def f223_6:List AI:=[⟨some 20,.faddr 0 (.t 4),none⟩,
    ⟨some 21,.load false 1 (.t 20),none⟩]
def f223_7:List AI:=[⟨some 23,.bin .eql (.t 21) (.c (.one (.int .i64 0))),none⟩,
    ⟨some 22,.mov (.t 23),none⟩]
def f223_8:List AI:=[⟨some 24,.mov (.t 5),none⟩,
    ⟨some 25,.mov (.t 24),none⟩,
    ⟨some 26,.faddr 1 (.t 4),some (25,true)⟩,
    ⟨some 27,.load false 1 (.t 26),some (25,true)⟩,
    ⟨some 28,.faddr 2 (.t 4),some (25,true)⟩,
    ⟨some 29,.load false 1 (.t 28),some (25,true)⟩,
    ⟨some 30,.bin .eql (.t 27) (.t 29),some (25,true)⟩,
    ⟨some 31,.pick (.t 25) (.t 30) (.c (.one (.bool false))),none⟩,
    ⟨some 5,.mov (.t 31),none⟩]
def f223_9:List AI:=[⟨some 33,.bin .eql (.t 21) (.c (.one (.int .i64 1))),none⟩,
    ⟨some 32,.mov (.t 33),none⟩]
def f223_10:List AI:=[⟨some 34,.mov (.t 5),none⟩,
    ⟨some 35,.mov (.t 34),none⟩,
    ⟨some 36,.faddr 1 (.t 4),some (35,true)⟩,
    ⟨some 37,.load false 1 (.t 36),some (35,true)⟩,
    ⟨some 38,.faddr 2 (.t 4),some (35,true)⟩,
    ⟨some 39,.load false 1 (.t 38),some (35,true)⟩,
    ⟨some 40,.bin .neq (.t 37) (.t 39),some (35,true)⟩,
    ⟨some 41,.pick (.t 35) (.t 40) (.c (.one (.bool false))),none⟩,
    ⟨some 5,.mov (.t 41),none⟩]
def f223_11:List AI:=[⟨some 43,.bin .eql (.t 21) (.c (.one (.int .i64 2))),none⟩,
    ⟨some 42,.mov (.t 43),none⟩]
def f223_12:List AI:=[⟨some 44,.mov (.t 5),none⟩,
    ⟨some 45,.mov (.t 44),none⟩,
    ⟨some 46,.faddr 2 (.t 4),some (45,true)⟩,
    ⟨some 47,.load false 1 (.t 46),some (45,true)⟩,
    ⟨some 48,.bin .eql (.t 47) (.c (.one (.int .i32 0))),some (45,true)⟩,
    ⟨some 49,.pick (.t 45) (.t 48) (.c (.one (.bool false))),none⟩,
    ⟨some 5,.mov (.t 49),none⟩]
def f223_13:List AI:=[⟨some 51,.bin .eql (.t 21) (.c (.one (.int .i64 3))),none⟩,
    ⟨some 50,.mov (.t 51),none⟩]
def f223_14:List AI:=[⟨some 52,.mov (.t 5),none⟩,
    ⟨some 53,.mov (.t 52),none⟩,
    ⟨some 54,.faddr 1 (.t 4),some (53,true)⟩,
    ⟨some 55,.load false 1 (.t 54),some (53,true)⟩,
    ⟨some 56,.bin .eql (.t 55) (.c (.one (.int .i32 0))),some (53,true)⟩,
    ⟨some 57,.pick (.t 53) (.t 56) (.c (.one (.bool false))),none⟩,
    ⟨some 5,.mov (.t 57),none⟩]
def f223_15:List AI:=[⟨some 5,.mov (.c (.one (.bool false))),none⟩]
def f223_16:AC:=.cond (.t 50) (.reg f223_14) (.reg f223_15)
def f223_17:AC:=.seq (.reg f223_13) f223_16
def f223_18:AC:=.cond (.t 42) (.reg f223_12) f223_17
def f223_19:AC:=.seq (.reg f223_11) f223_18
def f223_20:AC:=.cond (.t 32) (.reg f223_10) f223_19
def f223_21:AC:=.seq (.reg f223_9) f223_20
def f223_22:AC:=.cond (.t 22) (.reg f223_8) f223_21
def f223_23:AC:=.seq (.reg f223_7) f223_22
def f223_24:AC:=.block 2 f223_23
def f223_25:AC:=.seq (.reg f223_6) f223_24
def f223_26:List AI:=[⟨some 58,.mov (.t 5),none⟩,
    ⟨some 59,.un .not (.t 58),none⟩]
def f223_27:List AI:=[⟨some 2,.mov (.c (.one (.int .i64 7))),none⟩]
def f223_28:AC:=.seq (.reg f223_27) .ret
def f223_29:AC:=.cond (.t 59) f223_28 .skip
def f223_30:AC:=.seq (.reg f223_26) f223_29
def f223_31:AC:=.seq f223_25 f223_30
def f223_32:AC:=.seq (.reg f223_5) f223_31
def f223_33:AC:=.seq (.reg f223_4) f223_32
def f223_34:AC:=.block 1 f223_33
def f223_35:List AI:=[⟨some 60,.bin .add (.t 8) (.c (.one (.int .i64 1))),none⟩,
    ⟨some 8,.mov (.t 60),none⟩]
def f223_36:AC:=.seq f223_34 (.reg f223_35)
def f223_37:AC:=.seq f223_3 f223_36
def f223_38:AC:=.seq (.reg f223_2) f223_37
def f223_39:AC:=.loop f223_38
def f223_40:AC:=.block 0 f223_39
def f223_41:AC:=.seq (.reg f223_1) f223_40
def f223_42:List AI:=[⟨some 2,.mov (.c (.one (.int .i64 0))),none⟩]
def f223_43:AC:=.seq (.reg f223_42) .ret
def f223_44:AC:=.seq f223_41 f223_43
def f223_45:AC:=.seq (.reg f223_0) f223_44
def f223B:AC:=f223_45
def f223:AF:=⟨1,61,[(.t 2)],f223B⟩
def f225_0:List AI:=[⟨some 0,.mov (.c (.one (.bool false))),none⟩]
def f225_1:List AI:=[⟨some 4,.call (.c (.one (.fn 226 []))) [(.c (.one (.str [97,114,110]))),(.c (.one (.str [97,109])))],none⟩,
    ⟨some 3,.mov (.t 4),none⟩,
    ⟨some 5,.ext (.t 3) 0,none⟩,
    ⟨some 6,.ext (.t 3) 1,none⟩,
    ⟨some 1,.mov (.t 5),none⟩,
    ⟨some 2,.mov (.t 6),none⟩]
def f225_2:List AI:=[⟨some 7,.mov (.t 1),none⟩,
    ⟨some 8,.len .slc (.t 7),none⟩,
    ⟨some 9,.bin .eql (.t 8) (.c (.one (.int .i64 1))),none⟩,
    ⟨some 10,.mov (.t 9),none⟩,
    ⟨some 11,.mov (.t 1),some (10,true)⟩,
    ⟨some 12,.iaddr 3 (.t 11) (.c (.one (.int .i64 0))),some (10,true)⟩,
    ⟨some 13,.load true 3 (.t 12),some (10,true)⟩,
    ⟨some 14,.build [(.str []),(.str []),(.int .i64 0)] [(0,(1,(.c (.one (.str [114,110]))))),(1,(1,(.c (.one (.str [109]))))),(2,(1,(.c (.one (.int .i64 1)))))],some (10,true)⟩,
    ⟨some 15,.eqv (.cells [.str,.str,(.int .i64)]) false (.t 13) (.t 14),some (10,true)⟩,
    ⟨some 16,.pick (.t 10) (.t 15) (.c (.one (.bool false))),none⟩,
    ⟨some 17,.mov (.t 16),none⟩,
    ⟨some 18,.mov (.t 2),some (17,true)⟩,
    ⟨some 19,.bin .eql (.t 18) (.c (.one (.int .i64 0))),some (17,true)⟩,
    ⟨some 20,.pick (.t 17) (.t 19) (.c (.one (.bool false))),none⟩,
    ⟨some 21,.mov (.t 20),none⟩,
    ⟨some 22,.build [(.str []),(.str []),(.int .i64 0)] [(0,(1,(.c (.one (.str [97])))))],some (21,true)⟩,
    ⟨some 23,.build [(.str []),(.str []),(.int .i64 0)] [(0,(1,(.c (.one (.str [98])))))],some (21,true)⟩,
    ⟨some 24,.call (.c (.one (.fn 230 []))) [(.t 22),(.t 23)],some (21,true)⟩,
    ⟨some 25,.pick (.t 21) (.t 24) (.c (.one (.bool false))),none⟩,
    ⟨some 0,.mov (.t 25),none⟩]
def f225_3:AC:=.seq (.reg f225_2) .ret
def f225_4:AC:=.seq (.reg f225_1) f225_3
def f225_5:AC:=.seq (.reg f225_0) f225_4
def f225B:AC:=f225_5
def f225:AF:=⟨0,26,[(.t 0)],f225B⟩
def f226_0:List AI:=[⟨some 4,.mov (.c (.one .nils)),none⟩,
    ⟨some 5,.mov (.c (.one (.int .i64 0))),none⟩]
def f226_1:List AI:=[⟨some 9,.mov (.t 0),none⟩,
    ⟨some 10,.mov (.t 1),none⟩,
    ⟨some 11,.call (.c (.one (.fn 214 []))) [(.t 9),(.t 10)],none⟩,
    ⟨some 8,.mov (.t 11),none⟩,
    ⟨some 12,.ext (.t 8) 0,none⟩,
    ⟨some 13,.ext (.t 8) 1,none⟩,
    ⟨some 6,.mov (.t 12),none⟩,
    ⟨some 7,.mov (.t 13),none⟩]
def f226_2:List AI:=[⟨some 14,.mov (.t 7),none⟩,
    ⟨some 15,.bin .neq (.t 14) (.c (.one (.int .i64 0))),none⟩]
def f226_3:List AI:=[⟨some 16,.mov (.t 7),none⟩,
    ⟨some 4,.mov (.c (.one .nils)),none⟩,
    ⟨some 5,.mov (.t 16),none⟩]
def f226_4:AC:=.seq (.reg f226_3) .ret
def f226_5:AC:=.cond (.t 15) f226_4 .skip
def f226_6:AC:=.seq (.reg f226_2) f226_5
def f226_7:List AI:=[⟨some 17,.mov (.t 6),none⟩,
    ⟨some 18,.call (.c (.one (.fn 229 []))) [(.t 17)],none⟩,
    ⟨some 19,.ext (.t 18) 0,none⟩,
    ⟨some 20,.ext (.t 18) 1,none⟩,
    ⟨some 4,.mov (.t 19),none⟩,
    ⟨some 5,.mov (.t 20),none⟩]
def f226_8:AC:=.seq (.reg f226_7) .ret
def f226_9:AC:=.seq f226_6 f226_8
def f226_10:AC:=.seq (.reg f226_1) f226_9
def f226_11:AC:=.seq (.reg f226_0) f226_10
def f226B:AC:=f226_11
def f226:AF:=⟨2,21,[(.t 4),(.t 5)],f226B⟩
def f227_0:List AI:=[⟨some 4,.mov (.c (.one .nils)),none⟩,
    ⟨some 5,.mov (.c (.one (.int .i64 0))),none⟩]
def f227_1:List AI:=[⟨some 9,.mov (.t 0),none⟩,
    ⟨some 10,.mov (.t 1),none⟩,
    ⟨some 11,.call (.c (.one (.fn 215 []))) [(.t 9),(.t 10)],none⟩,
    ⟨some 8,.mov (.t 11),none⟩,
    ⟨some 12,.ext (.t 8) 0,none⟩,
    ⟨some 13,.ext (.t 8) 1,none⟩,
    ⟨some 6,.mov (.t 12),none⟩,
    ⟨some 7,.mov (.t 13),none⟩]
def f227_2:List AI:=[⟨some 14,.mov (.t 7),none⟩,
    ⟨some 15,.bin .neq (.t 14) (.c (.one (.int .i64 0))),none⟩]
def f227_3:List AI:=[⟨some 16,.mov (.t 7),none⟩,
    ⟨some 4,.mov (.c (.one .nils)),none⟩,
    ⟨some 5,.mov (.t 16),none⟩]
def f227_4:AC:=.seq (.reg f227_3) .ret
def f227_5:AC:=.cond (.t 15) f227_4 .skip
def f227_6:AC:=.seq (.reg f227_2) f227_5
def f227_7:List AI:=[⟨some 17,.mov (.t 6),none⟩,
    ⟨some 18,.call (.c (.one (.fn 231 []))) [(.t 17)],none⟩,
    ⟨some 19,.ext (.t 18) 0,none⟩,
    ⟨some 20,.ext (.t 18) 1,none⟩,
    ⟨some 4,.mov (.t 19),none⟩,
    ⟨some 5,.mov (.t 20),none⟩]
def f227_8:AC:=.seq (.reg f227_7) .ret
def f227_9:AC:=.seq f227_6 f227_8
def f227_10:AC:=.seq (.reg f227_1) f227_9
def f227_11:AC:=.seq (.reg f227_0) f227_10
def f227B:AC:=f227_11
def f227:AF:=⟨2,21,[(.t 4),(.t 5)],f227B⟩
def f228_0:List AI:=[⟨some 4,.mov (.c (.one (.bool false))),none⟩]
def f228_1:List AI:=[⟨some 6,.mov (.t 0),none⟩,
    ⟨some 7,.len .slc (.t 6),none⟩,
    ⟨some 8,.mov (.t 1),none⟩,
    ⟨some 9,.len .slc (.t 8),none⟩,
    ⟨some 10,.bin .neq (.t 7) (.t 9),none⟩]
def f228_2:List AI:=[⟨some 4,.mov (.c (.one (.bool false))),none⟩]
def f228_3:AC:=.seq (.reg f228_2) .ret
def f228_4:AC:=.cond (.t 10) f228_3 .skip
def f228_5:AC:=.seq (.reg f228_1) f228_4
def f228_6:List AI:=[⟨some 11,.mov (.t 0),none⟩,
    ⟨some 12,.len .slc (.t 11),none⟩,
    ⟨some 13,.mov (.c (.one (.int .i64 0))),none⟩]
def f228_7:List AI:=[⟨some 14,.bin .lss (.t 13) (.t 12),none⟩]
def f228_8:AC:=.cond (.t 14) .skip (.exit 0)
def f228_9:List AI:=[⟨some 15,.mov (.t 13),none⟩,
    ⟨some 5,.mov (.t 15),none⟩]
def f228_10:List AI:=[⟨some 16,.mov (.t 0),none⟩,
    ⟨some 17,.mov (.t 5),none⟩,
    ⟨some 18,.iaddr 3 (.t 16) (.t 17),none⟩,
    ⟨some 19,.load true 3 (.t 18),none⟩,
    ⟨some 20,.mov (.t 1),none⟩,
    ⟨some 21,.mov (.t 5),none⟩,
    ⟨some 22,.iaddr 3 (.t 20) (.t 21),none⟩,
    ⟨some 23,.load true 3 (.t 22),none⟩,
    ⟨some 24,.eqv (.cells [.str,.str,(.int .i64)]) true (.t 19) (.t 23),none⟩]
def f228_11:List AI:=[⟨some 4,.mov (.c (.one (.bool false))),none⟩]
def f228_12:AC:=.seq (.reg f228_11) .ret
def f228_13:AC:=.cond (.t 24) f228_12 .skip
def f228_14:AC:=.seq (.dreg f228_10) f228_13
def f228_15:AC:=.seq (.reg f228_9) f228_14
def f228_16:AC:=.block 1 f228_15
def f228_17:List AI:=[⟨some 25,.bin .add (.t 13) (.c (.one (.int .i64 1))),none⟩,
    ⟨some 13,.mov (.t 25),none⟩]
def f228_18:AC:=.seq f228_16 (.reg f228_17)
def f228_19:AC:=.seq f228_8 f228_18
def f228_20:AC:=.seq (.reg f228_7) f228_19
def f228_21:AC:=.loop f228_20
def f228_22:AC:=.block 0 f228_21
def f228_23:AC:=.seq (.reg f228_6) f228_22
def f228_24:List AI:=[⟨some 4,.mov (.c (.one (.bool true))),none⟩]
def f228_25:AC:=.seq (.reg f228_24) .ret
def f228_26:AC:=.seq f228_23 f228_25
def f228_27:AC:=.seq f228_5 f228_26
def f228_28:AC:=.seq (.reg f228_0) f228_27
def f228B:AC:=f228_28
def f228:AF:=⟨2,26,[(.t 4)],f228B⟩
def f229_0:List AI:=[⟨some 2,.new [.nils],none⟩,
    ⟨some 3,.mov (.c (.one (.int .i64 0))),none⟩]
def f229_1:List AI:=[⟨some 8,.mov (.t 0),none⟩,
    ⟨some 9,.call (.c (.one (.fn 222 []))) [(.t 8)],none⟩,
    ⟨some 4,.mov (.t 9),none⟩]
def f229_2:List AI:=[⟨some 10,.mov (.t 4),none⟩,
    ⟨some 11,.bin .neq (.t 10) (.c (.one (.int .i64 0))),none⟩]
def f229_3:List AI:=[⟨some 12,.mov (.t 4),none⟩,
    ⟨none,.store 1 (.t 2) (.c (.one .nils)),none⟩,
    ⟨some 3,.mov (.t 12),none⟩]
def f229_4:AC:=.seq (.reg f229_3) .ret
def f229_5:AC:=.cond (.t 11) f229_4 .skip
def f229_6:AC:=.seq (.reg f229_2) f229_5
def f229_7:AC:=.seq (.reg f229_1) f229_6
def f229_8:List AI:=[⟨some 13,.mov (.t 0),none⟩,
    ⟨some 14,.call (.c (.one (.fn 249 []))) [(.t 13)],none⟩]
def f229_9:List AI:=[⟨some 5,.mov (.t 15),none⟩]
def f229_10:List AI:=[⟨some 17,.mov (.t 5),none⟩,
    ⟨some 18,.call (.c (.one (.fn 250 []))) [(.t 17)],none⟩,
    ⟨some 16,.mov (.t 18),none⟩,
    ⟨some 19,.ext (.t 16) 0,none⟩,
    ⟨some 20,.ext (.t 16) 1,none⟩,
    ⟨some 6,.new [(.str []),(.str []),(.int .i64 0)],none⟩,
    ⟨none,.store 3 (.t 6) (.t 19),none⟩,
    ⟨some 7,.mov (.t 20),none⟩]
def f229_11:List AI:=[⟨some 21,.mov (.t 7),none⟩,
    ⟨some 22,.un .not (.t 21),none⟩,
    ⟨some 23,.mov (.t 22),none⟩,
    ⟨some 24,.faddr 0 (.t 6),some (23,true)⟩,
    ⟨some 25,.load false 1 (.t 24),some (23,true)⟩,
    ⟨some 26,.faddr 1 (.t 6),some (23,true)⟩,
    ⟨some 27,.load false 1 (.t 26),some (23,true)⟩,
    ⟨some 28,.bin .neq (.t 25) (.t 27),some (23,true)⟩,
    ⟨some 29,.pick (.t 23) (.t 28) (.c (.one (.bool false))),none⟩]
def f229_12:List AI:=[⟨some 30,.load false 1 (.t 2),none⟩,
    ⟨some 31,.load true 3 (.t 6),none⟩,
    ⟨some 32,.rowLit 3 [(.str []),(.str []),(.int .i64 0)] 1 [(0,(.t 31))],none⟩,
    ⟨some 33,.app 3 40 (.t 30) (.t 32),none⟩,
    ⟨none,.store 1 (.t 2) (.t 33),none⟩]
def f229_13:AC:=.cond (.t 29) (.reg f229_12) .skip
def f229_14:AC:=.seq (.reg f229_11) f229_13
def f229_15:AC:=.seq (.reg f229_10) f229_14
def f229_16:AC:=.block 1 f229_15
def f229_17:AC:=.rangeF (.t 14) [15] (.reg f229_9) f229_16
def f229_18:AC:=.block 0 f229_17
def f229_19:AC:=.seq (.reg f229_8) f229_18
def f229_20:List AI:=[⟨some 34,.load false 1 (.t 2),none⟩,
    ⟨none,.store 1 (.t 2) (.t 34),none⟩,
    ⟨some 3,.mov (.c (.one (.int .i64 0))),none⟩]
def f229_21:AC:=.seq (.reg f229_20) .ret
def f229_22:AC:=.seq f229_19 f229_21
def f229_23:AC:=.seq f229_7 f229_22
def f229_24:AC:=.seq (.reg f229_0) f229_23
def f229B:AC:=f229_24
def f229:AF:=⟨1,35,[(.cell 2 false 1),(.t 3)],f229B⟩
def f230_0:List AI:=[⟨some 2,.box (.t 0),none⟩,
    ⟨some 3,.box (.t 1),none⟩,
    ⟨some 4,.mov (.c (.one (.bool false))),none⟩]
def f230_1:List AI:=[⟨some 5,.faddr 0 (.t 2),none⟩,
    ⟨some 6,.load false 1 (.t 5),none⟩,
    ⟨some 7,.faddr 0 (.t 3),none⟩,
    ⟨some 8,.load false 1 (.t 7),none⟩,
    ⟨some 9,.call (.c (.one (.fn 252 []))) [(.t 6),(.t 8)],none⟩,
    ⟨some 10,.faddr 1 (.t 2),none⟩,
    ⟨some 11,.load false 1 (.t 10),none⟩,
    ⟨some 12,.faddr 1 (.t 3),none⟩,
    ⟨some 13,.load false 1 (.t 12),none⟩,
    ⟨some 14,.call (.c (.one (.fn 252 []))) [(.t 11),(.t 13)],none⟩,
    ⟨some 15,.rowLit 1 [(.int .i64 0)] 2 [(0,(.t 9)),(1,(.t 14))],none⟩,
    ⟨some 16,.call (.c (.one (.fn 251 []))) [(.t 15)],none⟩,
    ⟨some 17,.bin .lss (.t 16) (.c (.one (.int .i64 0))),none⟩,
    ⟨some 4,.mov (.t 17),none⟩]
def f230_2:AC:=.seq (.dreg f230_1) .ret
def f230_3:AC:=.seq (.reg f230_0) f230_2
def f230B:AC:=f230_3
def f230:AF:=⟨2,18,[(.t 4)],f230B⟩
def f231_0:List AI:=[⟨some 2,.mov (.c (.one .nils)),none⟩,
    ⟨some 3,.mov (.c (.one (.int .i64 0))),none⟩]
def f231_1:List AI:=[⟨some 11,.mov (.t 0),none⟩,
    ⟨some 12,.call (.c (.one (.fn 223 []))) [(.t 11)],none⟩,
    ⟨some 4,.mov (.t 12),none⟩]
def f231_2:List AI:=[⟨some 13,.mov (.t 4),none⟩,
    ⟨some 14,.bin .neq (.t 13) (.c (.one (.int .i64 0))),none⟩]
def f231_3:List AI:=[⟨some 15,.mov (.t 4),none⟩,
    ⟨some 2,.mov (.c (.one .nils)),none⟩,
    ⟨some 3,.mov (.t 15),none⟩]
def f231_4:AC:=.seq (.reg f231_3) .ret
def f231_5:AC:=.cond (.t 14) f231_4 .skip
def f231_6:AC:=.seq (.reg f231_2) f231_5
def f231_7:AC:=.seq (.reg f231_1) f231_6
def f231_8:List AI:=[⟨some 5,.mov (.c (.one .nils)),none⟩]
def f231_9:List AI:=[⟨some 16,.mov (.t 0),none⟩,
    ⟨some 17,.call (.c (.one (.fn 253 []))) [(.t 16)],none⟩,
    ⟨some 18,.len .slc (.t 17),none⟩,
    ⟨some 19,.mov (.c (.one (.int .i64 0))),none⟩]
def f231_10:List AI:=[⟨some 20,.bin .lss (.t 19) (.t 18),none⟩]
def f231_11:AC:=.cond (.t 20) .skip (.exit 0)
def f231_12:List AI:=[⟨some 21,.iaddr 1 (.t 17) (.t 19),none⟩,
    ⟨some 22,.load false 1 (.t 21),none⟩,
    ⟨some 7,.mov (.t 22),none⟩]
def f231_13:List AI:=[⟨some 24,.mov (.t 7),none⟩,
    ⟨some 25,.call (.c (.one (.fn 221 []))) [(.t 24)],none⟩,
    ⟨some 23,.mov (.t 25),none⟩,
    ⟨some 26,.ext (.t 23) 0,none⟩,
    ⟨some 27,.ext (.t 23) 1,none⟩,
    ⟨some 28,.ext (.t 23) 2,none⟩,
    ⟨some 8,.mov (.t 26),none⟩,
    ⟨some 9,.mov (.t 27),none⟩,
    ⟨some 10,.mov (.t 28),none⟩]
def f231_14:List AI:=[⟨some 29,.mov (.t 8),none⟩,
    ⟨some 30,.call (.c (.one (.fn 254 []))) [(.t 29)],none⟩,
    ⟨some 31,.bin .leq (.t 30) (.c (.one (.int .i64 3))),none⟩,
    ⟨some 32,.mov (.t 31),none⟩,
    ⟨some 33,.mov (.t 9),some (32,true)⟩,
    ⟨some 34,.call (.c (.one (.fn 254 []))) [(.t 33)],some (32,true)⟩,
    ⟨some 35,.bin .leq (.t 34) (.c (.one (.int .i64 3))),some (32,true)⟩,
    ⟨some 36,.pick (.t 32) (.t 35) (.c (.one (.bool false))),none⟩,
    ⟨some 37,.mov (.t 36),none⟩,
    ⟨some 38,.mov (.t 8),some (37,true)⟩,
    ⟨some 39,.mov (.t 9),some (37,true)⟩,
    ⟨some 40,.bin .neq (.t 38) (.t 39),some (37,true)⟩,
    ⟨some 41,.pick (.t 37) (.t 40) (.c (.one (.bool false))),none⟩]
def f231_15:List AI:=[⟨some 42,.mov (.t 5),none⟩,
    ⟨some 43,.mov (.t 8),none⟩,
    ⟨some 44,.mov (.t 9),none⟩,
    ⟨some 45,.build [(.str []),(.str []),(.int .i64 0)] [(0,(1,(.t 43))),(1,(1,(.t 44))),(2,(1,(.c (.one (.int .i64 1)))))],none⟩,
    ⟨some 46,.rowLit 3 [(.str []),(.str []),(.int .i64 0)] 1 [(0,(.t 45))],none⟩,
    ⟨some 47,.app 3 40 (.t 42) (.t 46),none⟩,
    ⟨some 5,.mov (.t 47),none⟩]
def f231_16:AC:=.cond (.t 41) (.reg f231_15) .skip
def f231_17:AC:=.seq (.reg f231_14) f231_16
def f231_18:AC:=.seq (.reg f231_13) f231_17
def f231_19:AC:=.seq (.reg f231_12) f231_18
def f231_20:AC:=.block 1 f231_19
def f231_21:List AI:=[⟨some 48,.bin .add (.t 19) (.c (.one (.int .i64 1))),none⟩,
    ⟨some 19,.mov (.t 48),none⟩]
def f231_22:AC:=.seq f231_20 (.reg f231_21)
def f231_23:AC:=.seq f231_11 f231_22
def f231_24:AC:=.seq (.reg f231_10) f231_23
def f231_25:AC:=.loop f231_24
def f231_26:AC:=.block 0 f231_25
def f231_27:AC:=.seq (.reg f231_9) f231_26
def f231_28:List AI:=[⟨some 49,.mov (.t 5),none⟩,
    ⟨some 2,.mov (.t 49),none⟩,
    ⟨some 3,.mov (.c (.one (.int .i64 0))),none⟩]
def f231_29:AC:=.seq (.reg f231_28) .ret
def f231_30:AC:=.seq f231_27 f231_29
def f231_31:AC:=.seq (.reg f231_8) f231_30
def f231_32:AC:=.seq f231_7 f231_31
def f231_33:AC:=.seq (.reg f231_0) f231_32
def f231B:AC:=f231_33
def f231:AF:=⟨1,50,[(.t 2),(.t 3)],f231B⟩
def f237_0:List AI:=[⟨some 4,.mov (.c (.one .nilp)),none⟩,
    ⟨some 5,.mov (.c (.one (.int .i64 0))),none⟩]
def f237_1:List AI:=[⟨some 14,.mov (.t 0),none⟩,
    ⟨some 15,.call (.c (.one (.fn 20 []))) [(.t 14)],none⟩,
    ⟨some 13,.mov (.t 15),none⟩,
    ⟨some 16,.ext (.t 13) 0,none⟩,
    ⟨some 17,.ext (.t 13) 1,none⟩,
    ⟨some 6,.mov (.t 16),none⟩,
    ⟨some 7,.mov (.t 17),none⟩]
def f237_2:List AI:=[⟨some 18,.mov (.t 7),none⟩,
    ⟨some 19,.bin .neq (.t 18) (.c (.one (.int .i64 0))),none⟩]
def f237_3:List AI:=[⟨some 20,.mov (.t 7),none⟩,
    ⟨some 4,.mov (.c (.one .nilp)),none⟩,
    ⟨some 5,.mov (.t 20),none⟩]
def f237_4:AC:=.seq (.reg f237_3) .ret
def f237_5:AC:=.cond (.t 19) f237_4 .skip
def f237_6:AC:=.seq (.reg f237_2) f237_5
def f237_7:List AI:=[⟨some 22,.mov (.t 1),none⟩,
    ⟨some 23,.call (.c (.one (.fn 20 []))) [(.t 22)],none⟩,
    ⟨some 21,.mov (.t 23),none⟩,
    ⟨some 24,.ext (.t 21) 0,none⟩,
    ⟨some 25,.ext (.t 21) 1,none⟩,
    ⟨some 8,.mov (.t 24),none⟩,
    ⟨some 7,.mov (.t 25),none⟩]
def f237_8:List AI:=[⟨some 26,.mov (.t 7),none⟩,
    ⟨some 27,.bin .neq (.t 26) (.c (.one (.int .i64 0))),none⟩]
def f237_9:List AI:=[⟨some 28,.mov (.t 7),none⟩,
    ⟨some 4,.mov (.c (.one .nilp)),none⟩,
    ⟨some 5,.mov (.t 28),none⟩]
def f237_10:AC:=.seq (.reg f237_9) .ret
def f237_11:AC:=.cond (.t 27) f237_10 .skip
def f237_12:AC:=.seq (.reg f237_8) f237_11
def f237_13:List AI:=[⟨some 29,.mov (.t 6),none⟩,
    ⟨some 30,.mov (.t 8),none⟩,
    ⟨some 31,.build [.nils,.nils,.nils,.nils] [(0,(1,(.t 29))),(1,(1,(.t 30)))],none⟩,
    ⟨some 32,.box (.t 31),none⟩,
    ⟨some 9,.mov (.t 32),none⟩]
def f237_14:List AI:=[⟨some 33,.mov (.t 6),none⟩,
    ⟨some 34,.len .slc (.t 33),none⟩,
    ⟨some 35,.bin .add (.t 34) (.c (.one (.int .i64 1))),none⟩,
    ⟨some 36,.mov (.t 8),none⟩,
    ⟨some 37,.len .slc (.t 36),none⟩,
    ⟨some 38,.bin .add (.t 37) (.c (.one (.int .i64 1))),none⟩,
    ⟨some 39,.bin .mul (.t 35) (.t 38),none⟩,
    ⟨some 10,.mov (.t 39),none⟩]
def f237_15 : List (List AI) := [[⟨some 40, .mov (.t 9), none⟩,
      ⟨some 41,.mov (.t 9),none⟩,
      ⟨some 42,.mov (.t 10),none⟩,
      ⟨some 43,.mksl 1 [(.int .u8 0)] 1 (.t 42) (.t 42),none⟩,
      ⟨some 44,.mov (.t 10),none⟩,
      ⟨some 45,.mksl 1 [(.int .u8 0)] 1 (.t 44) (.t 44),none⟩,
      ⟨some 46,.nilck (.t 40),none⟩,
      ⟨some 47,.faddr 2 (.t 46),none⟩,
      ⟨none,.store 1 (.t 47) (.t 43),none⟩,
      ⟨some 48,.nilck (.t 41),none⟩,
      ⟨some 49,.faddr 3 (.t 48),none⟩,
      ⟨none,.store 1 (.t 49) (.t 45),none⟩],[⟨some 40,.mov (.t 9),none⟩,
      ⟨some 41,.mov (.t 9),none⟩,
      ⟨some 42,.mov (.t 10),none⟩,
      ⟨some 44,.mov (.t 10),none⟩,
      ⟨some 45,.mksl 1 [(.int .u8 0)] 1 (.t 44) (.t 44),none⟩,
      ⟨some 43,.mksl 1 [(.int .u8 0)] 1 (.t 42) (.t 42),none⟩,
      ⟨some 46,.nilck (.t 40),none⟩,
      ⟨some 47,.faddr 2 (.t 46),none⟩,
      ⟨none,.store 1 (.t 47) (.t 43),none⟩,
      ⟨some 48,.nilck (.t 41),none⟩,
      ⟨some 49,.faddr 3 (.t 48),none⟩,
      ⟨none,.store 1 (.t 49) (.t 45),none⟩],[⟨some 40,.mov (.t 9),none⟩,
      ⟨some 41,.mov (.t 9),none⟩,
      ⟨some 42,.mov (.t 10),none⟩,
      ⟨some 43,.mksl 1 [(.int .u8 0)] 1 (.t 42) (.t 42),none⟩,
      ⟨some 44,.mov (.t 10),none⟩,
      ⟨some 46,.nilck (.t 40),none⟩,
      ⟨some 47,.faddr 2 (.t 46),none⟩,
      ⟨none,.store 1 (.t 47) (.t 43),none⟩,
      ⟨some 45,.mksl 1 [(.int .u8 0)] 1 (.t 44) (.t 44),none⟩,
      ⟨some 48,.nilck (.t 41),none⟩,
      ⟨some 49,.faddr 3 (.t 48),none⟩,
      ⟨none,.store 1 (.t 49) (.t 45),none⟩]]
def f237_16:List AI:=[⟨some 50,.mov (.t 6),none⟩,
    ⟨some 51,.len .slc (.t 50),none⟩,
    ⟨some 52,.bin .add (.t 51) (.c (.one (.int .i64 1))),none⟩,
    ⟨some 53,.mov (.c (.one (.int .i64 0))),none⟩]
def f237_17:List AI:=[⟨some 54,.bin .lss (.t 53) (.t 52),none⟩]
def f237_18:AC:=.cond (.t 54) .skip (.exit 0)
def f237_19:List AI:=[⟨some 55,.mov (.t 53),none⟩,
    ⟨some 11,.mov (.t 55),none⟩]
def f237_20:List AI:=[⟨some 56,.mov (.t 8),none⟩,
    ⟨some 57,.len .slc (.t 56),none⟩,
    ⟨some 58,.bin .add (.t 57) (.c (.one (.int .i64 1))),none⟩,
    ⟨some 59,.mov (.c (.one (.int .i64 0))),none⟩]
def f237_21:List AI:=[⟨some 60,.bin .lss (.t 59) (.t 58),none⟩]
def f237_22:AC:=.cond (.t 60) .skip (.exit 2)
def f237_23:List AI:=[⟨some 61,.mov (.t 59),none⟩,
    ⟨some 12,.mov (.t 61),none⟩]
def f237_24:List AI:=[⟨some 62,.mov (.t 11),none⟩,
    ⟨some 63,.mov (.t 12),none⟩,
    ⟨some 64,.bin .add (.t 62) (.t 63),none⟩,
    ⟨some 65,.bin .gtr (.t 64) (.c (.one (.int .i64 0))),none⟩]
def f237_25:List AI:=[⟨some 67,.mov (.t 9),none⟩,
    ⟨some 68,.nilck (.t 67),none⟩,
    ⟨some 69,.faddr 3 (.t 68),none⟩,
    ⟨some 70,.load false 1 (.t 69),none⟩,
    ⟨some 71,.mov (.t 9),none⟩,
    ⟨some 72,.mov (.t 11),none⟩,
    ⟨some 73,.mov (.t 12),none⟩,
    ⟨some 74,.call (.c (.one (.fn 256 []))) [(.t 71),(.t 72),(.t 73)],none⟩,
    ⟨some 75,.mov (.t 9),none⟩,
    ⟨some 76,.nilck (.t 75),none⟩,
    ⟨some 77,.faddr 2 (.t 76),none⟩,
    ⟨some 78,.load false 1 (.t 77),none⟩,
    ⟨some 79,.mov (.t 9),none⟩,
    ⟨some 80,.mov (.t 11),none⟩,
    ⟨some 81,.mov (.t 12),none⟩,
    ⟨some 82,.call (.c (.one (.fn 256 []))) [(.t 79),(.t 80),(.t 81)],none⟩,
    ⟨some 83,.mov (.t 9),none⟩,
    ⟨some 84,.mov (.t 11),none⟩,
    ⟨some 85,.mov (.t 12),none⟩,
    ⟨some 86,.call (.c (.one (.fn 255 []))) [(.t 83),(.t 84),(.t 85)],none⟩,
    ⟨some 66,.mov (.t 86),none⟩,
    ⟨some 87,.ext (.t 66) 0,none⟩,
    ⟨some 88,.ext (.t 66) 1,none⟩,
    ⟨some 89,.iaddr 1 (.t 70) (.t 74),none⟩,
    ⟨none,.store 1 (.t 89) (.t 87),none⟩,
    ⟨some 90,.iaddr 1 (.t 78) (.t 82),none⟩,
    ⟨none,.store 1 (.t 90) (.t 88),none⟩]
def f237_26:AC:=.cond (.t 65) (.dreg f237_25) .skip
def f237_27:AC:=.seq (.reg f237_24) f237_26
def f237_28:AC:=.seq (.reg f237_23) f237_27
def f237_29:AC:=.block 3 f237_28
def f237_30:List AI:=[⟨some 91,.bin .add (.t 59) (.c (.one (.int .i64 1))),none⟩,
    ⟨some 59,.mov (.t 91),none⟩]
def f237_31:AC:=.seq f237_29 (.reg f237_30)
def f237_32:AC:=.seq f237_22 f237_31
def f237_33:AC:=.seq (.reg f237_21) f237_32
def f237_34:AC:=.loop f237_33
def f237_35:AC:=.block 2 f237_34
def f237_36:AC:=.seq (.reg f237_20) f237_35
def f237_37:AC:=.seq (.reg f237_19) f237_36
def f237_38:AC:=.block 1 f237_37
def f237_39:List AI:=[⟨some 92,.bin .add (.t 53) (.c (.one (.int .i64 1))),none⟩,
    ⟨some 53,.mov (.t 92),none⟩]
def f237_40:AC:=.seq f237_38 (.reg f237_39)
def f237_41:AC:=.seq f237_18 f237_40
def f237_42:AC:=.seq (.reg f237_17) f237_41
def f237_43:AC:=.loop f237_42
def f237_44:AC:=.block 0 f237_43
def f237_45:AC:=.seq (.reg f237_16) f237_44
def f237_46:List AI:=[⟨some 93,.mov (.t 9),none⟩,
    ⟨some 4,.mov (.t 93),none⟩,
    ⟨some 5,.mov (.c (.one (.int .i64 0))),none⟩]
def f237_47:AC:=.seq (.reg f237_46) .ret
def f237_48:AC:=.seq f237_45 f237_47
def f237_49:AC:=.seq (.dalt f237_15) f237_48
def f237_50:AC:=.seq (.reg f237_14) f237_49
def f237_51:AC:=.seq (.reg f237_13) f237_50
def f237_52:AC:=.seq f237_12 f237_51
def f237_53:AC:=.seq (.reg f237_7) f237_52
def f237_54:AC:=.seq f237_6 f237_53
def f237_55:AC:=.seq (.reg f237_1) f237_54
def f237_56:AC:=.seq (.reg f237_0) f237_55
def f237B:AC:=f237_56
def f237:AF:=⟨2,94,[(.t 4),(.t 5)],f237B⟩
def f238_0:List AI:=[⟨some 2,.mov (.c (.one .nils)),none⟩]
def f238_1:List AI:=[⟨some 3,.mov (.t 0),none⟩,
    ⟨some 4,.call (.c (.one (.fn 257 []))) [(.c (.one .nils)),(.t 3)],none⟩,
    ⟨some 2,.mov (.t 4),none⟩]
def f238_2:AC:=.seq (.reg f238_1) .ret
def f238_3:AC:=.seq (.reg f238_0) f238_2
def f238B:AC:=f238_3
def f238:AF:=⟨1,5,[(.t 2)],f238B⟩
def f239_0:List AI:=[⟨some 1,.box (.t 0),none⟩,
    ⟨some 2,.mov (.c (.one .nilf)),none⟩]
def f239_1:List AI:=[⟨some 3,.mkfn 258 [(.t 1)],none⟩,
    ⟨some 2,.mov (.t 3),none⟩]
def f239_2:AC:=.seq (.reg f239_1) .ret
def f239_3:AC:=.seq (.reg f239_0) f239_2
def f239B:AC:=f239_3
def f239:AF:=⟨1,4,[(.t 2)],f239B⟩
def f240_0:List AI:=[⟨some 4,.mov (.t 0),none⟩,
    ⟨some 5,.len .slc (.t 4),none⟩,
    ⟨some 6,.bin .sub (.t 5) (.c (.one (.int .i64 1))),none⟩,
    ⟨some 2,.mov (.c (.one (.int .i64 0))),none⟩,
    ⟨some 3,.mov (.t 6),none⟩]
def f240_1:List AI:=[⟨some 7,.mov (.t 2),none⟩,
    ⟨some 8,.mov (.t 3),none⟩,
    ⟨some 9,.bin .lss (.t 7) (.t 8),none⟩]
def f240_2:AC:=.cond (.t 9) .skip (.exit 0)
def f240_3:AC:=.seq (.reg f240_1) f240_2
def f240_4:List AI:=[⟨some 14,.mov (.t 0),none⟩,
    ⟨some 15,.mov (.t 2),none⟩,
    ⟨some 16,.mov (.t 0),none⟩,
    ⟨some 17,.mov (.t 3),none⟩,
    ⟨some 18,.mov (.t 0),none⟩,
    ⟨some 19,.mov (.t 3),none⟩,
    ⟨some 20,.iaddr 3 (.t 18) (.t 19),none⟩,
    ⟨some 21,.load true 3 (.t 20),none⟩,
    ⟨some 22,.mov (.t 0),none⟩,
    ⟨some 23,.mov (.t 2),none⟩,
    ⟨some 24,.iaddr 3 (.t 22) (.t 23),none⟩,
    ⟨some 25,.load true 3 (.t 24),none⟩,
    ⟨some 26,.iaddr 3 (.t 14) (.t 15),none⟩,
    ⟨none,.store 3 (.t 26) (.t 21),none⟩,
    ⟨some 27,.iaddr 3 (.t 16) (.t 17),none⟩,
    ⟨none,.store 3 (.t 27) (.t 25),none⟩]
def f240_5:AC:=.block 1 (.dreg f240_4)
def f240_6:List AI:=[⟨some 10,.mov (.t 2),none⟩,
    ⟨some 11,.bin .add (.t 10) (.c (.one (.int .i64 1))),none⟩,
    ⟨some 12,.mov (.t 3),none⟩,
    ⟨some 13,.bin .sub (.t 12) (.c (.one (.int .i64 1))),none⟩,
    ⟨some 2,.mov (.t 11),none⟩,
    ⟨some 3,.mov (.t 13),none⟩]
def f240_7:AC:=.seq f240_5 (.reg f240_6)
def f240_8:AC:=.seq f240_3 f240_7
def f240_9:AC:=.loop f240_8
def f240_10:AC:=.block 0 f240_9
def f240_11:AC:=.seq (.reg f240_0) f240_10
def f240B:AC:=f240_11
def f240:AF:=⟨1,28,[],f240B⟩
def f241_0:List AI:=[⟨some 4,.mov (.c (.one .nils)),none⟩,
    ⟨some 5,.mov (.c (.one .nils)),none⟩,
    ⟨some 6,.mov (.c (.one (.int .i64 0))),none⟩]
def f241_1:List AI:=[⟨some 11,.mov (.t 0),none⟩,
    ⟨some 12,.call (.c (.one (.fn 21 []))) [(.t 11)],none⟩,
    ⟨some 10,.mov (.t 12),none⟩,
    ⟨some 13,.ext (.t 10) 0,none⟩,
    ⟨some 14,.ext (.t 10) 1,none⟩,
    ⟨some 7,.mov (.t 13),none⟩,
    ⟨some 8,.mov (.t 14),none⟩]
def f241_2:List AI:=[⟨some 15,.mov (.t 8),none⟩,
    ⟨some 16,.bin .neq (.t 15) (.c (.one (.int .i64 0))),none⟩]
def f241_3:List AI:=[⟨some 17,.mov (.t 8),none⟩,
    ⟨some 4,.mov (.c (.one .nils)),none⟩,
    ⟨some 5,.mov (.c (.one .nils)),none⟩,
    ⟨some 6,.mov (.t 17),none⟩]
def f241_4:AC:=.seq (.reg f241_3) .ret
def f241_5:AC:=.cond (.t 16) f241_4 .skip
def f241_6:AC:=.seq (.reg f241_2) f241_5
def f241_7:List AI:=[⟨some 19,.mov (.t 1),none⟩,
    ⟨some 20,.call (.c (.one (.fn 21 []))) [(.t 19)],none⟩,
    ⟨some 18,.mov (.t 20),none⟩,
    ⟨some 21,.ext (.t 18) 0,none⟩,
    ⟨some 22,.ext (.t 18) 1,none⟩,
    ⟨some 9,.mov (.t 21),none⟩,
    ⟨some 8,.mov (.t 22),none⟩]
def f241_8:List AI:=[⟨some 23,.mov (.t 7),none⟩,
    ⟨some 24,.mov (.t 9),none⟩,
    ⟨some 25,.mov (.t 8),none⟩,
    ⟨some 4,.mov (.t 23),none⟩,
    ⟨some 5,.mov (.t 24),none⟩,
    ⟨some 6,.mov (.t 25),none⟩]
def f241_9:AC:=.seq (.reg f241_8) .ret
def f241_10:AC:=.seq (.reg f241_7) f241_9
def f241_11:AC:=.seq f241_6 f241_10
def f241_12:AC:=.seq (.reg f241_1) f241_11
def f241_13:AC:=.seq (.reg f241_0) f241_12
def f241B:AC:=f241_13
def f241:AF:=⟨2,26,[(.t 4),(.t 5),(.t 6)],f241B⟩
def f242_0:List AI:=[⟨some 4,.mov (.c (.one .nils)),none⟩]
def f242_1:List AI:=[⟨some 9,.mov (.t 0),none⟩,
    ⟨some 10,.len .slc (.t 9),none⟩,
    ⟨some 11,.bin .add (.t 10) (.c (.one (.int .i64 1))),none⟩,
    ⟨some 12,.mksl 1 [.nils] 24 (.t 11) (.t 11),none⟩,
    ⟨some 5,.mov (.t 12),none⟩]
def f242_2:List AI:=[⟨some 13,.mov (.t 5),none⟩,
    ⟨some 14,.len .slc (.t 13),none⟩,
    ⟨some 15,.mov (.c (.one (.int .i64 0))),none⟩]
def f242_3:List AI:=[⟨some 16,.bin .lss (.t 15) (.t 14),none⟩]
def f242_4:AC:=.cond (.t 16) .skip (.exit 0)
def f242_5:List AI:=[⟨some 17,.mov (.t 15),none⟩,
    ⟨some 6,.mov (.t 17),none⟩]
def f242_6:List AI:=[⟨some 18,.mov (.t 5),none⟩,
    ⟨some 19,.mov (.t 6),none⟩,
    ⟨some 20,.mov (.t 1),none⟩,
    ⟨some 21,.len .slc (.t 20),none⟩,
    ⟨some 22,.bin .add (.t 21) (.c (.one (.int .i64 1))),none⟩,
    ⟨some 23,.mksl 1 [(.int .i64 0)] 8 (.t 22) (.t 22),none⟩,
    ⟨some 24,.iaddr 1 (.t 18) (.t 19),none⟩,
    ⟨none,.store 1 (.t 24) (.t 23),none⟩]
def f242_7:List AI:=[⟨some 25,.mov (.t 5),none⟩,
    ⟨some 26,.mov (.t 6),none⟩,
    ⟨some 27,.iaddr 1 (.t 25) (.t 26),none⟩,
    ⟨some 28,.load false 1 (.t 27),none⟩,
    ⟨some 29,.len .slc (.t 28),none⟩,
    ⟨some 30,.mov (.c (.one (.int .i64 0))),none⟩]
def f242_8:List AI:=[⟨some 31,.bin .lss (.t 30) (.t 29),none⟩]
def f242_9:AC:=.cond (.t 31) .skip (.exit 2)
def f242_10:List AI:=[⟨some 32,.mov (.t 30),none⟩,
    ⟨some 7,.mov (.t 32),none⟩]
def f242_11:List AI:=[⟨some 82,.mov (.t 6),none⟩,
    ⟨some 83,.bin .eql (.t 82) (.c (.one (.int .i64 0))),none⟩,
    ⟨some 81,.mov (.t 83),none⟩]
def f242_12:List AI:=[⟨some 84,.mov (.t 5),none⟩,
    ⟨some 85,.mov (.t 6),none⟩,
    ⟨some 86,.iaddr 1 (.t 84) (.t 85),none⟩,
    ⟨some 87,.load false 1 (.t 86),none⟩,
    ⟨some 88,.mov (.t 7),none⟩,
    ⟨some 89,.mov (.t 7),none⟩,
    ⟨some 90,.iaddr 1 (.t 87) (.t 88),none⟩,
    ⟨none,.store 1 (.t 90) (.t 89),none⟩]
def f242_13:List AI:=[⟨some 92,.mov (.t 7),none⟩,
    ⟨some 93,.bin .eql (.t 92) (.c (.one (.int .i64 0))),none⟩,
    ⟨some 91,.mov (.t 93),none⟩]
def f242_14:List AI:=[⟨some 94,.mov (.t 5),none⟩,
    ⟨some 95,.mov (.t 6),none⟩,
    ⟨some 96,.iaddr 1 (.t 94) (.t 95),none⟩,
    ⟨some 97,.load false 1 (.t 96),none⟩,
    ⟨some 98,.mov (.t 7),none⟩,
    ⟨some 99,.mov (.t 6),none⟩,
    ⟨some 100,.iaddr 1 (.t 97) (.t 98),none⟩,
    ⟨none,.store 1 (.t 100) (.t 99),none⟩]
def f242_15:List AI:=[⟨some 33,.mov (.t 5),none⟩,
    ⟨some 34,.mov (.t 6),none⟩,
    ⟨some 35,.bin .sub (.t 34) (.c (.one (.int .i64 1))),none⟩,
    ⟨some 36,.iaddr 1 (.t 33) (.t 35),none⟩,
    ⟨some 37,.load false 1 (.t 36),none⟩,
    ⟨some 38,.mov (.t 7),none⟩,
    ⟨some 39,.bin .sub (.t 38) (.c (.one (.int .i64 1))),none⟩,
    ⟨some 40,.iaddr 1 (.t 37) (.t 39),none⟩,
    ⟨some 41,.load false 1 (.t 40),none⟩,
    ⟨some 8,.mov (.t 41),none⟩]
def f242_16:List AI:=[⟨some 42,.mov (.t 0),none⟩,
    ⟨some 43,.mov (.t 6),none⟩,
    ⟨some 44,.bin .sub (.t 43) (.c (.one (.int .i64 1))),none⟩,
    ⟨some 45,.iaddr 1 (.t 42) (.t 44),none⟩,
    ⟨some 46,.load false 1 (.t 45),none⟩,
    ⟨some 47,.mov (.t 1),none⟩,
    ⟨some 48,.mov (.t 7),none⟩,
    ⟨some 49,.bin .sub (.t 48) (.c (.one (.int .i64 1))),none⟩,
    ⟨some 50,.iaddr 1 (.t 47) (.t 49),none⟩,
    ⟨some 51,.load false 1 (.t 50),none⟩,
    ⟨some 52,.bin .neq (.t 46) (.t 51),none⟩]
def f242_17:List AI:=[⟨some 53,.mov (.t 8),none⟩,
    ⟨some 54,.bin .add (.t 53) (.c (.one (.int .i64 1))),none⟩,
    ⟨some 8,.mov (.t 54),none⟩]
def f242_18:AC:=.cond (.t 52) (.reg f242_17) .skip
def f242_19:AC:=.seq (.dreg f242_16) f242_18
def f242_20:List AI:=[⟨some 55,.mov (.t 5),none⟩,
    ⟨some 56,.mov (.t 6),none⟩,
    ⟨some 57,.iaddr 1 (.t 55) (.t 56),none⟩,
    ⟨some 58,.load false 1 (.t 57),none⟩,
    ⟨some 59,.mov (.t 7),none⟩,
    ⟨some 60,.mov (.t 8),none⟩,
    ⟨some 61,.mov (.t 5),none⟩,
    ⟨some 62,.mov (.t 6),none⟩,
    ⟨some 63,.bin .sub (.t 62) (.c (.one (.int .i64 1))),none⟩,
    ⟨some 64,.iaddr 1 (.t 61) (.t 63),none⟩,
    ⟨some 65,.load false 1 (.t 64),none⟩,
    ⟨some 66,.mov (.t 7),none⟩,
    ⟨some 67,.iaddr 1 (.t 65) (.t 66),none⟩,
    ⟨some 68,.load false 1 (.t 67),none⟩,
    ⟨some 69,.bin .add (.t 68) (.c (.one (.int .i64 1))),none⟩,
    ⟨some 70,.mov (.t 5),none⟩,
    ⟨some 71,.mov (.t 6),none⟩,
    ⟨some 72,.iaddr 1 (.t 70) (.t 71),none⟩,
    ⟨some 73,.load false 1 (.t 72),none⟩,
    ⟨some 74,.mov (.t 7),none⟩,
    ⟨some 75,.bin .sub (.t 74) (.c (.one (.int .i64 1))),none⟩,
    ⟨some 76,.iaddr 1 (.t 73) (.t 75),none⟩,
    ⟨some 77,.load false 1 (.t 76),none⟩,
    ⟨some 78,.bin .add (.t 77) (.c (.one (.int .i64 1))),none⟩,
    ⟨some 79,.best false [(.t 60),(.t 69),(.t 78)],none⟩,
    ⟨some 80,.iaddr 1 (.t 58) (.t 59),none⟩,
    ⟨none,.store 1 (.t 80) (.t 79),none⟩]
def f242_21:AC:=.seq f242_19 (.dreg f242_20)
def f242_22:AC:=.seq (.reg f242_15) f242_21
def f242_23:AC:=.cond (.t 91) (.reg f242_14) f242_22
def f242_24:AC:=.seq (.reg f242_13) f242_23
def f242_25:AC:=.cond (.t 81) (.reg f242_12) f242_24
def f242_26:AC:=.seq (.reg f242_11) f242_25
def f242_27:AC:=.block 4 f242_26
def f242_28:AC:=.seq (.reg f242_10) f242_27
def f242_29:AC:=.block 3 f242_28
def f242_30:List AI:=[⟨some 101,.bin .add (.t 30) (.c (.one (.int .i64 1))),none⟩,
    ⟨some 30,.mov (.t 101),none⟩]
def f242_31:AC:=.seq f242_29 (.reg f242_30)
def f242_32:AC:=.seq f242_9 f242_31
def f242_33:AC:=.seq (.reg f242_8) f242_32
def f242_34:AC:=.loop f242_33
def f242_35:AC:=.block 2 f242_34
def f242_36:AC:=.seq (.reg f242_7) f242_35
def f242_37:AC:=.seq (.reg f242_6) f242_36
def f242_38:AC:=.seq (.reg f242_5) f242_37
def f242_39:AC:=.block 1 f242_38
def f242_40:List AI:=[⟨some 102,.bin .add (.t 15) (.c (.one (.int .i64 1))),none⟩,
    ⟨some 15,.mov (.t 102),none⟩]
def f242_41:AC:=.seq f242_39 (.reg f242_40)
def f242_42:AC:=.seq f242_4 f242_41
def f242_43:AC:=.seq (.reg f242_3) f242_42
def f242_44:AC:=.loop f242_43
def f242_45:AC:=.block 0 f242_44
def f242_46:AC:=.seq (.reg f242_2) f242_45
def f242_47:List AI:=[⟨some 103,.mov (.t 5),none⟩,
    ⟨some 4,.mov (.t 103),none⟩]
def f242_48:AC:=.seq (.reg f242_47) .ret
def f242_49:AC:=.seq f242_46 f242_48
def f242_50:AC:=.seq (.reg f242_1) f242_49
def f242_51:AC:=.seq (.reg f242_0) f242_50
def f242B:AC:=f242_51
def f242:AF:=⟨2,104,[(.t 4)],f242B⟩
def f246_0:List AI:=[⟨some 4,.mov (.c (.one (.bool false))),none⟩]
def f246_1:List AI:=[⟨some 5,.mov (.t 0),none⟩,
    ⟨some 6,.mov (.t 1),none⟩,
    ⟨some 7,.call (.c (.one (.fn 259 []))) [(.t 5),(.t 6)],none⟩,
    ⟨some 8,.bin .geq (.t 7) (.c (.one (.int .i64 0))),none⟩,
    ⟨some 4,.mov (.t 8),none⟩]
def f246_2:AC:=.seq (.reg f246_1) .ret
def f246_3:AC:=.seq (.reg f246_0) f246_2
def f246B:AC:=f246_3
def f246:AF:=⟨2,9,[(.t 4)],f246B⟩
def f247_0:List AI:=[⟨some 1,.box (.t 0),none⟩,
    ⟨some 2,.mov (.c (.one (.bool false))),none⟩]
def f247_1:List AI:=[⟨some 3,.load true 3 (.t 1),none⟩,
    ⟨some 4,.call (.c (.one (.fn 248 []))) [(.t 3)],none⟩,
    ⟨some 5,.un .not (.t 4),none⟩,
    ⟨some 2,.mov (.t 5),none⟩]
def f247_2:AC:=.seq (.reg f247_1) .ret
def f247_3:AC:=.seq (.reg f247_0) f247_2
def f247B:AC:=f247_3
def f247:AF:=⟨1,6,[(.t 2)],f247B⟩
def f248_0:List AI:=[⟨some 1,.box (.t 0),none⟩,
    ⟨some 2,.mov (.c (.one (.bool false))),none⟩]
def f248_1:List AI:=[⟨some 3,.faddr 1 (.t 1),none⟩,
    ⟨some 4,.load false 1 (.t 3),none⟩,
    ⟨some 5,.call (.c (.one (.fn 55 []))) [(.t 4)],none⟩,
    ⟨some 6,.un .not (.t 5),none⟩,
    ⟨some 7,.mov (.t 6),none⟩,
    ⟨some 8,.faddr 2 (.t 1),some (7,false)⟩,
    ⟨some 9,.load false 1 (.t 8),some (7,false)⟩,
    ⟨some 10,.call (.c (.one (.fn 55 []))) [(.t 9)],some (7,false)⟩,
    ⟨some 11,.un .not (.t 10),some (7,false)⟩,
    ⟨some 12,.pick (.t 7) (.c (.one (.bool true))) (.t 11),none⟩]
def f248_2:List AI:=[⟨some 2,.mov (.c (.one (.bool false))),none⟩]
def f248_3:AC:=.seq (.reg f248_2) .ret
def f248_4:AC:=.cond (.t 12) f248_3 .skip
def f248_5:AC:=.seq (.reg f248_1) f248_4
def f248_6:List AI:=[⟨some 13,.faddr 0 (.t 1),none⟩,
    ⟨some 14,.load false 1 (.t 13),none⟩]
def f248_7:List AI:=[⟨some 16,.bin .eql (.t 14) (.c (.one (.int .i64 0))),none⟩,
    ⟨some 15,.mov (.t 16),none⟩]
def f248_8:List AI:=[⟨some 17,.faddr 1 (.t 1),none⟩,
    ⟨some 18,.load false 1 (.t 17),none⟩,
    ⟨some 19,.faddr 2 (.t 1),none⟩,
    ⟨some 20,.load false 1 (.t 19),none⟩,
    ⟨some 21,.bin .eql (.t 18) (.t 20),none⟩,
    ⟨some 2,.mov (.t 21),none⟩]
def f248_9:AC:=.seq (.reg f248_8) .ret
def f248_10:List AI:=[⟨some 23,.bin .eql (.t 14) (.c (.one (.int .i64 1))),none⟩,
    ⟨some 22,.mov (.t 23),none⟩]
def f248_11:List AI:=[⟨some 24,.faddr 1 (.t 1),none⟩,
    ⟨some 25,.load false 1 (.t 24),none⟩,
    ⟨some 26,.faddr 2 (.t 1),none⟩,
    ⟨some 27,.load false 1 (.t 26),none⟩,
    ⟨some 28,.bin .neq (.t 25) (.t 27),none⟩,
    ⟨some 2,.mov (.t 28),none⟩]
def f248_12:AC:=.seq (.reg f248_11) .ret
def f248_13:List AI:=[⟨some 30,.bin .eql (.t 14) (.c (.one (.int .i64 2))),none⟩,
    ⟨some 29,.mov (.t 30),none⟩]
def f248_14:List AI:=[⟨some 31,.faddr 2 (.t 1),none⟩,
    ⟨some 32,.load false 1 (.t 31),none⟩,
    ⟨some 33,.bin .eql (.t 32) (.c (.one (.int .i32 0))),none⟩,
    ⟨some 2,.mov (.t 33),none⟩]
def f248_15:AC:=.seq (.reg f248_14) .ret
def f248_16:List AI:=[⟨some 35,.bin .eql (.t 14) (.c (.one (.int .i64 3))),none⟩,
    ⟨some 34,.mov (.t 35),none⟩]
def f248_17:List AI:=[⟨some 36,.faddr 1 (.t 1),none⟩,
    ⟨some 37,.load false 1 (.t 36),none⟩,
    ⟨some 38,.bin .eql (.t 37) (.c (.one (.int .i32 0))),none⟩,
    ⟨some 2,.mov (.t 38),none⟩]
def f248_18:AC:=.seq (.reg f248_17) .ret
def f248_19:AC:=.cond (.t 34) f248_18 .skip
def f248_20:AC:=.seq (.reg f248_16) f248_19
def f248_21:AC:=.cond (.t 29) f248_15 f248_20
def f248_22:AC:=.seq (.reg f248_13) f248_21
def f248_23:AC:=.cond (.t 22) f248_12 f248_22
def f248_24:AC:=.seq (.reg f248_10) f248_23
def f248_25:AC:=.cond (.t 15) f248_9 f248_24
def f248_26:AC:=.seq (.reg f248_7) f248_25
def f248_27:AC:=.block 0 f248_26
def f248_28:AC:=.seq (.reg f248_6) f248_27
def f248_29:List AI:=[⟨some 2,.mov (.c (.one (.bool false))),none⟩]
def f248_30:AC:=.seq (.reg f248_29) .ret
def f248_31:AC:=.seq f248_28 f248_30
def f248_32:AC:=.seq f248_5 f248_31
def f248_33:AC:=.seq (.reg f248_0) f248_32
def f248B:AC:=f248_33
def f248:AF:=⟨1,39,[(.t 2)],f248B⟩
def f249_0:List AI:=[⟨some 1,.box (.t 0),none⟩,
    ⟨some 2,.mov (.c (.one .nilf)),none⟩]
def f249_1:List AI:=[⟨some 3,.mkfn 260 [(.t 1)],none⟩,
    ⟨some 2,.mov (.t 3),none⟩]
def f249_2:AC:=.seq (.reg f249_1) .ret
def f249_3:AC:=.seq (.reg f249_0) f249_2
def f249B:AC:=f249_3
def f249:AF:=⟨1,4,[(.t 2)],f249B⟩
def f250_0:List AI:=[⟨some 2,.new [(.str []),(.str []),(.int .i64 0)],none⟩,
    ⟨some 3,.mov (.c (.one (.bool false))),none⟩]
def f250_1:List AI:=[⟨some 9,.mov (.t 0),none⟩,
    ⟨some 10,.call (.c (.one (.fn 220 []))) [(.t 9)],none⟩,
    ⟨some 8,.mov (.t 10),none⟩,
    ⟨some 11,.ext (.t 8) 0,none⟩,
    ⟨some 12,.ext (.t 8) 1,none⟩,
    ⟨some 13,.ext (.t 8) 2,none⟩,
    ⟨some 4,.mov (.t 11),none⟩,
    ⟨some 5,.mov (.t 12),none⟩,
    ⟨some 6,.mov (.t 13),none⟩]
def f250_2:List AI:=[⟨some 14,.mov (.t 4),none⟩,
    ⟨some 15,.call (.c (.one (.fn 43 []))) [(.t 14)],none⟩,
    ⟨some 16,.mov (.t 5),none⟩,
    ⟨some 17,.call (.c (.one (.fn 43 []))) [(.t 16)],none⟩,
    ⟨some 18,.best true [(.t 15),(.t 17)],none⟩,
    ⟨some 19,.bin .gtr (.t 18) (.c (.one (.int .i64 3))),none⟩,
    ⟨some 7,.mov (.t 19),none⟩]
def f250_3:List AI:=[⟨some 20,.mov (.t 4),none⟩,
    ⟨some 21,.mov (.t 5),none⟩,
    ⟨some 22,.build [(.str []),(.str []),(.int .i64 0)] [(0,(1,(.t 20))),(1,(1,(.t 21))),(2,(1,(.c (.one (.int .i64 1)))))],none⟩,
    ⟨some 23,.mov (.t 7),none⟩,
    ⟨none,.store 3 (.t 2) (.t 22),none⟩,
    ⟨some 3,.mov (.t 23),none⟩]
def f250_4:AC:=.seq (.reg f250_3) .ret
def f250_5:AC:=.seq (.reg f250_2) f250_4
def f250_6:AC:=.seq (.reg f250_1) f250_5
def f250_7:AC:=.seq (.reg f250_0) f250_6
def f250B:AC:=f250_7
def f250:AF:=⟨1,24,[(.cell 2 true 3),(.t 3)],f250B⟩
def f251_0:List AI:=[⟨some 2,.mov (.c (.one (.int .i64 0))),none⟩]
def f251_1:List AI:=[⟨some 3,.mov (.c (.one (.int .i64 0))),none⟩]
def f251_2:List AI:=[⟨some 6,.mov (.t 0),none⟩,
    ⟨some 7,.len .slc (.t 6),none⟩,
    ⟨some 8,.mov (.c (.one (.int .i64 0))),none⟩]
def f251_3:List AI:=[⟨some 9,.bin .lss (.t 8) (.t 7),none⟩]
def f251_4:AC:=.cond (.t 9) .skip (.exit 0)
def f251_5:List AI:=[⟨some 10,.iaddr 1 (.t 6) (.t 8),none⟩,
    ⟨some 11,.load false 1 (.t 10),none⟩,
    ⟨some 5,.mov (.t 11),none⟩]
def f251_6:List AI:=[⟨some 12,.mov (.t 5),none⟩,
    ⟨some 13,.mov (.t 3),none⟩,
    ⟨some 14,.bin .neq (.t 12) (.t 13),none⟩]
def f251_7:List AI:=[⟨some 15,.mov (.t 5),none⟩,
    ⟨some 2,.mov (.t 15),none⟩]
def f251_8:AC:=.seq (.reg f251_7) .ret
def f251_9:AC:=.cond (.t 14) f251_8 .skip
def f251_10:AC:=.seq (.reg f251_6) f251_9
def f251_11:AC:=.seq (.reg f251_5) f251_10
def f251_12:AC:=.block 1 f251_11
def f251_13:List AI:=[⟨some 16,.bin .add (.t 8) (.c (.one (.int .i64 1))),none⟩,
    ⟨some 8,.mov (.t 16),none⟩]
def f251_14:AC:=.seq f251_12 (.reg f251_13)
def f251_15:AC:=.seq f251_4 f251_14
def f251_16:AC:=.seq (.reg f251_3) f251_15
def f251_17:AC:=.loop f251_16
def f251_18:AC:=.block 0 f251_17
def f251_19:AC:=.seq (.reg f251_2) f251_18
def f251_20:List AI:=[⟨some 17,.mov (.t 3),none⟩,
    ⟨some 2,.mov (.t 17),none⟩]
def f251_21:AC:=.seq (.reg f251_20) .ret
def f251_22:AC:=.seq f251_19 f251_21
def f251_23:AC:=.seq (.reg f251_1) f251_22
def f251_24:AC:=.seq (.reg f251_0) f251_23
def f251B:AC:=f251_24
def f251:AF:=⟨1,18,[(.t 2)],f251B⟩
def f252_0:List AI:=[⟨some 4,.mov (.c (.one (.int .i64 0))),none⟩]
def f252_1:List AI:=[⟨some 7,.mov (.t 0),none⟩,
    ⟨some 8,.call (.c (.one (.fn 261 []))) [(.t 7)],none⟩,
    ⟨some 5,.mov (.t 8),none⟩]
def f252_2:List AI:=[⟨some 9,.mov (.t 1),none⟩,
    ⟨some 10,.call (.c (.one (.fn 261 []))) [(.t 9)],none⟩,
    ⟨some 6,.mov (.t 10),none⟩]
def f252_3:List AI:=[⟨some 11,.mov (.t 5),none⟩]
def f252_4:List AI:=[⟨some 12,.mov (.t 6),none⟩]
def f252_5:List AI:=[⟨some 4,.mov (.c (.one (.int .i64 0))),none⟩]
def f252_6:AC:=.seq (.reg f252_5) .ret
def f252_7:AC:=.cond (.t 12) f252_6 .skip
def f252_8:AC:=.seq (.reg f252_4) f252_7
def f252_9:List AI:=[⟨some 4,.mov (.c (.one (.int .i64 (-1)))),none⟩]
def f252_10:AC:=.seq (.reg f252_9) .ret
def f252_11:AC:=.seq f252_8 f252_10
def f252_12:AC:=.cond (.t 11) f252_11 .skip
def f252_13:AC:=.seq (.reg f252_3) f252_12
def f252_14:List AI:=[⟨some 13,.mov (.t 6),none⟩]
def f252_15:List AI:=[⟨some 4,.mov (.c (.one (.int .i64 1))),none⟩]
def f252_16:AC:=.seq (.reg f252_15) .ret
def f252_17:AC:=.cond (.t 13) f252_16 .skip
def f252_18:AC:=.seq (.reg f252_14) f252_17
def f252_19:List AI:=[⟨some 14,.mov (.t 0),none⟩,
    ⟨some 15,.mov (.t 1),none⟩,
    ⟨some 16,.bin .lss (.t 14) (.t 15),none⟩]
def f252_20:List AI:=[⟨some 4,.mov (.c (.one (.int .i64 (-1)))),none⟩]
def f252_21:AC:=.seq (.reg f252_20) .ret
def f252_22:AC:=.cond (.t 16) f252_21 .skip
def f252_23:AC:=.seq (.reg f252_19) f252_22
def f252_24:List AI:=[⟨some 17,.mov (.t 0),none⟩,
    ⟨some 18,.mov (.t 1),none⟩,
    ⟨some 19,.bin .gtr (.t 17) (.t 18),none⟩]
def f252_25:List AI:=[⟨some 4,.mov (.c (.one (.int .i64 1))),none⟩]
def f252_26:AC:=.seq (.reg f252_25) .ret
def f252_27:AC:=.cond (.t 19) f252_26 .skip
def f252_28:AC:=.seq (.reg f252_24) f252_27
def f252_29:List AI:=[⟨some 4,.mov (.c (.one (.int .i64 0))),none⟩]
def f252_30:AC:=.seq (.reg f252_29) .ret
def f252_31:AC:=.seq f252_28 f252_30
def f252_32:AC:=.seq f252_23 f252_31
def f252_33:AC:=.seq f252_18 f252_32
def f252_34:AC:=.seq f252_13 f252_33
def f252_35:AC:=.seq (.reg f252_2) f252_34
def f252_36:AC:=.seq (.reg f252_1) f252_35
def f252_37:AC:=.seq (.reg f252_0) f252_36
def f252B:AC:=f252_37
def f252:AF:=⟨2,20,[(.t 4)],f252B⟩
def f253_0:List AI:=[⟨some 2,.mov (.c (.one .nils)),none⟩]
def f253_1:List AI:=[⟨some 3,.mov (.c (.one .nils)),none⟩]
def f253_2:List AI:=[⟨some 7,.mov (.t 0),none⟩,
    ⟨some 8,.len .slc (.t 7),none⟩,
    ⟨some 9,.mov (.c (.one (.int .i64 0))),none⟩]
def f253_3:List AI:=[⟨some 10,.bin .lss (.t 9) (.t 8),none⟩]
def f253_4:AC:=.cond (.t 10) .skip (.exit 0)
def f253_5:List AI:=[⟨some 11,.mov (.t 9),none⟩,
    ⟨some 12,.iaddr 3 (.t 7) (.t 9),none⟩,
    ⟨some 13,.load true 3 (.t 12),none⟩,
    ⟨some 5,.new [(.int .i64 0),(.int .i32 0),(.int .i32 0)],none⟩,
    ⟨some 4,.mov (.t 11),none⟩,
    ⟨none,.store 3 (.t 5) (.t 13),none⟩]
def f253_6:List AI:=[⟨some 14,.faddr 0 (.t 5),none⟩,
    ⟨some 15,.load false 1 (.t 14),none⟩,
    ⟨some 16,.bin .eql (.t 15) (.c (.one (.int .i64 0))),none⟩]
def f253_7:AC:=.cond (.t 16) (.exit 1) .skip
def f253_8:AC:=.seq (.reg f253_6) f253_7
def f253_9:List AI:=[⟨some 17,.mov (.t 4),none⟩,
    ⟨some 18,.bin .eql (.t 17) (.c (.one (.int .i64 0))),none⟩,
    ⟨some 19,.mov (.t 18),none⟩,
    ⟨some 20,.mov (.t 0),some (19,false)⟩,
    ⟨some 21,.mov (.t 4),some (19,false)⟩,
    ⟨some 22,.bin .sub (.t 21) (.c (.one (.int .i64 1))),some (19,false)⟩,
    ⟨some 23,.iaddr 3 (.t 20) (.t 22),some (19,false)⟩,
    ⟨some 24,.faddr 0 (.t 23),some (19,false)⟩,
    ⟨some 25,.load false 1 (.t 24),some (19,false)⟩,
    ⟨some 26,.bin .eql (.t 25) (.c (.one (.int .i64 0))),some (19,false)⟩,
    ⟨some 27,.pick (.t 19) (.c (.one (.bool true))) (.t 26),none⟩]
def f253_10:List AI:=[⟨some 28,.mov (.t 3),none⟩,
    ⟨some 29,.rowLit 1 [.nils] 1 [(0,(.c (.one .nils)))],none⟩,
    ⟨some 30,.app 1 24 (.t 28) (.t 29),none⟩,
    ⟨some 3,.mov (.t 30),none⟩]
def f253_11:AC:=.cond (.t 27) (.reg f253_10) .skip
def f253_12:AC:=.seq (.reg f253_9) f253_11
def f253_13:List AI:=[⟨some 31,.mov (.t 3),none⟩,
    ⟨some 32,.len .slc (.t 31),none⟩,
    ⟨some 33,.bin .sub (.t 32) (.c (.one (.int .i64 1))),none⟩,
    ⟨some 6,.mov (.t 33),none⟩]
def f253_14:List AI:=[⟨some 34,.mov (.t 3),none⟩,
    ⟨some 35,.mov (.t 6),none⟩,
    ⟨some 36,.mov (.t 3),none⟩,
    ⟨some 37,.mov (.t 6),none⟩,
    ⟨some 38,.iaddr 1 (.t 36) (.t 37),none⟩,
    ⟨some 39,.load false 1 (.t 38),none⟩,
    ⟨some 40,.load true 3 (.t 5),none⟩,
    ⟨some 41,.rowLit 3 [(.int .i64 0),(.int .i32 0),(.int .i32 0)] 1 [(0,(.t 40))],none⟩,
    ⟨some 42,.app 3 16 (.t 39) (.t 41),none⟩,
    ⟨some 43,.iaddr 1 (.t 34) (.t 35),none⟩,
    ⟨none,.store 1 (.t 43) (.t 42),none⟩]
def f253_15:AC:=.seq (.reg f253_13) (.dreg f253_14)
def f253_16:AC:=.seq f253_12 f253_15
def f253_17:AC:=.seq f253_8 f253_16
def f253_18:AC:=.seq (.reg f253_5) f253_17
def f253_19:AC:=.block 1 f253_18
def f253_20:List AI:=[⟨some 44,.bin .add (.t 9) (.c (.one (.int .i64 1))),none⟩,
    ⟨some 9,.mov (.t 44),none⟩]
def f253_21:AC:=.seq f253_19 (.reg f253_20)
def f253_22:AC:=.seq f253_4 f253_21
def f253_23:AC:=.seq (.reg f253_3) f253_22
def f253_24:AC:=.loop f253_23
def f253_25:AC:=.block 0 f253_24
def f253_26:AC:=.seq (.reg f253_2) f253_25
def f253_27:List AI:=[⟨some 45,.mov (.t 3),none⟩,
    ⟨some 2,.mov (.t 45),none⟩]
def f253_28:AC:=.seq (.reg f253_27) .ret
def f253_29:AC:=.seq f253_26 f253_28
def f253_30:AC:=.seq (.reg f253_1) f253_29
def f253_31:AC:=.seq (.reg f253_0) f253_30
def f253B:AC:=f253_31
def f253:AF:=⟨1,46,[(.t 2)],f253B⟩
def f254_0:List AI:=[⟨some 2,.mov (.c (.one (.int .i64 0))),none⟩]
def f254_1:List AI:=[⟨some 6,.mov (.t 0),none⟩,
    ⟨some 7,.call (.c (.one (.fn 19 []))) [(.t 6)],none⟩,
    ⟨some 5,.mov (.t 7),none⟩,
    ⟨some 8,.ext (.t 5) 0,none⟩,
    ⟨some 9,.ext (.t 5) 1,none⟩,
    ⟨some 3,.mov (.t 8),none⟩,
    ⟨some 4,.mov (.t 9),none⟩]
def f254_2:List AI:=[⟨some 10,.mov (.t 3),none⟩,
    ⟨some 11,.len .slc (.t 10),none⟩,
    ⟨some 2,.mov (.t 11),none⟩]
def f254_3:AC:=.seq (.reg f254_2) .ret
def f254_4:AC:=.seq (.reg f254_1) f254_3
def f254_5:AC:=.seq (.reg f254_0) f254_4
def f254B:AC:=f254_5
def f254:AF:=⟨1,12,[(.t 2)],f254B⟩
def f255_0:List AI:=[⟨some 6,.new [(.int .u8 0)],none⟩,
    ⟨some 7,.new [(.int .u8 0)],none⟩]
def f255_1:List AI:=[⟨none,.store 1 (.t 7) (.c (.one (.int .u8 255))),none⟩]
def f255_2:List AI:=[⟨some 10,.mkfn 262 [(.t 7),(.t 6)],none⟩,
    ⟨some 8,.mov (.t 10),none⟩]
def f255_3:List AI:=[⟨some 11,.mov (.t 1),none⟩,
    ⟨some 12,.bin .gtr (.t 11) (.c (.one (.int .i64 0))),none⟩,
    ⟨some 13,.mov (.t 12),none⟩,
    ⟨some 14,.mov (.t 2),some (13,true)⟩,
    ⟨some 15,.bin .gtr (.t 14) (.c (.one (.int .i64 0))),some (13,true)⟩,
    ⟨some 16,.pick (.t 13) (.t 15) (.c (.one (.bool false))),none⟩]
def f255_4:List AI:=[⟨some 17,.mov (.t 0),none⟩,
    ⟨some 18,.nilck (.t 17),none⟩,
    ⟨some 19,.faddr 2 (.t 18),none⟩,
    ⟨some 20,.load false 1 (.t 19),none⟩,
    ⟨some 21,.mov (.t 0),none⟩,
    ⟨some 22,.mov (.t 1),none⟩,
    ⟨some 23,.bin .sub (.t 22) (.c (.one (.int .i64 1))),none⟩,
    ⟨some 24,.mov (.t 2),none⟩,
    ⟨some 25,.bin .sub (.t 24) (.c (.one (.int .i64 1))),none⟩,
    ⟨some 26,.call (.c (.one (.fn 256 []))) [(.t 21),(.t 23),(.t 25)],none⟩,
    ⟨some 27,.iaddr 1 (.t 20) (.t 26),none⟩,
    ⟨some 28,.load false 1 (.t 27),none⟩,
    ⟨some 9,.mov (.t 28),none⟩]
def f255_5:List AI:=[⟨some 29,.mov (.t 0),none⟩,
    ⟨some 30,.nilck (.t 29),none⟩,
    ⟨some 31,.faddr 0 (.t 30),none⟩,
    ⟨some 32,.load false 1 (.t 31),none⟩,
    ⟨some 33,.mov (.t 1),none⟩,
    ⟨some 34,.bin .sub (.t 33) (.c (.one (.int .i64 1))),none⟩,
    ⟨some 35,.iaddr 1 (.t 32) (.t 34),none⟩,
    ⟨some 36,.load false 1 (.t 35),none⟩,
    ⟨some 37,.mov (.t 0),none⟩,
    ⟨some 38,.nilck (.t 37),none⟩,
    ⟨some 39,.faddr 1 (.t 38),none⟩,
    ⟨some 40,.load false 1 (.t 39),none⟩,
    ⟨some 41,.mov (.t 2),none⟩,
    ⟨some 42,.bin .sub (.t 41) (.c (.one (.int .i64 1))),none⟩,
    ⟨some 43,.iaddr 1 (.t 40) (.t 42),none⟩,
    ⟨some 44,.load false 1 (.t 43),none⟩,
    ⟨some 45,.bin .eql (.t 36) (.t 44),none⟩]
def f255_6:List AI:=[⟨some 46,.mov (.t 8),none⟩,
    ⟨some 47,.mov (.t 9),none⟩,
    ⟨some 48,.call (.t 46) [(.c (.one (.int .u8 0))),(.t 47)],none⟩]
def f255_7:List AI:=[⟨some 49,.mov (.t 8),none⟩,
    ⟨some 50,.mov (.t 9),none⟩,
    ⟨some 51,.bin .add (.t 50) (.c (.one (.int .u8 1))),none⟩,
    ⟨some 52,.call (.t 49) [(.c (.one (.int .u8 1))),(.t 51)],none⟩]
def f255_8:AC:=.cond (.t 45) (.reg f255_6) (.reg f255_7)
def f255_9:AC:=.seq (.dreg f255_5) f255_8
def f255_10:AC:=.seq (.dreg f255_4) f255_9
def f255_11:AC:=.cond (.t 16) f255_10 .skip
def f255_12:AC:=.seq (.reg f255_3) f255_11
def f255_13:List AI:=[⟨some 53,.mov (.t 1),none⟩,
    ⟨some 54,.bin .gtr (.t 53) (.c (.one (.int .i64 0))),none⟩]
def f255_14 : List (List AI) := [[⟨some 55, .mov (.t 8), none⟩,
      ⟨some 56,.mov (.t 0),none⟩,
      ⟨some 57,.nilck (.t 56),none⟩,
      ⟨some 58,.faddr 2 (.t 57),none⟩,
      ⟨some 59,.load false 1 (.t 58),none⟩,
      ⟨some 60,.mov (.t 0),none⟩,
      ⟨some 61,.mov (.t 1),none⟩,
      ⟨some 62,.bin .sub (.t 61) (.c (.one (.int .i64 1))),none⟩,
      ⟨some 63,.mov (.t 2),none⟩,
      ⟨some 64,.call (.c (.one (.fn 256 []))) [(.t 60),(.t 62),(.t 63)],none⟩,
      ⟨some 65,.iaddr 1 (.t 59) (.t 64),none⟩,
      ⟨some 66,.load false 1 (.t 65),none⟩,
      ⟨some 67,.bin .add (.t 66) (.c (.one (.int .u8 1))),none⟩]]
def f255_15:List AI:=[⟨some 68,.call (.t 55) [(.c (.one (.int .u8 2))),(.t 67)],none⟩]
def f255_16:AC:=.cond (.t 54) (.dtl f255_14 f255_15) .skip
def f255_17:AC:=.seq (.reg f255_13) f255_16
def f255_18:List AI:=[⟨some 69,.mov (.t 2),none⟩,
    ⟨some 70,.bin .gtr (.t 69) (.c (.one (.int .i64 0))),none⟩]
def f255_19 : List (List AI) := [[⟨some 71, .mov (.t 8), none⟩,
      ⟨some 72,.mov (.t 0),none⟩,
      ⟨some 73,.nilck (.t 72),none⟩,
      ⟨some 74,.faddr 2 (.t 73),none⟩,
      ⟨some 75,.load false 1 (.t 74),none⟩,
      ⟨some 76,.mov (.t 0),none⟩,
      ⟨some 77,.mov (.t 1),none⟩,
      ⟨some 78,.mov (.t 2),none⟩,
      ⟨some 79,.bin .sub (.t 78) (.c (.one (.int .i64 1))),none⟩,
      ⟨some 80,.call (.c (.one (.fn 256 []))) [(.t 76),(.t 77),(.t 79)],none⟩,
      ⟨some 81,.iaddr 1 (.t 75) (.t 80),none⟩,
      ⟨some 82,.load false 1 (.t 81),none⟩,
      ⟨some 83,.bin .add (.t 82) (.c (.one (.int .u8 1))),none⟩]]
def f255_20:List AI:=[⟨some 84,.call (.t 71) [(.c (.one (.int .u8 3))),(.t 83)],none⟩]
def f255_21:AC:=.cond (.t 70) (.dtl f255_19 f255_20) .skip
def f255_22:AC:=.seq (.reg f255_18) f255_21
def f255_23 : List (List AI) := [[⟨some 85, .load false 1 (.t 6), none⟩,
      ⟨some 86,.load false 1 (.t 7),none⟩,
      ⟨none,.store 1 (.t 6) (.t 85),none⟩,
      ⟨none,.store 1 (.t 7) (.t 86),none⟩],[⟨some 85,.load false 1 (.t 6),none⟩,
      ⟨none,.store 1 (.t 6) (.t 85),none⟩,
      ⟨some 86,.load false 1 (.t 7),none⟩,
      ⟨none,.store 1 (.t 7) (.t 86),none⟩]]
def f255_24:AC:=.seq (.dalt f255_23) .ret
def f255_25:AC:=.seq f255_22 f255_24
def f255_26:AC:=.seq f255_17 f255_25
def f255_27:AC:=.seq f255_12 f255_26
def f255_28:AC:=.seq (.reg f255_2) f255_27
def f255_29:AC:=.seq (.reg f255_1) f255_28
def f255_30:AC:=.seq (.reg f255_0) f255_29
def f255B:AC:=f255_30
def f255:AF:=⟨3,87,[(.cell 6 false 1),(.cell 7 false 1)],f255B⟩
def f256_0:List AI:=[⟨some 6,.mov (.c (.one (.int .i64 0))),none⟩]
def f256_1:List AI:=[⟨some 7,.mov (.t 1),none⟩,
    ⟨some 8,.mov (.t 0),none⟩,
    ⟨some 9,.nilck (.t 8),none⟩,
    ⟨some 10,.faddr 1 (.t 9),none⟩,
    ⟨some 11,.load false 1 (.t 10),none⟩,
    ⟨some 12,.len .slc (.t 11),none⟩,
    ⟨some 13,.bin .add (.t 12) (.c (.one (.int .i64 1))),none⟩,
    ⟨some 14,.bin .mul (.t 7) (.t 13),none⟩,
    ⟨some 15,.mov (.t 2),none⟩,
    ⟨some 16,.bin .add (.t 14) (.t 15),none⟩,
    ⟨some 6,.mov (.t 16),none⟩]
def f256_2:AC:=.seq (.reg f256_1) .ret
def f256_3:AC:=.seq (.reg f256_0) f256_2
def f256B:AC:=f256_3
def f256:AF:=⟨3,17,[(.t 6)],f256B⟩
def f257_0:List AI:=[⟨some 2,.box (.t 0),none⟩,
    ⟨some 4,.mov (.c (.one .nils)),none⟩]
def f257_1:List AI:=[⟨some 6,.mov (.t 1),none⟩]
def f257_2:List AI:=[⟨some 5,.new [(.int .i64 0),(.int .i32 0),(.int .i32 0)],none⟩,
    ⟨none,.store 3 (.t 5) (.t 7),none⟩]
def f257_3:List AI:=[⟨some 8,.load false 1 (.t 2),none⟩,
    ⟨some 9,.load true 3 (.t 5),none⟩,
    ⟨some 10,.rowLit 3 [(.int .i64 0),(.int .i32 0),(.int .i32 0)] 1 [(0,(.t 9))],none⟩,
    ⟨some 11,.app 3 16 (.t 8) (.t 10),none⟩,
    ⟨none,.store 1 (.t 2) (.t 11),none⟩]
def f257_4:AC:=.block 1 (.reg f257_3)
def f257_5:AC:=.rangeF (.t 6) [7] (.reg f257_2) f257_4
def f257_6:AC:=.block 0 f257_5
def f257_7:AC:=.seq (.reg f257_1) f257_6
def f257_8:List AI:=[⟨some 12,.load false 1 (.t 2),none⟩,
    ⟨some 4,.mov (.t 12),none⟩]
def f257_9:AC:=.seq (.reg f257_8) .ret
def f257_10:AC:=.seq f257_7 f257_9
def f257_11:AC:=.seq (.reg f257_0) f257_10
def f257B:AC:=f257_11
def f257:AF:=⟨2,13,[(.t 4)],f257B⟩
def f258_0:List AI:=[⟨some 6,.load false 1 (.t 1),none⟩,
    ⟨some 7,.nilck (.t 6),none⟩,
    ⟨some 8,.faddr 0 (.t 7),none⟩,
    ⟨some 9,.load false 1 (.t 8),none⟩,
    ⟨some 10,.len .slc (.t 9),none⟩,
    ⟨some 11,.load false 1 (.t 1),none⟩,
    ⟨some 12,.nilck (.t 11),none⟩,
    ⟨some 13,.faddr 1 (.t 12),none⟩,
    ⟨some 14,.load false 1 (.t 13),none⟩,
    ⟨some 15,.len .slc (.t 14),none⟩,
    ⟨some 3,.mov (.t 10),none⟩,
    ⟨some 4,.mov (.t 15),none⟩]
def f258_1:List AI:=[⟨some 16,.mov (.t 3),none⟩,
    ⟨some 17,.mov (.t 4),none⟩,
    ⟨some 18,.bin .add (.t 16) (.t 17),none⟩,
    ⟨some 19,.bin .gtr (.t 18) (.c (.one (.int .i64 0))),none⟩]
def f258_2:AC:=.cond (.t 19) .skip (.exit 0)
def f258_3:AC:=.seq (.reg f258_1) f258_2
def f258_4:List AI:=[⟨some 20,.load false 1 (.t 1),none⟩,
    ⟨some 21,.nilck (.t 20),none⟩,
    ⟨some 22,.faddr 3 (.t 21),none⟩,
    ⟨some 23,.load false 1 (.t 22),none⟩,
    ⟨some 24,.load false 1 (.t 1),none⟩,
    ⟨some 25,.mov (.t 3),none⟩,
    ⟨some 26,.mov (.t 4),none⟩,
    ⟨some 27,.call (.c (.one (.fn 256 []))) [(.t 24),(.t 25),(.t 26)],none⟩,
    ⟨some 28,.iaddr 1 (.t 23) (.t 27),none⟩,
    ⟨some 29,.load false 1 (.t 28),none⟩,
    ⟨some 30,.wrapI .i64 (.t 29),none⟩,
    ⟨some 31,.build [(.int .i64 0),(.int .i32 0),(.int .i32 0)] [(0,(1,(.t 30)))],none⟩,
    ⟨some 5,.new [(.int .i64 0),(.int .i32 0),(.int .i32 0)],none⟩,
    ⟨none,.store 3 (.t 5) (.t 31),none⟩]
def f258_5:List AI:=[⟨some 32,.faddr 0 (.t 5),none⟩,
    ⟨some 33,.load false 1 (.t 32),none⟩,
    ⟨some 34,.bin .neq (.t 33) (.c (.one (.int .i64 3))),none⟩]
def f258_6:List AI:=[⟨some 35,.mov (.t 3),none⟩,
    ⟨some 36,.bin .sub (.t 35) (.c (.one (.int .i64 1))),none⟩,
    ⟨some 3,.mov (.t 36),none⟩]
def f258_7:List AI:=[⟨some 37,.load false 1 (.t 1),none⟩,
    ⟨some 38,.nilck (.t 37),none⟩,
    ⟨some 39,.faddr 0 (.t 38),none⟩,
    ⟨some 40,.load false 1 (.t 39),none⟩,
    ⟨some 41,.mov (.t 3),none⟩,
    ⟨some 42,.iaddr 1 (.t 40) (.t 41),none⟩,
    ⟨some 43,.load false 1 (.t 42),none⟩,
    ⟨some 44,.faddr 1 (.t 5),none⟩,
    ⟨none,.store 1 (.t 44) (.t 43),none⟩]
def f258_8:AC:=.seq (.reg f258_6) (.reg f258_7)
def f258_9:AC:=.cond (.t 34) f258_8 .skip
def f258_10:AC:=.seq (.reg f258_5) f258_9
def f258_11:List AI:=[⟨some 45,.faddr 0 (.t 5),none⟩,
    ⟨some 46,.load false 1 (.t 45),none⟩,
    ⟨some 47,.bin .neq (.t 46) (.c (.one (.int .i64 2))),none⟩]
def f258_12:List AI:=[⟨some 48,.mov (.t 4),none⟩,
    ⟨some 49,.bin .sub (.t 48) (.c (.one (.int .i64 1))),none⟩,
    ⟨some 4,.mov (.t 49),none⟩]
def f258_13:List AI:=[⟨some 50,.load false 1 (.t 1),none⟩,
    ⟨some 51,.nilck (.t 50),none⟩,
    ⟨some 52,.faddr 1 (.t 51),none⟩,
    ⟨some 53,.load false 1 (.t 52),none⟩,
    ⟨some 54,.mov (.t 4),none⟩,
    ⟨some 55,.iaddr 1 (.t 53) (.t 54),none⟩,
    ⟨some 56,.load false 1 (.t 55),none⟩,
    ⟨some 57,.faddr 2 (.t 5),none⟩,
    ⟨none,.store 1 (.t 57) (.t 56),none⟩]
def f258_14:AC:=.seq (.reg f258_12) (.reg f258_13)
def f258_15:AC:=.cond (.t 47) f258_14 .skip
def f258_16:AC:=.seq (.reg f258_11) f258_15
def f258_17:List AI:=[⟨some 58,.mov (.t 0),none⟩,
    ⟨some 59,.load true 3 (.t 5),none⟩,
    ⟨some 60,.call (.t 58) [(.t 59)],none⟩,
    ⟨some 61,.un .not (.t 60),none⟩]
def f258_18:AC:=.cond (.t 61) (.exit 0) .skip
def f258_19:AC:=.seq (.reg f258_17) f258_18
def f258_20:AC:=.seq f258_16 f258_19
def f258_21:AC:=.seq f258_10 f258_20
def f258_22:AC:=.seq (.dreg f258_4) f258_21
def f258_23:AC:=.block 1 f258_22
def f258_24:AC:=.seq f258_3 f258_23
def f258_25:AC:=.loop f258_24
def f258_26:AC:=.block 0 f258_25
def f258_27:AC:=.seq .skip f258_26
def f258_28:AC:=.seq (.dreg f258_0) f258_27
def f258_29:AC:=.seq .skip f258_28
def f258B:AC:=f258_29
def f258:AF:=⟨2,62,[],f258B⟩
def f259_0:List AI:=[⟨some 4,.mov (.c (.one (.int .i64 0))),none⟩]
def f259_1:List AI:=[⟨some 6,.mov (.t 0),none⟩,
    ⟨some 7,.len .slc (.t 6),none⟩,
    ⟨some 8,.mov (.c (.one (.int .i64 0))),none⟩]
def f259_2:List AI:=[⟨some 9,.bin .lss (.t 8) (.t 7),none⟩]
def f259_3:AC:=.cond (.t 9) .skip (.exit 0)
def f259_4:List AI:=[⟨some 10,.mov (.t 8),none⟩,
    ⟨some 5,.mov (.t 10),none⟩]
def f259_5:List AI:=[⟨some 11,.mov (.t 1),none⟩,
    ⟨some 12,.mov (.t 0),none⟩,
    ⟨some 13,.mov (.t 5),none⟩,
    ⟨some 14,.iaddr 3 (.t 12) (.t 13),none⟩,
    ⟨some 15,.load true 3 (.t 14),none⟩,
    ⟨some 16,.call (.t 11) [(.t 15)],none⟩]
def f259_6:List AI:=[⟨some 17,.mov (.t 5),none⟩,
    ⟨some 4,.mov (.t 17),none⟩]
def f259_7:AC:=.seq (.reg f259_6) .ret
def f259_8:AC:=.cond (.t 16) f259_7 .skip
def f259_9:AC:=.seq (.reg f259_5) f259_8
def f259_10:AC:=.seq (.reg f259_4) f259_9
def f259_11:AC:=.block 1 f259_10
def f259_12:List AI:=[⟨some 18,.bin .add (.t 8) (.c (.one (.int .i64 1))),none⟩,
    ⟨some 8,.mov (.t 18),none⟩]
def f259_13:AC:=.seq f259_11 (.reg f259_12)
def f259_14:AC:=.seq f259_3 f259_13
def f259_15:AC:=.seq (.reg f259_2) f259_14
def f259_16:AC:=.loop f259_15
def f259_17:AC:=.block 0 f259_16
def f259_18:AC:=.seq (.reg f259_1) f259_17
def f259_19:List AI:=[⟨some 4,.mov (.c (.one (.int .i64 (-1)))),none⟩]
def f259_20:AC:=.seq (.reg f259_19) .ret
def f259_21:AC:=.seq f259_18 f259_20
def f259_22:AC:=.seq (.reg f259_0) f259_21
def f259B:AC:=f259_22
def f259:AF:=⟨2,19,[(.t 4)],f259B⟩
def f260_0:List AI:=[⟨some 3,.mov (.c (.one (.int .i64 0))),none⟩]
def f260_1:List AI:=[⟨some 5,.mov (.t 3),none⟩,
    ⟨some 6,.load false 1 (.t 1),none⟩,
    ⟨some 7,.len .slc (.t 6),none⟩,
    ⟨some 8,.bin .lss (.t 5) (.t 7),none⟩]
def f260_2:AC:=.cond (.t 8) .skip (.exit 0)
def f260_3:AC:=.seq (.reg f260_1) f260_2
def f260_4:List AI:=[⟨some 11,.load false 1 (.t 1),none⟩,
    ⟨some 12,.mov (.t 3),none⟩,
    ⟨some 13,.iaddr 3 (.t 11) (.t 12),none⟩,
    ⟨some 14,.faddr 0 (.t 13),none⟩,
    ⟨some 15,.load false 1 (.t 14),none⟩,
    ⟨some 16,.bin .eql (.t 15) (.c (.one (.int .i64 0))),none⟩]
def f260_5:AC:=.cond (.t 16) (.exit 1) .skip
def f260_6:AC:=.seq (.reg f260_4) f260_5
def f260_7:List AI:=[⟨some 17,.mov (.t 3),none⟩,
    ⟨some 4,.mov (.t 17),none⟩]
def f260_8:List AI:=[⟨some 18,.mov (.t 3),none⟩,
    ⟨some 19,.load false 1 (.t 1),none⟩,
    ⟨some 20,.len .slc (.t 19),none⟩,
    ⟨some 21,.bin .lss (.t 18) (.t 20),none⟩,
    ⟨some 22,.mov (.t 21),none⟩,
    ⟨some 23,.load false 1 (.t 1),some (22,true)⟩,
    ⟨some 24,.mov (.t 3),some (22,true)⟩,
    ⟨some 25,.iaddr 3 (.t 23) (.t 24),some (22,true)⟩,
    ⟨some 26,.faddr 0 (.t 25),some (22,true)⟩,
    ⟨some 27,.load false 1 (.t 26),some (22,true)⟩,
    ⟨some 28,.bin .neq (.t 27) (.c (.one (.int .i64 0))),some (22,true)⟩,
    ⟨some 29,.pick (.t 22) (.t 28) (.c (.one (.bool false))),none⟩]
def f260_9:AC:=.cond (.t 29) .skip (.exit 2)
def f260_10:AC:=.seq (.reg f260_8) f260_9
def f260_11:List AI:=[⟨some 30,.mov (.t 3),none⟩,
    ⟨some 31,.bin .add (.t 30) (.c (.one (.int .i64 1))),none⟩,
    ⟨some 3,.mov (.t 31),none⟩]
def f260_12:AC:=.block 3 (.reg f260_11)
def f260_13:AC:=.seq f260_10 f260_12
def f260_14:AC:=.loop f260_13
def f260_15:AC:=.block 2 f260_14
def f260_16:List AI:=[⟨some 32,.mov (.t 0),none⟩,
    ⟨some 33,.load false 1 (.t 1),none⟩,
    ⟨some 34,.mov (.t 4),none⟩,
    ⟨some 35,.mov (.t 3),none⟩,
    ⟨some 36,.slice .slc 3 (.t 33) (some (.t 34)) (some (.t 35)) none,none⟩,
    ⟨some 37,.call (.t 32) [(.t 36)],none⟩,
    ⟨some 38,.un .not (.t 37),none⟩]
def f260_17:AC:=.cond (.t 38) .ret .skip
def f260_18:AC:=.seq (.reg f260_16) f260_17
def f260_19:AC:=.seq f260_15 f260_18
def f260_20:AC:=.seq (.reg f260_7) f260_19
def f260_21:AC:=.seq f260_6 f260_20
def f260_22:AC:=.block 1 f260_21
def f260_23:List AI:=[⟨some 9,.mov (.t 3),none⟩,
    ⟨some 10,.bin .add (.t 9) (.c (.one (.int .i64 1))),none⟩,
    ⟨some 3,.mov (.t 10),none⟩]
def f260_24:AC:=.seq f260_22 (.reg f260_23)
def f260_25:AC:=.seq f260_3 f260_24
def f260_26:AC:=.loop f260_25
def f260_27:AC:=.block 0 f260_26
def f260_28:AC:=.seq (.reg f260_0) f260_27
def f260_29:AC:=.seq .skip f260_28
def f260_30:AC:=.seq .skip f260_29
def f260B:AC:=f260_30
def f260:AF:=⟨2,39,[],f260B⟩
def f261_0:List AI:=[⟨some 2,.mov (.c (.one (.bool false))),none⟩]
def f261_1:List AI:=[⟨some 3,.mov (.t 0),none⟩,
    ⟨some 4,.mov (.t 0),none⟩,
    ⟨some 5,.bin .neq (.t 3) (.t 4),none⟩,
    ⟨some 2,.mov (.t 5),none⟩]
def f261_2:AC:=.seq (.reg f261_1) .ret
def f261_3:AC:=.seq (.reg f261_0) f261_2
def f261B:AC:=f261_3
def f261:AF:=⟨1,6,[(.t 2)],f261B⟩
def f262_0:List AI:=[⟨some 6,.mov (.t 1),none⟩,
    ⟨some 7,.load false 1 (.t 2),none⟩,
    ⟨some 8,.bin .lss (.t 6) (.t 7),none⟩]
def f262_1:List AI:=[⟨some 9,.mov (.t 0),none⟩,
    ⟨some 10,.mov (.t 1),none⟩,
    ⟨none,.store 1 (.t 3) (.t 9),none⟩,
    ⟨none,.store 1 (.t 2) (.t 10),none⟩]
def f262_2:AC:=.cond (.t 8) (.reg f262_1) .skip
def f262_3:AC:=.seq (.reg f262_0) f262_2
def f262B:AC:=f262_3
def f262:AF:=⟨4,11,[],f262B⟩
end Go.EA.F
