/- Functions of the program, as abstract code (printed by a program). Conditions: none (definitions). -/
import Derived.Test.YtpgjilomblpcpaaDoorEK1
namespace Go.EA.F
def f275_0:List AI:=[⟨some 1,.box (.t 0),none⟩,
    ⟨some 2,.mov (.c (.one (.bool false))),none⟩]
def f275_1:List AI:=[⟨some 21,.call (.c (.one (.fn 293 []))) [],none⟩,
    ⟨some 22,.un .not (.t 21),none⟩]
def f275_2:List AI:=[⟨some 2,.mov (.c (.one (.bool false))),none⟩]
def f275_3:AC:=.seq (.reg f275_2) .ret
def f275_4:AC:=.cond (.t 22) f275_3 .skip
def f275_5:AC:=.seq (.reg f275_1) f275_4
def f275_6:List AI:=[⟨some 23,.faddr 0 (.t 1),none⟩,
    ⟨some 24,.load false 1 (.t 23),none⟩,
    ⟨some 25,.faddr 1 (.t 1),none⟩,
    ⟨some 26,.load false 1 (.t 25),none⟩,
    ⟨some 27,.faddr 2 (.t 1),none⟩,
    ⟨some 28,.load false 1 (.t 27),none⟩,
    ⟨some 29,.faddr 3 (.t 1),none⟩,
    ⟨some 30,.load false 1 (.t 29),none⟩,
    ⟨some 3,.mov (.t 24),none⟩,
    ⟨some 4,.mov (.t 26),none⟩,
    ⟨some 5,.mov (.t 28),none⟩,
    ⟨some 6,.mov (.t 30),none⟩]
def f275_7:List AI:=[⟨some 31,.mov (.t 3),none⟩,
    ⟨some 32,.call (.c (.one (.fn 294 []))) [(.t 31)],none⟩,
    ⟨some 33,.mov (.t 32),none⟩,
    ⟨some 34,.mov (.t 4),some (33,false)⟩,
    ⟨some 35,.len .str (.t 34),some (33,false)⟩,
    ⟨some 36,.bin .gtr (.t 35) (.c (.one (.int .i64 1000))),some (33,false)⟩,
    ⟨some 37,.pick (.t 33) (.c (.one (.bool true))) (.t 36),none⟩]
def f275_8:List AI:=[⟨some 2,.mov (.c (.one (.bool true))),none⟩]
def f275_9:AC:=.seq (.reg f275_8) .ret
def f275_10:AC:=.cond (.t 37) f275_9 .skip
def f275_11:AC:=.seq (.reg f275_7) f275_10
def f275_12:List AI:=[⟨some 38,.mov (.t 6),none⟩]
def f275_13:List AI:=[⟨some 40,.mov (.t 3),none⟩,
    ⟨some 41,.call (.c (.one (.fn 291 []))) [(.t 40)],none⟩,
    ⟨some 39,.mov (.t 41),none⟩,
    ⟨some 42,.ext (.t 39) 0,none⟩,
    ⟨some 43,.ext (.t 39) 1,none⟩,
    ⟨some 3,.mov (.t 42),none⟩]
def f275_14:AC:=.cond (.t 38) (.reg f275_13) .skip
def f275_15:AC:=.seq (.reg f275_12) f275_14
def f275_16:List AI:=[⟨some 45,.mov (.t 3),none⟩,
    ⟨some 46,.mov (.t 4),none⟩,
    ⟨some 47,.call (.c (.one (.fn 303 []))) [(.t 45),(.t 46)],none⟩,
    ⟨some 44,.mov (.t 47),none⟩,
    ⟨some 48,.ext (.t 44) 0,none⟩,
    ⟨some 49,.ext (.t 44) 1,none⟩,
    ⟨some 7,.mov (.t 48),none⟩,
    ⟨some 8,.mov (.t 49),none⟩]
def f275_17:List AI:=[⟨some 51,.mov (.t 3),none⟩,
    ⟨some 52,.mov (.t 4),none⟩,
    ⟨some 53,.call (.c (.one (.fn 308 []))) [(.t 51),(.t 52)],none⟩,
    ⟨some 50,.mov (.t 53),none⟩,
    ⟨some 54,.ext (.t 50) 0,none⟩,
    ⟨some 55,.ext (.t 50) 1,none⟩,
    ⟨some 9,.mov (.t 54),none⟩,
    ⟨some 10,.mov (.t 55),none⟩]
def f275_18:List AI:=[⟨some 57,.mov (.t 3),none⟩,
    ⟨some 58,.mov (.t 4),none⟩,
    ⟨some 59,.call (.c (.one (.fn 305 []))) [(.t 57),(.t 58)],none⟩,
    ⟨some 56,.mov (.t 59),none⟩,
    ⟨some 60,.ext (.t 56) 0,none⟩,
    ⟨some 61,.ext (.t 56) 1,none⟩,
    ⟨some 62,.ext (.t 56) 2,none⟩,
    ⟨some 11,.mov (.t 60),none⟩,
    ⟨some 12,.mov (.t 61),none⟩,
    ⟨some 13,.mov (.t 62),none⟩]
def f275_19:List AI:=[⟨some 64,.mov (.t 3),none⟩,
    ⟨some 65,.mov (.t 4),none⟩,
    ⟨some 66,.call (.c (.one (.fn 309 []))) [(.t 64),(.t 65)],none⟩,
    ⟨some 63,.mov (.t 66),none⟩,
    ⟨some 67,.ext (.t 63) 0,none⟩,
    ⟨some 68,.ext (.t 63) 1,none⟩,
    ⟨some 69,.ext (.t 63) 2,none⟩,
    ⟨some 14,.mov (.t 67),none⟩,
    ⟨some 15,.mov (.t 68),none⟩,
    ⟨some 16,.mov (.t 69),none⟩]
def f275_20:List AI:=[⟨some 71,.mov (.t 3),none⟩,
    ⟨some 72,.mov (.t 5),none⟩,
    ⟨some 73,.call (.c (.one (.fn 307 []))) [(.t 71),(.t 72)],none⟩,
    ⟨some 70,.mov (.t 73),none⟩,
    ⟨some 74,.ext (.t 70) 0,none⟩,
    ⟨some 75,.ext (.t 70) 1,none⟩,
    ⟨some 17,.mov (.t 74),none⟩,
    ⟨some 18,.mov (.t 75),none⟩]
def f275_21:List AI:=[⟨some 77,.mov (.t 3),none⟩,
    ⟨some 78,.mov (.t 5),none⟩,
    ⟨some 79,.call (.c (.one (.fn 310 []))) [(.t 77),(.t 78)],none⟩,
    ⟨some 76,.mov (.t 79),none⟩,
    ⟨some 80,.ext (.t 76) 0,none⟩,
    ⟨some 81,.ext (.t 76) 1,none⟩,
    ⟨some 19,.mov (.t 80),none⟩,
    ⟨some 20,.mov (.t 81),none⟩]
def f275_22:List AI:=[⟨some 82,.mov (.t 7),none⟩,
    ⟨some 83,.mov (.t 9),none⟩,
    ⟨some 84,.bin .eql (.t 82) (.t 83),none⟩,
    ⟨some 85,.mov (.t 84),none⟩,
    ⟨some 86,.mov (.t 8),some (85,true)⟩,
    ⟨some 87,.mov (.t 10),some (85,true)⟩,
    ⟨some 88,.bin .eql (.t 86) (.t 87),some (85,true)⟩,
    ⟨some 89,.pick (.t 85) (.t 88) (.c (.one (.bool false))),none⟩,
    ⟨some 90,.mov (.t 89),none⟩,
    ⟨some 91,.mov (.t 11),some (90,true)⟩,
    ⟨some 92,.mov (.t 14),some (90,true)⟩,
    ⟨some 93,.bin .eql (.t 91) (.t 92),some (90,true)⟩,
    ⟨some 94,.pick (.t 90) (.t 93) (.c (.one (.bool false))),none⟩,
    ⟨some 95,.mov (.t 94),none⟩,
    ⟨some 96,.mov (.t 12),some (95,true)⟩,
    ⟨some 97,.mov (.t 15),some (95,true)⟩,
    ⟨some 98,.bin .eql (.t 96) (.t 97),some (95,true)⟩,
    ⟨some 99,.pick (.t 95) (.t 98) (.c (.one (.bool false))),none⟩,
    ⟨some 100,.mov (.t 99),none⟩,
    ⟨some 101,.mov (.t 13),some (100,true)⟩,
    ⟨some 102,.mov (.t 16),some (100,true)⟩,
    ⟨some 103,.bin .eql (.t 101) (.t 102),some (100,true)⟩,
    ⟨some 104,.pick (.t 100) (.t 103) (.c (.one (.bool false))),none⟩,
    ⟨some 105,.mov (.t 104),none⟩,
    ⟨some 106,.mov (.t 17),some (105,true)⟩,
    ⟨some 107,.mov (.t 19),some (105,true)⟩,
    ⟨some 108,.call (.c (.one (.fn 300 []))) [(.t 106),(.t 107)],some (105,true)⟩,
    ⟨some 109,.pick (.t 105) (.t 108) (.c (.one (.bool false))),none⟩,
    ⟨some 110,.mov (.t 109),none⟩,
    ⟨some 111,.mov (.t 18),some (110,true)⟩,
    ⟨some 112,.mov (.t 20),some (110,true)⟩,
    ⟨some 113,.bin .eql (.t 111) (.t 112),some (110,true)⟩,
    ⟨some 114,.pick (.t 110) (.t 113) (.c (.one (.bool false))),none⟩,
    ⟨some 2,.mov (.t 114),none⟩]
def f275_23:AC:=.seq (.reg f275_22) .ret
def f275_24:AC:=.seq (.reg f275_21) f275_23
def f275_25:AC:=.seq (.reg f275_20) f275_24
def f275_26:AC:=.seq (.reg f275_19) f275_25
def f275_27:AC:=.seq (.reg f275_18) f275_26
def f275_28:AC:=.seq (.reg f275_17) f275_27
def f275_29:AC:=.seq (.reg f275_16) f275_28
def f275_30:AC:=.seq f275_15 f275_29
def f275_31:AC:=.seq f275_11 f275_30
def f275_32:AC:=.seq (.dreg f275_6) f275_31
def f275_33:AC:=.seq f275_5 f275_32
def f275_34:AC:=.seq (.reg f275_0) f275_33
def f275B:AC:=f275_34
def f275:AF:=⟨1,115,[(.t 2)],f275B⟩
def f291_0:List AI:=[⟨some 2,.mov (.c (.one .nils)),none⟩,
    ⟨some 3,.mov (.c (.one (.int .i64 0))),none⟩]
def f291_1:List AI:=[⟨some 9,.mov (.t 0),none⟩,
    ⟨some 10,.call (.c (.one (.fn 317 []))) [(.t 9)],none⟩,
    ⟨some 4,.mov (.t 10),none⟩]
def f291_2:List AI:=[⟨some 11,.mov (.t 4),none⟩,
    ⟨some 12,.bin .neq (.t 11) (.c (.one (.int .i64 0))),none⟩]
def f291_3:List AI:=[⟨some 13,.mov (.t 4),none⟩,
    ⟨some 2,.mov (.c (.one .nils)),none⟩,
    ⟨some 3,.mov (.t 13),none⟩]
def f291_4:AC:=.seq (.reg f291_3) .ret
def f291_5:AC:=.cond (.t 12) f291_4 .skip
def f291_6:AC:=.seq (.reg f291_2) f291_5
def f291_7:AC:=.seq (.reg f291_1) f291_6
def f291_8:List AI:=[⟨some 5,.mov (.c (.one .nils)),none⟩]
def f291_9:List AI:=[⟨some 14,.mov (.t 0),none⟩,
    ⟨some 15,.len .slc (.t 14),none⟩,
    ⟨some 16,.mov (.c (.one (.int .i64 0))),none⟩]
def f291_10:List AI:=[⟨some 17,.bin .lss (.t 16) (.t 15),none⟩]
def f291_11:AC:=.cond (.t 17) .skip (.exit 0)
def f291_12:List AI:=[⟨some 18,.iaddr 2 (.t 14) (.t 16),none⟩,
    ⟨some 19,.load true 2 (.t 18),none⟩,
    ⟨some 7,.new [(.str []),(.int .i64 0)],none⟩,
    ⟨none,.store 2 (.t 7) (.t 19),none⟩]
def f291_13:List AI:=[⟨some 8,.mov (.c (.one (.int .i64 0))),none⟩]
def f291_14:List AI:=[⟨some 20,.mov (.t 8),none⟩,
    ⟨some 21,.mov (.t 5),none⟩,
    ⟨some 22,.len .slc (.t 21),none⟩,
    ⟨some 23,.bin .lss (.t 20) (.t 22),none⟩,
    ⟨some 24,.mov (.t 23),none⟩,
    ⟨some 25,.mov (.t 5),some (24,true)⟩,
    ⟨some 26,.mov (.t 8),some (24,true)⟩,
    ⟨some 27,.iaddr 2 (.t 25) (.t 26),some (24,true)⟩,
    ⟨some 28,.faddr 0 (.t 27),some (24,true)⟩,
    ⟨some 29,.load false 1 (.t 28),some (24,true)⟩,
    ⟨some 30,.faddr 0 (.t 7),some (24,true)⟩,
    ⟨some 31,.load false 1 (.t 30),some (24,true)⟩,
    ⟨some 32,.bin .lss (.t 29) (.t 31),some (24,true)⟩,
    ⟨some 33,.pick (.t 24) (.t 32) (.c (.one (.bool false))),none⟩]
def f291_15:AC:=.cond (.t 33) .skip (.exit 2)
def f291_16:AC:=.seq (.dreg f291_14) f291_15
def f291_17:List AI:=[⟨some 34,.mov (.t 8),none⟩,
    ⟨some 35,.bin .add (.t 34) (.c (.one (.int .i64 1))),none⟩,
    ⟨some 8,.mov (.t 35),none⟩]
def f291_18:AC:=.block 3 (.reg f291_17)
def f291_19:AC:=.seq f291_16 f291_18
def f291_20:AC:=.loop f291_19
def f291_21:AC:=.block 2 f291_20
def f291_22:List AI:=[⟨some 36,.mov (.t 8),none⟩,
    ⟨some 37,.mov (.t 5),none⟩,
    ⟨some 38,.len .slc (.t 37),none⟩,
    ⟨some 39,.bin .lss (.t 36) (.t 38),none⟩,
    ⟨some 40,.mov (.t 39),none⟩,
    ⟨some 41,.mov (.t 5),some (40,true)⟩,
    ⟨some 42,.mov (.t 8),some (40,true)⟩,
    ⟨some 43,.iaddr 2 (.t 41) (.t 42),some (40,true)⟩,
    ⟨some 44,.faddr 0 (.t 43),some (40,true)⟩,
    ⟨some 45,.load false 1 (.t 44),some (40,true)⟩,
    ⟨some 46,.faddr 0 (.t 7),some (40,true)⟩,
    ⟨some 47,.load false 1 (.t 46),some (40,true)⟩,
    ⟨some 48,.bin .eql (.t 45) (.t 47),some (40,true)⟩,
    ⟨some 49,.pick (.t 40) (.t 48) (.c (.one (.bool false))),none⟩]
def f291_23:List AI:=[⟨some 50,.mov (.t 5),none⟩,
    ⟨some 51,.mov (.t 8),none⟩,
    ⟨some 52,.mov (.t 5),none⟩,
    ⟨some 53,.mov (.t 8),none⟩,
    ⟨some 54,.iaddr 2 (.t 52) (.t 53),none⟩,
    ⟨some 55,.faddr 1 (.t 54),none⟩,
    ⟨some 56,.load false 1 (.t 55),none⟩,
    ⟨some 57,.faddr 1 (.t 7),none⟩,
    ⟨some 58,.load false 1 (.t 57),none⟩,
    ⟨some 59,.bin .add (.t 56) (.t 58),none⟩,
    ⟨some 60,.best false [(.c (.one (.int .i64 1073741824))),(.t 59)],none⟩,
    ⟨some 61,.iaddr 2 (.t 50) (.t 51),none⟩,
    ⟨some 62,.faddr 1 (.t 61),none⟩,
    ⟨none,.store 1 (.t 62) (.t 60),none⟩]
def f291_24:AC:=.seq (.dreg f291_23) (.exit 1)
def f291_25:AC:=.cond (.t 49) f291_24 .skip
def f291_26:AC:=.seq (.dreg f291_22) f291_25
def f291_27 : List (List AI) := [[⟨some 64, .mov (.t 5), none⟩,
      ⟨some 65,.mov (.t 8),none⟩,
      ⟨some 66,.slice .slc 2 (.t 64) none (some (.t 65)) none,none⟩,
      ⟨some 71,.mov (.t 5),none⟩,
      ⟨some 72,.mov (.t 8),none⟩,
      ⟨some 63,.rowLit 2 [(.str []),(.int .i64 0)] 0 [],none⟩,
      ⟨some 67,.app 2 24 (.t 63) (.t 66),none⟩,
      ⟨some 68,.load true 2 (.t 7),none⟩,
      ⟨some 69,.rowLit 2 [(.str []),(.int .i64 0)] 1 [(0,(.t 68))],none⟩,
      ⟨some 70,.app 2 24 (.t 67) (.t 69),none⟩,
      ⟨some 73,.slice .slc 2 (.t 71) (some (.t 72)) none none,none⟩,
      ⟨some 74,.app 2 24 (.t 70) (.t 73),none⟩,
      ⟨some 5,.mov (.t 74),none⟩],[⟨some 64,.mov (.t 5),none⟩,
      ⟨some 65,.mov (.t 8),none⟩,
      ⟨some 66,.slice .slc 2 (.t 64) none (some (.t 65)) none,none⟩,
      ⟨some 68,.load true 2 (.t 7),none⟩,
      ⟨some 71,.mov (.t 5),none⟩,
      ⟨some 72,.mov (.t 8),none⟩,
      ⟨some 63,.rowLit 2 [(.str []),(.int .i64 0)] 0 [],none⟩,
      ⟨some 67,.app 2 24 (.t 63) (.t 66),none⟩,
      ⟨some 69,.rowLit 2 [(.str []),(.int .i64 0)] 1 [(0,(.t 68))],none⟩,
      ⟨some 70,.app 2 24 (.t 67) (.t 69),none⟩,
      ⟨some 73,.slice .slc 2 (.t 71) (some (.t 72)) none none,none⟩,
      ⟨some 74,.app 2 24 (.t 70) (.t 73),none⟩,
      ⟨some 5,.mov (.t 74),none⟩],[⟨some 64,.mov (.t 5),none⟩,
      ⟨some 65,.mov (.t 8),none⟩,
      ⟨some 66,.slice .slc 2 (.t 64) none (some (.t 65)) none,none⟩,
      ⟨some 68,.load true 2 (.t 7),none⟩,
      ⟨some 71,.mov (.t 5),none⟩,
      ⟨some 72,.mov (.t 8),none⟩,
      ⟨some 63,.rowLit 2 [(.str []),(.int .i64 0)] 0 [],none⟩,
      ⟨some 69,.rowLit 2 [(.str []),(.int .i64 0)] 1 [(0,(.t 68))],none⟩,
      ⟨some 67,.app 2 24 (.t 63) (.t 66),none⟩,
      ⟨some 70,.app 2 24 (.t 67) (.t 69),none⟩,
      ⟨some 73,.slice .slc 2 (.t 71) (some (.t 72)) none none,none⟩,
      ⟨some 74,.app 2 24 (.t 70) (.t 73),none⟩,
      ⟨some 5,.mov (.t 74),none⟩],[⟨some 64,.mov (.t 5),none⟩,
      ⟨some 65,.mov (.t 8),none⟩,
      ⟨some 66,.slice .slc 2 (.t 64) none (some (.t 65)) none,none⟩,
      ⟨some 68,.load true 2 (.t 7),none⟩,
      ⟨some 71,.mov (.t 5),none⟩,
      ⟨some 72,.mov (.t 8),none⟩,
      ⟨some 69,.rowLit 2 [(.str []),(.int .i64 0)] 1 [(0,(.t 68))],none⟩,
      ⟨some 63,.rowLit 2 [(.str []),(.int .i64 0)] 0 [],none⟩,
      ⟨some 67,.app 2 24 (.t 63) (.t 66),none⟩,
      ⟨some 70,.app 2 24 (.t 67) (.t 69),none⟩,
      ⟨some 73,.slice .slc 2 (.t 71) (some (.t 72)) none none,none⟩,
      ⟨some 74,.app 2 24 (.t 70) (.t 73),none⟩,
      ⟨some 5,.mov (.t 74),none⟩],[⟨some 64,.mov (.t 5),none⟩,
      ⟨some 65,.mov (.t 8),none⟩,
      ⟨some 66,.slice .slc 2 (.t 64) none (some (.t 65)) none,none⟩,
      ⟨some 71,.mov (.t 5),none⟩,
      ⟨some 72,.mov (.t 8),none⟩,
      ⟨some 63,.rowLit 2 [(.str []),(.int .i64 0)] 0 [],none⟩,
      ⟨some 67,.app 2 24 (.t 63) (.t 66),none⟩,
      ⟨some 68,.load true 2 (.t 7),none⟩,
      ⟨some 73,.slice .slc 2 (.t 71) (some (.t 72)) none none,none⟩,
      ⟨some 69,.rowLit 2 [(.str []),(.int .i64 0)] 1 [(0,(.t 68))],none⟩,
      ⟨some 70,.app 2 24 (.t 67) (.t 69),none⟩,
      ⟨some 74,.app 2 24 (.t 70) (.t 73),none⟩,
      ⟨some 5,.mov (.t 74),none⟩],[⟨some 64,.mov (.t 5),none⟩,
      ⟨some 65,.mov (.t 8),none⟩,
      ⟨some 66,.slice .slc 2 (.t 64) none (some (.t 65)) none,none⟩,
      ⟨some 68,.load true 2 (.t 7),none⟩,
      ⟨some 71,.mov (.t 5),none⟩,
      ⟨some 72,.mov (.t 8),none⟩,
      ⟨some 63,.rowLit 2 [(.str []),(.int .i64 0)] 0 [],none⟩,
      ⟨some 67,.app 2 24 (.t 63) (.t 66),none⟩,
      ⟨some 73,.slice .slc 2 (.t 71) (some (.t 72)) none none,none⟩,
      ⟨some 69,.rowLit 2 [(.str []),(.int .i64 0)] 1 [(0,(.t 68))],none⟩,
      ⟨some 70,.app 2 24 (.t 67) (.t 69),none⟩,
      ⟨some 74,.app 2 24 (.t 70) (.t 73),none⟩,
      ⟨some 5,.mov (.t 74),none⟩],[⟨some 64,.mov (.t 5),none⟩,
      ⟨some 65,.mov (.t 8),none⟩,
      ⟨some 66,.slice .slc 2 (.t 64) none (some (.t 65)) none,none⟩,
      ⟨some 68,.load true 2 (.t 7),none⟩,
      ⟨some 71,.mov (.t 5),none⟩,
      ⟨some 72,.mov (.t 8),none⟩,
      ⟨some 63,.rowLit 2 [(.str []),(.int .i64 0)] 0 [],none⟩,
      ⟨some 69,.rowLit 2 [(.str []),(.int .i64 0)] 1 [(0,(.t 68))],none⟩,
      ⟨some 67,.app 2 24 (.t 63) (.t 66),none⟩,
      ⟨some 73,.slice .slc 2 (.t 71) (some (.t 72)) none none,none⟩,
      ⟨some 70,.app 2 24 (.t 67) (.t 69),none⟩,
      ⟨some 74,.app 2 24 (.t 70) (.t 73),none⟩,
      ⟨some 5,.mov (.t 74),none⟩],[⟨some 64,.mov (.t 5),none⟩,
      ⟨some 65,.mov (.t 8),none⟩,
      ⟨some 66,.slice .slc 2 (.t 64) none (some (.t 65)) none,none⟩,
      ⟨some 68,.load true 2 (.t 7),none⟩,
      ⟨some 71,.mov (.t 5),none⟩,
      ⟨some 72,.mov (.t 8),none⟩,
      ⟨some 69,.rowLit 2 [(.str []),(.int .i64 0)] 1 [(0,(.t 68))],none⟩,
      ⟨some 63,.rowLit 2 [(.str []),(.int .i64 0)] 0 [],none⟩,
      ⟨some 67,.app 2 24 (.t 63) (.t 66),none⟩,
      ⟨some 73,.slice .slc 2 (.t 71) (some (.t 72)) none none,none⟩,
      ⟨some 70,.app 2 24 (.t 67) (.t 69),none⟩,
      ⟨some 74,.app 2 24 (.t 70) (.t 73),none⟩,
      ⟨some 5,.mov (.t 74),none⟩],[⟨some 64,.mov (.t 5),none⟩,
      ⟨some 65,.mov (.t 8),none⟩,
      ⟨some 66,.slice .slc 2 (.t 64) none (some (.t 65)) none,none⟩,
      ⟨some 71,.mov (.t 5),none⟩,
      ⟨some 72,.mov (.t 8),none⟩,
      ⟨some 73,.slice .slc 2 (.t 71) (some (.t 72)) none none,none⟩,
      ⟨some 63,.rowLit 2 [(.str []),(.int .i64 0)] 0 [],none⟩,
      ⟨some 67,.app 2 24 (.t 63) (.t 66),none⟩,
      ⟨some 68,.load true 2 (.t 7),none⟩,
      ⟨some 69,.rowLit 2 [(.str []),(.int .i64 0)] 1 [(0,(.t 68))],none⟩,
      ⟨some 70,.app 2 24 (.t 67) (.t 69),none⟩,
      ⟨some 74,.app 2 24 (.t 70) (.t 73),none⟩,
      ⟨some 5,.mov (.t 74),none⟩],[⟨some 64,.mov (.t 5),none⟩,
      ⟨some 65,.mov (.t 8),none⟩,
      ⟨some 66,.slice .slc 2 (.t 64) none (some (.t 65)) none,none⟩,
      ⟨some 68,.load true 2 (.t 7),none⟩,
      ⟨some 71,.mov (.t 5),none⟩,
      ⟨some 72,.mov (.t 8),none⟩,
      ⟨some 73,.slice .slc 2 (.t 71) (some (.t 72)) none none,none⟩,
      ⟨some 63,.rowLit 2 [(.str []),(.int .i64 0)] 0 [],none⟩,
      ⟨some 67,.app 2 24 (.t 63) (.t 66),none⟩,
      ⟨some 69,.rowLit 2 [(.str []),(.int .i64 0)] 1 [(0,(.t 68))],none⟩,
      ⟨some 70,.app 2 24 (.t 67) (.t 69),none⟩,
      ⟨some 74,.app 2 24 (.t 70) (.t 73),none⟩,
      ⟨some 5,.mov (.t 74),none⟩],[⟨some 64,.mov (.t 5),none⟩,
      ⟨some 65,.mov (.t 8),none⟩,
      ⟨some 66,.slice .slc 2 (.t 64) none (some (.t 65)) none,none⟩,
      ⟨some 68,.load true 2 (.t 7),none⟩,
      ⟨some 71,.mov (.t 5),none⟩,
      ⟨some 72,.mov (.t 8),none⟩,
      ⟨some 73,.slice .slc 2 (.t 71) (some (.t 72)) none none,none⟩,
      ⟨some 63,.rowLit 2 [(.str []),(.int .i64 0)] 0 [],none⟩,
      ⟨some 69,.rowLit 2 [(.str []),(.int .i64 0)] 1 [(0,(.t 68))],none⟩,
      ⟨some 67,.app 2 24 (.t 63) (.t 66),none⟩,
      ⟨some 70,.app 2 24 (.t 67) (.t 69),none⟩,
      ⟨some 74,.app 2 24 (.t 70) (.t 73),none⟩,
      ⟨some 5,.mov (.t 74),none⟩],[⟨some 64,.mov (.t 5),none⟩,
      ⟨some 65,.mov (.t 8),none⟩,
      ⟨some 66,.slice .slc 2 (.t 64) none (some (.t 65)) none,none⟩,
      ⟨some 68,.load true 2 (.t 7),none⟩,
      ⟨some 71,.mov (.t 5),none⟩,
      ⟨some 72,.mov (.t 8),none⟩,
      ⟨some 73,.slice .slc 2 (.t 71) (some (.t 72)) none none,none⟩,
      ⟨some 69,.rowLit 2 [(.str []),(.int .i64 0)] 1 [(0,(.t 68))],none⟩,
      ⟨some 63,.rowLit 2 [(.str []),(.int .i64 0)] 0 [],none⟩,
      ⟨some 67,.app 2 24 (.t 63) (.t 66),none⟩,
      ⟨some 70,.app 2 24 (.t 67) (.t 69),none⟩,
      ⟨some 74,.app 2 24 (.t 70) (.t 73),none⟩,
      ⟨some 5,.mov (.t 74),none⟩]]
def f291_28:AC:=.seq f291_26 (.dalt f291_27)
def f291_29:AC:=.seq f291_21 f291_28
def f291_30:AC:=.seq (.reg f291_13) f291_29
def f291_31:AC:=.seq (.reg f291_12) f291_30
def f291_32:AC:=.block 1 f291_31
def f291_33:List AI:=[⟨some 75,.bin .add (.t 16) (.c (.one (.int .i64 1))),none⟩,
    ⟨some 16,.mov (.t 75),none⟩]
def f291_34:AC:=.seq f291_32 (.reg f291_33)
def f291_35:AC:=.seq f291_11 f291_34
def f291_36:AC:=.seq (.reg f291_10) f291_35
def f291_37:AC:=.loop f291_36
def f291_38:AC:=.block 0 f291_37
def f291_39:AC:=.seq (.reg f291_9) f291_38
def f291_40:List AI:=[⟨some 76,.mov (.t 5),none⟩,
    ⟨some 77,.len .slc (.t 76),none⟩,
    ⟨some 78,.bin .gtr (.t 77) (.c (.one (.int .i64 65536))),none⟩]
def f291_41:List AI:=[⟨some 2,.mov (.c (.one .nils)),none⟩,
    ⟨some 3,.mov (.c (.one (.int .i64 6))),none⟩]
def f291_42:AC:=.seq (.reg f291_41) .ret
def f291_43:AC:=.cond (.t 78) f291_42 .skip
def f291_44:AC:=.seq (.reg f291_40) f291_43
def f291_45:List AI:=[⟨some 79,.mov (.t 5),none⟩,
    ⟨some 2,.mov (.t 79),none⟩,
    ⟨some 3,.mov (.c (.one (.int .i64 0))),none⟩]
def f291_46:AC:=.seq (.reg f291_45) .ret
def f291_47:AC:=.seq f291_44 f291_46
def f291_48:AC:=.seq f291_39 f291_47
def f291_49:AC:=.seq (.reg f291_8) f291_48
def f291_50:AC:=.seq f291_7 f291_49
def f291_51:AC:=.seq (.reg f291_0) f291_50
def f291B:AC:=f291_51
def f291:AF:=⟨1,80,[(.t 2),(.t 3)],f291B⟩
def f293_0:List AI:=[⟨some 0,.mov (.c (.one (.bool false))),none⟩]
def f293_1:List AI:=[⟨some 4,.build [(.str []),(.int .i64 0)] [(0,(1,(.c (.one (.str [98]))))),(1,(1,(.c (.one (.int .i64 1)))))],none⟩,
    ⟨some 5,.build [(.str []),(.int .i64 0)] [(0,(1,(.c (.one (.str [97]))))),(1,(1,(.c (.one (.int .i64 2)))))],none⟩,
    ⟨some 6,.build [(.str []),(.int .i64 0)] [(0,(1,(.c (.one (.str [98]))))),(1,(1,(.c (.one (.int .i64 3)))))],none⟩,
    ⟨some 7,.rowLit 2 [(.str []),(.int .i64 0)] 3 [(0,(.t 4)),(1,(.t 5)),(2,(.t 6))],none⟩,
    ⟨some 8,.call (.c (.one (.fn 295 []))) [(.t 7)],none⟩,
    ⟨some 3,.mov (.t 8),none⟩,
    ⟨some 9,.ext (.t 3) 0,none⟩,
    ⟨some 10,.ext (.t 3) 1,none⟩,
    ⟨some 1,.mov (.t 9),none⟩,
    ⟨some 2,.mov (.t 10),none⟩]
def f293_2:List AI:=[⟨some 11,.mov (.t 1),none⟩,
    ⟨some 12,.len .slc (.t 11),none⟩,
    ⟨some 13,.bin .eql (.t 12) (.c (.one (.int .i64 2))),none⟩,
    ⟨some 14,.mov (.t 13),none⟩,
    ⟨some 15,.mov (.t 1),some (14,true)⟩,
    ⟨some 16,.iaddr 2 (.t 15) (.c (.one (.int .i64 0))),some (14,true)⟩,
    ⟨some 17,.faddr 0 (.t 16),some (14,true)⟩,
    ⟨some 18,.load false 1 (.t 17),some (14,true)⟩,
    ⟨some 19,.bin .eql (.t 18) (.c (.one (.str [97]))),some (14,true)⟩,
    ⟨some 20,.pick (.t 14) (.t 19) (.c (.one (.bool false))),none⟩,
    ⟨some 21,.mov (.t 20),none⟩,
    ⟨some 22,.mov (.t 1),some (21,true)⟩,
    ⟨some 23,.iaddr 2 (.t 22) (.c (.one (.int .i64 1))),some (21,true)⟩,
    ⟨some 24,.faddr 1 (.t 23),some (21,true)⟩,
    ⟨some 25,.load false 1 (.t 24),some (21,true)⟩,
    ⟨some 26,.bin .eql (.t 25) (.c (.one (.int .i64 4))),some (21,true)⟩,
    ⟨some 27,.pick (.t 21) (.t 26) (.c (.one (.bool false))),none⟩,
    ⟨some 28,.mov (.t 27),none⟩,
    ⟨some 29,.mov (.t 2),some (28,true)⟩,
    ⟨some 30,.bin .eql (.t 29) (.c (.one (.int .i64 0))),some (28,true)⟩,
    ⟨some 31,.pick (.t 28) (.t 30) (.c (.one (.bool false))),none⟩,
    ⟨some 32,.mov (.t 31),none⟩,
    ⟨some 33,.build [(.str []),(.int .i64 0)] [],some (32,true)⟩,
    ⟨some 34,.call (.c (.one (.fn 298 []))) [(.t 33)],some (32,true)⟩,
    ⟨some 35,.bin .eql (.t 34) (.c (.one (.int .i64 4))),some (32,true)⟩,
    ⟨some 36,.pick (.t 32) (.t 35) (.c (.one (.bool false))),none⟩,
    ⟨some 0,.mov (.t 36),none⟩]
def f293_3:AC:=.seq (.reg f293_2) .ret
def f293_4:AC:=.seq (.reg f293_1) f293_3
def f293_5:AC:=.seq (.reg f293_0) f293_4
def f293B:AC:=f293_5
def f293:AF:=⟨0,37,[(.t 0)],f293B⟩
def f294_0:List AI:=[⟨some 2,.mov (.c (.one (.bool false))),none⟩]
def f294_1:List AI:=[⟨some 3,.mov (.c (.one (.int .i64 0))),none⟩]
def f294_2:List AI:=[⟨some 6,.mov (.t 0),none⟩,
    ⟨some 7,.len .slc (.t 6),none⟩,
    ⟨some 8,.mov (.c (.one (.int .i64 0))),none⟩]
def f294_3:List AI:=[⟨some 9,.bin .lss (.t 8) (.t 7),none⟩]
def f294_4:AC:=.cond (.t 9) .skip (.exit 0)
def f294_5:List AI:=[⟨some 10,.iaddr 2 (.t 6) (.t 8),none⟩,
    ⟨some 11,.load true 2 (.t 10),none⟩,
    ⟨some 5,.new [(.str []),(.int .i64 0)],none⟩,
    ⟨none,.store 2 (.t 5) (.t 11),none⟩]
def f294_6:List AI:=[⟨some 12,.mov (.t 3),none⟩,
    ⟨some 13,.faddr 0 (.t 5),none⟩,
    ⟨some 14,.load false 1 (.t 13),none⟩,
    ⟨some 15,.len .str (.t 14),none⟩,
    ⟨some 16,.bin .add (.t 12) (.t 15),none⟩,
    ⟨some 3,.mov (.t 16),none⟩]
def f294_7:AC:=.seq (.reg f294_5) (.reg f294_6)
def f294_8:AC:=.block 1 f294_7
def f294_9:List AI:=[⟨some 17,.bin .add (.t 8) (.c (.one (.int .i64 1))),none⟩,
    ⟨some 8,.mov (.t 17),none⟩]
def f294_10:AC:=.seq f294_8 (.reg f294_9)
def f294_11:AC:=.seq f294_4 f294_10
def f294_12:AC:=.seq (.reg f294_3) f294_11
def f294_13:AC:=.loop f294_12
def f294_14:AC:=.block 0 f294_13
def f294_15:AC:=.seq (.reg f294_2) f294_14
def f294_16:List AI:=[⟨some 18,.mov (.t 0),none⟩,
    ⟨some 19,.len .slc (.t 18),none⟩,
    ⟨some 20,.bin .gtr (.t 19) (.c (.one (.int .i64 500))),none⟩,
    ⟨some 21,.mov (.t 20),none⟩,
    ⟨some 22,.mov (.t 3),some (21,false)⟩,
    ⟨some 23,.bin .gtr (.t 22) (.c (.one (.int .i64 8000))),some (21,false)⟩,
    ⟨some 24,.pick (.t 21) (.c (.one (.bool true))) (.t 23),none⟩,
    ⟨some 2,.mov (.t 24),none⟩]
def f294_17:AC:=.seq (.reg f294_16) .ret
def f294_18:AC:=.seq f294_15 f294_17
def f294_19:AC:=.seq (.reg f294_1) f294_18
def f294_20:AC:=.seq (.reg f294_0) f294_19
def f294B:AC:=f294_20
def f294:AF:=⟨1,25,[(.t 2)],f294B⟩
def f295_0:List AI:=[⟨some 2,.mov (.c (.one .nils)),none⟩,
    ⟨some 3,.mov (.c (.one (.int .i64 0))),none⟩]
def f295_1:List AI:=[⟨some 9,.mov (.t 0),none⟩,
    ⟨some 10,.call (.c (.one (.fn 318 []))) [(.t 9)],none⟩,
    ⟨some 4,.mov (.t 10),none⟩]
def f295_2:List AI:=[⟨some 11,.mov (.t 4),none⟩,
    ⟨some 12,.bin .neq (.t 11) (.c (.one (.int .i64 0))),none⟩]
def f295_3:List AI:=[⟨some 13,.mov (.t 4),none⟩,
    ⟨some 2,.mov (.c (.one .nils)),none⟩,
    ⟨some 3,.mov (.t 13),none⟩]
def f295_4:AC:=.seq (.reg f295_3) .ret
def f295_5:AC:=.cond (.t 12) f295_4 .skip
def f295_6:AC:=.seq (.reg f295_2) f295_5
def f295_7:AC:=.seq (.reg f295_1) f295_6
def f295_8:List AI:=[⟨some 5,.mov (.c (.one .nils)),none⟩]
def f295_9:List AI:=[⟨some 14,.mov (.t 0),none⟩,
    ⟨some 15,.call (.c (.one (.fn 320 []))) [(.t 14)],none⟩,
    ⟨some 16,.call (.c (.one (.fn 319 []))) [(.t 15),(.c (.one (.fn 321 [])))],none⟩,
    ⟨some 17,.len .slc (.t 16),none⟩,
    ⟨some 18,.mov (.c (.one (.int .i64 0))),none⟩]
def f295_10:List AI:=[⟨some 19,.bin .lss (.t 18) (.t 17),none⟩]
def f295_11:AC:=.cond (.t 19) .skip (.exit 0)
def f295_12:List AI:=[⟨some 20,.iaddr 2 (.t 16) (.t 18),none⟩,
    ⟨some 21,.load true 2 (.t 20),none⟩,
    ⟨some 7,.new [(.str []),(.int .i64 0)],none⟩,
    ⟨none,.store 2 (.t 7) (.t 21),none⟩]
def f295_13:List AI:=[⟨some 22,.mov (.t 5),none⟩,
    ⟨some 23,.len .slc (.t 22),none⟩,
    ⟨some 8,.mov (.t 23),none⟩]
def f295_14:List AI:=[⟨some 24,.mov (.t 8),none⟩,
    ⟨some 25,.bin .gtr (.t 24) (.c (.one (.int .i64 0))),none⟩,
    ⟨some 26,.mov (.t 25),none⟩,
    ⟨some 27,.mov (.t 5),some (26,true)⟩,
    ⟨some 28,.mov (.t 8),some (26,true)⟩,
    ⟨some 29,.bin .sub (.t 28) (.c (.one (.int .i64 1))),some (26,true)⟩,
    ⟨some 30,.iaddr 2 (.t 27) (.t 29),some (26,true)⟩,
    ⟨some 31,.faddr 0 (.t 30),some (26,true)⟩,
    ⟨some 32,.load false 1 (.t 31),some (26,true)⟩,
    ⟨some 33,.faddr 0 (.t 7),some (26,true)⟩,
    ⟨some 34,.load false 1 (.t 33),some (26,true)⟩,
    ⟨some 35,.bin .eql (.t 32) (.t 34),some (26,true)⟩,
    ⟨some 36,.pick (.t 26) (.t 35) (.c (.one (.bool false))),none⟩]
def f295_15:List AI:=[⟨some 37,.mov (.t 5),none⟩,
    ⟨some 38,.mov (.t 8),none⟩,
    ⟨some 39,.bin .sub (.t 38) (.c (.one (.int .i64 1))),none⟩,
    ⟨some 40,.mov (.t 5),none⟩,
    ⟨some 41,.mov (.t 8),none⟩,
    ⟨some 42,.bin .sub (.t 41) (.c (.one (.int .i64 1))),none⟩,
    ⟨some 43,.iaddr 2 (.t 40) (.t 42),none⟩,
    ⟨some 44,.faddr 1 (.t 43),none⟩,
    ⟨some 45,.load false 1 (.t 44),none⟩,
    ⟨some 46,.faddr 1 (.t 7),none⟩,
    ⟨some 47,.load false 1 (.t 46),none⟩,
    ⟨some 48,.bin .add (.t 45) (.t 47),none⟩,
    ⟨some 49,.best false [(.t 48),(.c (.one (.int .i64 1073741824)))],none⟩,
    ⟨some 50,.iaddr 2 (.t 37) (.t 39),none⟩,
    ⟨some 51,.faddr 1 (.t 50),none⟩,
    ⟨none,.store 1 (.t 51) (.t 49),none⟩]
def f295_16:AC:=.seq (.dreg f295_15) (.exit 1)
def f295_17:AC:=.cond (.t 36) f295_16 .skip
def f295_18:AC:=.seq (.dreg f295_14) f295_17
def f295_19:AC:=.seq (.reg f295_13) f295_18
def f295_20:List AI:=[⟨some 52,.mov (.t 5),none⟩,
    ⟨some 53,.load true 2 (.t 7),none⟩,
    ⟨some 54,.rowLit 2 [(.str []),(.int .i64 0)] 1 [(0,(.t 53))],none⟩,
    ⟨some 55,.app 2 24 (.t 52) (.t 54),none⟩,
    ⟨some 5,.mov (.t 55),none⟩]
def f295_21:AC:=.seq f295_19 (.reg f295_20)
def f295_22:AC:=.seq (.reg f295_12) f295_21
def f295_23:AC:=.block 1 f295_22
def f295_24:List AI:=[⟨some 56,.bin .add (.t 18) (.c (.one (.int .i64 1))),none⟩,
    ⟨some 18,.mov (.t 56),none⟩]
def f295_25:AC:=.seq f295_23 (.reg f295_24)
def f295_26:AC:=.seq f295_11 f295_25
def f295_27:AC:=.seq (.reg f295_10) f295_26
def f295_28:AC:=.loop f295_27
def f295_29:AC:=.block 0 f295_28
def f295_30:AC:=.seq (.reg f295_9) f295_29
def f295_31:List AI:=[⟨some 57,.mov (.t 5),none⟩,
    ⟨some 58,.len .slc (.t 57),none⟩,
    ⟨some 59,.bin .gtr (.t 58) (.c (.one (.int .i64 65536))),none⟩]
def f295_32:List AI:=[⟨some 2,.mov (.c (.one .nils)),none⟩,
    ⟨some 3,.mov (.c (.one (.int .i64 6))),none⟩]
def f295_33:AC:=.seq (.reg f295_32) .ret
def f295_34:AC:=.cond (.t 59) f295_33 .skip
def f295_35:AC:=.seq (.reg f295_31) f295_34
def f295_36:List AI:=[⟨some 60,.mov (.t 5),none⟩,
    ⟨some 2,.mov (.t 60),none⟩,
    ⟨some 3,.mov (.c (.one (.int .i64 0))),none⟩]
def f295_37:AC:=.seq (.reg f295_36) .ret
def f295_38:AC:=.seq f295_35 f295_37
def f295_39:AC:=.seq f295_30 f295_38
def f295_40:AC:=.seq (.reg f295_8) f295_39
def f295_41:AC:=.seq f295_7 f295_40
def f295_42:AC:=.seq (.reg f295_0) f295_41
def f295B:AC:=f295_42
def f295:AF:=⟨1,61,[(.t 2),(.t 3)],f295B⟩
def f296_0:List AI:=[⟨some 2,.mov (.c (.one (.int .i64 0))),none⟩]
def f296_1:List AI:=[⟨some 5,.mov (.t 0),none⟩,
    ⟨some 6,.call (.c (.one (.fn 318 []))) [(.t 5)],none⟩,
    ⟨some 3,.mov (.t 6),none⟩]
def f296_2:List AI:=[⟨some 7,.mov (.t 3),none⟩,
    ⟨some 8,.bin .neq (.t 7) (.c (.one (.int .i64 0))),none⟩]
def f296_3:List AI:=[⟨some 9,.mov (.t 3),none⟩,
    ⟨some 2,.mov (.t 9),none⟩]
def f296_4:AC:=.seq (.reg f296_3) .ret
def f296_5:AC:=.cond (.t 8) f296_4 .skip
def f296_6:AC:=.seq (.reg f296_2) f296_5
def f296_7:AC:=.seq (.reg f296_1) f296_6
def f296_8:List AI:=[⟨some 10,.mov (.t 0),none⟩,
    ⟨some 11,.len .slc (.t 10),none⟩,
    ⟨some 12,.mov (.c (.one (.int .i64 0))),none⟩]
def f296_9:List AI:=[⟨some 13,.bin .lss (.t 12) (.t 11),none⟩]
def f296_10:AC:=.cond (.t 13) .skip (.exit 0)
def f296_11:List AI:=[⟨some 14,.mov (.t 12),none⟩,
    ⟨some 4,.mov (.t 14),none⟩]
def f296_12:List AI:=[⟨some 15,.mov (.t 4),none⟩,
    ⟨some 16,.bin .gtr (.t 15) (.c (.one (.int .i64 0))),none⟩,
    ⟨some 17,.mov (.t 16),none⟩,
    ⟨some 18,.mov (.t 0),some (17,true)⟩,
    ⟨some 19,.mov (.t 4),some (17,true)⟩,
    ⟨some 20,.bin .sub (.t 19) (.c (.one (.int .i64 1))),some (17,true)⟩,
    ⟨some 21,.iaddr 2 (.t 18) (.t 20),some (17,true)⟩,
    ⟨some 22,.faddr 0 (.t 21),some (17,true)⟩,
    ⟨some 23,.load false 1 (.t 22),some (17,true)⟩,
    ⟨some 24,.mov (.t 0),some (17,true)⟩,
    ⟨some 25,.mov (.t 4),some (17,true)⟩,
    ⟨some 26,.iaddr 2 (.t 24) (.t 25),some (17,true)⟩,
    ⟨some 27,.faddr 0 (.t 26),some (17,true)⟩,
    ⟨some 28,.load false 1 (.t 27),some (17,true)⟩,
    ⟨some 29,.bin .geq (.t 23) (.t 28),some (17,true)⟩,
    ⟨some 30,.pick (.t 17) (.t 29) (.c (.one (.bool false))),none⟩]
def f296_13:List AI:=[⟨some 2,.mov (.c (.one (.int .i64 7))),none⟩]
def f296_14:AC:=.seq (.reg f296_13) .ret
def f296_15:AC:=.cond (.t 30) f296_14 .skip
def f296_16:AC:=.seq (.dreg f296_12) f296_15
def f296_17:AC:=.seq (.reg f296_11) f296_16
def f296_18:AC:=.block 1 f296_17
def f296_19:List AI:=[⟨some 31,.bin .add (.t 12) (.c (.one (.int .i64 1))),none⟩,
    ⟨some 12,.mov (.t 31),none⟩]
def f296_20:AC:=.seq f296_18 (.reg f296_19)
def f296_21:AC:=.seq f296_10 f296_20
def f296_22:AC:=.seq (.reg f296_9) f296_21
def f296_23:AC:=.loop f296_22
def f296_24:AC:=.block 0 f296_23
def f296_25:AC:=.seq (.reg f296_8) f296_24
def f296_26:List AI:=[⟨some 32,.mov (.t 0),none⟩,
    ⟨some 33,.len .slc (.t 32),none⟩,
    ⟨some 34,.bin .gtr (.t 33) (.c (.one (.int .i64 65536))),none⟩]
def f296_27:List AI:=[⟨some 2,.mov (.c (.one (.int .i64 6))),none⟩]
def f296_28:AC:=.seq (.reg f296_27) .ret
def f296_29:AC:=.cond (.t 34) f296_28 .skip
def f296_30:AC:=.seq (.reg f296_26) f296_29
def f296_31:List AI:=[⟨some 2,.mov (.c (.one (.int .i64 0))),none⟩]
def f296_32:AC:=.seq (.reg f296_31) .ret
def f296_33:AC:=.seq f296_30 f296_32
def f296_34:AC:=.seq f296_25 f296_33
def f296_35:AC:=.seq f296_7 f296_34
def f296_36:AC:=.seq (.reg f296_0) f296_35
def f296B:AC:=f296_36
def f296:AF:=⟨1,35,[(.t 2)],f296B⟩
def f297_0:List AI:=[⟨some 2,.mov (.c (.one (.int .i64 0))),none⟩]
def f297_1:List AI:=[⟨some 5,.mov (.t 0),none⟩,
    ⟨some 6,.call (.c (.one (.fn 317 []))) [(.t 5)],none⟩,
    ⟨some 3,.mov (.t 6),none⟩]
def f297_2:List AI:=[⟨some 7,.mov (.t 3),none⟩,
    ⟨some 8,.bin .neq (.t 7) (.c (.one (.int .i64 0))),none⟩]
def f297_3:List AI:=[⟨some 9,.mov (.t 3),none⟩,
    ⟨some 2,.mov (.t 9),none⟩]
def f297_4:AC:=.seq (.reg f297_3) .ret
def f297_5:AC:=.cond (.t 8) f297_4 .skip
def f297_6:AC:=.seq (.reg f297_2) f297_5
def f297_7:AC:=.seq (.reg f297_1) f297_6
def f297_8:List AI:=[⟨some 10,.mov (.t 0),none⟩,
    ⟨some 11,.len .slc (.t 10),none⟩,
    ⟨some 12,.mov (.c (.one (.int .i64 0))),none⟩]
def f297_9:List AI:=[⟨some 13,.bin .lss (.t 12) (.t 11),none⟩]
def f297_10:AC:=.cond (.t 13) .skip (.exit 0)
def f297_11:List AI:=[⟨some 14,.mov (.t 12),none⟩,
    ⟨some 4,.mov (.t 14),none⟩]
def f297_12:List AI:=[⟨some 15,.mov (.t 4),none⟩,
    ⟨some 16,.bin .gtr (.t 15) (.c (.one (.int .i64 0))),none⟩,
    ⟨some 17,.mov (.t 16),none⟩,
    ⟨some 18,.mov (.t 0),some (17,true)⟩,
    ⟨some 19,.mov (.t 4),some (17,true)⟩,
    ⟨some 20,.bin .sub (.t 19) (.c (.one (.int .i64 1))),some (17,true)⟩,
    ⟨some 21,.iaddr 2 (.t 18) (.t 20),some (17,true)⟩,
    ⟨some 22,.faddr 0 (.t 21),some (17,true)⟩,
    ⟨some 23,.load false 1 (.t 22),some (17,true)⟩,
    ⟨some 24,.mov (.t 0),some (17,true)⟩,
    ⟨some 25,.mov (.t 4),some (17,true)⟩,
    ⟨some 26,.iaddr 2 (.t 24) (.t 25),some (17,true)⟩,
    ⟨some 27,.faddr 0 (.t 26),some (17,true)⟩,
    ⟨some 28,.load false 1 (.t 27),some (17,true)⟩,
    ⟨some 29,.bin .geq (.t 23) (.t 28),some (17,true)⟩,
    ⟨some 30,.pick (.t 17) (.t 29) (.c (.one (.bool false))),none⟩]
def f297_13:List AI:=[⟨some 2,.mov (.c (.one (.int .i64 7))),none⟩]
def f297_14:AC:=.seq (.reg f297_13) .ret
def f297_15:AC:=.cond (.t 30) f297_14 .skip
def f297_16:AC:=.seq (.dreg f297_12) f297_15
def f297_17:AC:=.seq (.reg f297_11) f297_16
def f297_18:AC:=.block 1 f297_17
def f297_19:List AI:=[⟨some 31,.bin .add (.t 12) (.c (.one (.int .i64 1))),none⟩,
    ⟨some 12,.mov (.t 31),none⟩]
def f297_20:AC:=.seq f297_18 (.reg f297_19)
def f297_21:AC:=.seq f297_10 f297_20
def f297_22:AC:=.seq (.reg f297_9) f297_21
def f297_23:AC:=.loop f297_22
def f297_24:AC:=.block 0 f297_23
def f297_25:AC:=.seq (.reg f297_8) f297_24
def f297_26:List AI:=[⟨some 32,.mov (.t 0),none⟩,
    ⟨some 33,.len .slc (.t 32),none⟩,
    ⟨some 34,.bin .gtr (.t 33) (.c (.one (.int .i64 65536))),none⟩]
def f297_27:List AI:=[⟨some 2,.mov (.c (.one (.int .i64 6))),none⟩]
def f297_28:AC:=.seq (.reg f297_27) .ret
def f297_29:AC:=.cond (.t 34) f297_28 .skip
def f297_30:AC:=.seq (.reg f297_26) f297_29
def f297_31:List AI:=[⟨some 2,.mov (.c (.one (.int .i64 0))),none⟩]
def f297_32:AC:=.seq (.reg f297_31) .ret
def f297_33:AC:=.seq f297_30 f297_32
def f297_34:AC:=.seq f297_25 f297_33
def f297_35:AC:=.seq f297_7 f297_34
def f297_36:AC:=.seq (.reg f297_0) f297_35
def f297B:AC:=f297_36
def f297:AF:=⟨1,35,[(.t 2)],f297B⟩
def f298_0:List AI:=[⟨some 1,.box (.t 0),none⟩,
    ⟨some 2,.mov (.c (.one (.int .i64 0))),none⟩]
def f298_1:List AI:=[⟨some 6,.faddr 0 (.t 1),none⟩,
    ⟨some 7,.load false 1 (.t 6),none⟩,
    ⟨some 8,.call (.c (.one (.fn 20 []))) [(.t 7)],none⟩,
    ⟨some 5,.mov (.t 8),none⟩,
    ⟨some 9,.ext (.t 5) 0,none⟩,
    ⟨some 10,.ext (.t 5) 1,none⟩,
    ⟨some 3,.mov (.t 9),none⟩,
    ⟨some 4,.mov (.t 10),none⟩]
def f298_2:List AI:=[⟨some 11,.mov (.t 4),none⟩,
    ⟨some 12,.bin .eql (.t 11) (.c (.one (.int .i64 0))),none⟩,
    ⟨some 13,.mov (.t 12),none⟩,
    ⟨some 14,.faddr 1 (.t 1),some (13,true)⟩,
    ⟨some 15,.load false 1 (.t 14),some (13,true)⟩,
    ⟨some 16,.bin .lss (.t 15) (.c (.one (.int .i64 1))),some (13,true)⟩,
    ⟨some 17,.mov (.t 16),some (13,true)⟩,
    ⟨some 18,.faddr 1 (.t 1),some (17,false)⟩,
    ⟨some 19,.load false 1 (.t 18),some (17,false)⟩,
    ⟨some 20,.bin .gtr (.t 19) (.c (.one (.int .i64 1073741824))),some (17,false)⟩,
    ⟨some 21,.pick (.t 17) (.c (.one (.bool true))) (.t 20),some (13,true)⟩,
    ⟨some 22,.pick (.t 13) (.t 21) (.c (.one (.bool false))),none⟩]
def f298_3:List AI:=[⟨some 2,.mov (.c (.one (.int .i64 2))),none⟩]
def f298_4:AC:=.seq (.reg f298_3) .ret
def f298_5:AC:=.cond (.t 22) f298_4 .skip
def f298_6:AC:=.seq (.reg f298_2) f298_5
def f298_7:List AI:=[⟨some 23,.mov (.t 4),none⟩,
    ⟨some 2,.mov (.t 23),none⟩]
def f298_8:AC:=.seq (.reg f298_7) .ret
def f298_9:AC:=.seq f298_6 f298_8
def f298_10:AC:=.seq (.reg f298_1) f298_9
def f298_11:AC:=.seq (.reg f298_0) f298_10
def f298B:AC:=f298_11
def f298:AF:=⟨1,24,[(.t 2)],f298B⟩
def f299_0:List AI:=[⟨some 1,.box (.t 0),none⟩,
    ⟨some 2,.mov (.c (.one (.int .i64 0))),none⟩]
def f299_1:List AI:=[⟨some 6,.faddr 0 (.t 1),none⟩,
    ⟨some 7,.load false 1 (.t 6),none⟩,
    ⟨some 8,.call (.c (.one (.fn 21 []))) [(.t 7)],none⟩,
    ⟨some 5,.mov (.t 8),none⟩,
    ⟨some 9,.ext (.t 5) 0,none⟩,
    ⟨some 10,.ext (.t 5) 1,none⟩,
    ⟨some 3,.mov (.t 9),none⟩,
    ⟨some 4,.mov (.t 10),none⟩]
def f299_2:List AI:=[⟨some 11,.mov (.t 4),none⟩,
    ⟨some 12,.bin .neq (.t 11) (.c (.one (.int .i64 0))),none⟩]
def f299_3:List AI:=[⟨some 13,.mov (.t 4),none⟩,
    ⟨some 2,.mov (.t 13),none⟩]
def f299_4:AC:=.seq (.reg f299_3) .ret
def f299_5:AC:=.cond (.t 12) f299_4 .skip
def f299_6:AC:=.seq (.reg f299_2) f299_5
def f299_7:AC:=.seq (.reg f299_1) f299_6
def f299_8:List AI:=[⟨some 14,.faddr 1 (.t 1),none⟩,
    ⟨some 15,.load false 1 (.t 14),none⟩,
    ⟨some 16,.bin .lss (.t 15) (.c (.one (.int .i64 1))),none⟩,
    ⟨some 17,.mov (.t 16),none⟩,
    ⟨some 18,.faddr 1 (.t 1),some (17,false)⟩,
    ⟨some 19,.load false 1 (.t 18),some (17,false)⟩,
    ⟨some 20,.bin .gtr (.t 19) (.c (.one (.int .i64 1073741824))),some (17,false)⟩,
    ⟨some 21,.pick (.t 17) (.c (.one (.bool true))) (.t 20),none⟩]
def f299_9:List AI:=[⟨some 2,.mov (.c (.one (.int .i64 2))),none⟩]
def f299_10:AC:=.seq (.reg f299_9) .ret
def f299_11:AC:=.cond (.t 21) f299_10 .skip
def f299_12:AC:=.seq (.reg f299_8) f299_11
def f299_13:List AI:=[⟨some 2,.mov (.c (.one (.int .i64 0))),none⟩]
def f299_14:AC:=.seq (.reg f299_13) .ret
def f299_15:AC:=.seq f299_12 f299_14
def f299_16:AC:=.seq f299_7 f299_15
def f299_17:AC:=.seq (.reg f299_0) f299_16
def f299B:AC:=f299_17
def f299:AF:=⟨1,22,[(.t 2)],f299B⟩
def f300_0:List AI:=[⟨some 4,.mov (.c (.one (.bool false))),none⟩]
def f300_1:List AI:=[⟨some 6,.mov (.t 0),none⟩,
    ⟨some 7,.len .slc (.t 6),none⟩,
    ⟨some 8,.mov (.t 1),none⟩,
    ⟨some 9,.len .slc (.t 8),none⟩,
    ⟨some 10,.bin .neq (.t 7) (.t 9),none⟩]
def f300_2:List AI:=[⟨some 4,.mov (.c (.one (.bool false))),none⟩]
def f300_3:AC:=.seq (.reg f300_2) .ret
def f300_4:AC:=.cond (.t 10) f300_3 .skip
def f300_5:AC:=.seq (.reg f300_1) f300_4
def f300_6:List AI:=[⟨some 11,.mov (.t 0),none⟩,
    ⟨some 12,.len .slc (.t 11),none⟩,
    ⟨some 13,.mov (.c (.one (.int .i64 0))),none⟩]
def f300_7:List AI:=[⟨some 14,.bin .lss (.t 13) (.t 12),none⟩]
def f300_8:AC:=.cond (.t 14) .skip (.exit 0)
def f300_9:List AI:=[⟨some 15,.mov (.t 13),none⟩,
    ⟨some 5,.mov (.t 15),none⟩]
def f300_10:List AI:=[⟨some 16,.mov (.t 0),none⟩,
    ⟨some 17,.mov (.t 5),none⟩,
    ⟨some 18,.iaddr 2 (.t 16) (.t 17),none⟩,
    ⟨some 19,.load true 2 (.t 18),none⟩,
    ⟨some 20,.mov (.t 1),none⟩,
    ⟨some 21,.mov (.t 5),none⟩,
    ⟨some 22,.iaddr 2 (.t 20) (.t 21),none⟩,
    ⟨some 23,.load true 2 (.t 22),none⟩,
    ⟨some 24,.eqv (.cells [.str,(.int .i64)]) true (.t 19) (.t 23),none⟩]
def f300_11:List AI:=[⟨some 4,.mov (.c (.one (.bool false))),none⟩]
def f300_12:AC:=.seq (.reg f300_11) .ret
def f300_13:AC:=.cond (.t 24) f300_12 .skip
def f300_14:AC:=.seq (.dreg f300_10) f300_13
def f300_15:AC:=.seq (.reg f300_9) f300_14
def f300_16:AC:=.block 1 f300_15
def f300_17:List AI:=[⟨some 25,.bin .add (.t 13) (.c (.one (.int .i64 1))),none⟩,
    ⟨some 13,.mov (.t 25),none⟩]
def f300_18:AC:=.seq f300_16 (.reg f300_17)
def f300_19:AC:=.seq f300_8 f300_18
def f300_20:AC:=.seq (.reg f300_7) f300_19
def f300_21:AC:=.loop f300_20
def f300_22:AC:=.block 0 f300_21
def f300_23:AC:=.seq (.reg f300_6) f300_22
def f300_24:List AI:=[⟨some 4,.mov (.c (.one (.bool true))),none⟩]
def f300_25:AC:=.seq (.reg f300_24) .ret
def f300_26:AC:=.seq f300_23 f300_25
def f300_27:AC:=.seq f300_5 f300_26
def f300_28:AC:=.seq (.reg f300_0) f300_27
def f300B:AC:=f300_28
def f300:AF:=⟨2,26,[(.t 4)],f300B⟩
def f303_0:List AI:=[⟨some 4,.mov (.c (.one (.int .i64 0))),none⟩,
    ⟨some 5,.mov (.c (.one (.int .i64 0))),none⟩]
def f303_1:List AI:=[⟨some 9,.mov (.t 0),none⟩,
    ⟨some 10,.call (.c (.one (.fn 296 []))) [(.t 9)],none⟩,
    ⟨some 6,.mov (.t 10),none⟩]
def f303_2:List AI:=[⟨some 11,.mov (.t 6),none⟩,
    ⟨some 12,.bin .neq (.t 11) (.c (.one (.int .i64 0))),none⟩]
def f303_3:List AI:=[⟨some 13,.mov (.t 6),none⟩,
    ⟨some 4,.mov (.c (.one (.int .i64 0))),none⟩,
    ⟨some 5,.mov (.t 13),none⟩]
def f303_4:AC:=.seq (.reg f303_3) .ret
def f303_5:AC:=.cond (.t 12) f303_4 .skip
def f303_6:AC:=.seq (.reg f303_2) f303_5
def f303_7:AC:=.seq (.reg f303_1) f303_6
def f303_8:List AI:=[⟨some 15,.mov (.t 0),none⟩,
    ⟨some 16,.mov (.t 1),none⟩,
    ⟨some 17,.call (.c (.one (.fn 324 []))) [(.t 15),(.t 16)],none⟩,
    ⟨some 14,.mov (.t 17),none⟩,
    ⟨some 18,.ext (.t 14) 0,none⟩,
    ⟨some 19,.ext (.t 14) 1,none⟩,
    ⟨some 7,.mov (.t 18),none⟩,
    ⟨some 8,.mov (.t 19),none⟩]
def f303_9:List AI:=[⟨some 20,.mov (.t 8),none⟩,
    ⟨some 21,.un .not (.t 20),none⟩]
def f303_10:List AI:=[⟨some 4,.mov (.c (.one (.int .i64 0))),none⟩,
    ⟨some 5,.mov (.c (.one (.int .i64 10))),none⟩]
def f303_11:AC:=.seq (.reg f303_10) .ret
def f303_12:AC:=.cond (.t 21) f303_11 .skip
def f303_13:AC:=.seq (.reg f303_9) f303_12
def f303_14:List AI:=[⟨some 22,.mov (.t 0),none⟩,
    ⟨some 23,.mov (.t 7),none⟩,
    ⟨some 24,.iaddr 2 (.t 22) (.t 23),none⟩,
    ⟨some 25,.faddr 1 (.t 24),none⟩,
    ⟨some 26,.load false 1 (.t 25),none⟩,
    ⟨some 4,.mov (.t 26),none⟩,
    ⟨some 5,.mov (.c (.one (.int .i64 0))),none⟩]
def f303_15:AC:=.seq (.reg f303_14) .ret
def f303_16:AC:=.seq f303_13 f303_15
def f303_17:AC:=.seq (.reg f303_8) f303_16
def f303_18:AC:=.seq f303_7 f303_17
def f303_19:AC:=.seq (.reg f303_0) f303_18
def f303B:AC:=f303_19
def f303:AF:=⟨2,27,[(.t 4),(.t 5)],f303B⟩
def f305_0:List AI:=[⟨some 3,.box (.t 1),none⟩,
    ⟨some 4,.mov (.c (.one (.int .i64 0))),none⟩,
    ⟨some 5,.mov (.c (.one (.int .i64 0))),none⟩,
    ⟨some 6,.mov (.c (.one (.int .i64 0))),none⟩]
def f305_1:List AI:=[⟨some 13,.mov (.t 0),none⟩,
    ⟨some 14,.call (.c (.one (.fn 296 []))) [(.t 13)],none⟩,
    ⟨some 7,.mov (.t 14),none⟩]
def f305_2:List AI:=[⟨some 15,.mov (.t 7),none⟩,
    ⟨some 16,.bin .neq (.t 15) (.c (.one (.int .i64 0))),none⟩]
def f305_3:List AI:=[⟨some 17,.mov (.t 7),none⟩,
    ⟨some 4,.mov (.c (.one (.int .i64 0))),none⟩,
    ⟨some 5,.mov (.c (.one (.int .i64 0))),none⟩,
    ⟨some 6,.mov (.t 17),none⟩]
def f305_4:AC:=.seq (.reg f305_3) .ret
def f305_5:AC:=.cond (.t 16) f305_4 .skip
def f305_6:AC:=.seq (.reg f305_2) f305_5
def f305_7:AC:=.seq (.reg f305_1) f305_6
def f305_8:List AI:=[⟨some 19,.mov (.t 0),none⟩,
    ⟨some 20,.load false 1 (.t 3),none⟩,
    ⟨some 21,.call (.c (.one (.fn 324 []))) [(.t 19),(.t 20)],none⟩,
    ⟨some 18,.mov (.t 21),none⟩,
    ⟨some 22,.ext (.t 18) 0,none⟩,
    ⟨some 23,.ext (.t 18) 1,none⟩,
    ⟨some 8,.mov (.t 22),none⟩,
    ⟨some 9,.mov (.t 23),none⟩]
def f305_9:List AI:=[⟨some 24,.mov (.t 8),none⟩,
    ⟨some 10,.new [(.int .i64 0)],none⟩,
    ⟨none,.store 1 (.t 10) (.t 24),none⟩]
def f305_10:List AI:=[⟨some 25,.mov (.t 0),none⟩,
    ⟨some 26,.mov (.t 8),none⟩,
    ⟨some 27,.call (.c (.one (.fn 325 []))) [(.t 25),(.t 26)],none⟩]
def f305_11:List AI:=[⟨some 11,.mov (.t 28),none⟩]
def f305_12:List AI:=[⟨some 12,.new [(.str []),(.int .i64 0)],none⟩,
    ⟨none,.store 2 (.t 12) (.t 29),none⟩]
def f305_13:AC:=.seq (.reg f305_11) (.reg f305_12)
def f305_14:List AI:=[⟨some 30,.faddr 0 (.t 12),none⟩,
    ⟨some 31,.load false 1 (.t 30),none⟩,
    ⟨some 32,.load false 1 (.t 3),none⟩,
    ⟨some 33,.call (.c (.one (.fn 65 []))) [(.t 31),(.t 32)],none⟩,
    ⟨some 34,.un .not (.t 33),none⟩]
def f305_15:AC:=.cond (.t 34) (.exit 0) .skip
def f305_16:AC:=.seq (.reg f305_14) f305_15
def f305_17:List AI:=[⟨some 35,.mov (.t 11),none⟩,
    ⟨some 36,.bin .add (.t 35) (.c (.one (.int .i64 1))),none⟩,
    ⟨none,.store 1 (.t 10) (.t 36),none⟩]
def f305_18:AC:=.seq f305_16 (.reg f305_17)
def f305_19:AC:=.block 1 f305_18
def f305_20:AC:=.rangeF (.t 27) [28,29] f305_13 f305_19
def f305_21:AC:=.block 0 f305_20
def f305_22:AC:=.seq (.reg f305_10) f305_21
def f305_23:List AI:=[⟨some 37,.mov (.t 8),none⟩,
    ⟨some 38,.load false 1 (.t 10),none⟩,
    ⟨some 4,.mov (.t 37),none⟩,
    ⟨some 5,.mov (.t 38),none⟩,
    ⟨some 6,.mov (.c (.one (.int .i64 0))),none⟩]
def f305_24:AC:=.seq (.dreg f305_23) .ret
def f305_25:AC:=.seq f305_22 f305_24
def f305_26:AC:=.seq .skip f305_25
def f305_27:AC:=.seq (.reg f305_9) f305_26
def f305_28:AC:=.seq (.reg f305_8) f305_27
def f305_29:AC:=.seq f305_7 f305_28
def f305_30:AC:=.seq .skip f305_29
def f305_31:AC:=.seq (.reg f305_0) f305_30
def f305B:AC:=f305_31
def f305:AF:=⟨2,39,[(.t 4),(.t 5),(.t 6)],f305B⟩
def f307_0:List AI:=[⟨some 4,.mov (.c (.one .nils)),none⟩,
    ⟨some 5,.mov (.c (.one (.int .i64 0))),none⟩]
def f307_1:List AI:=[⟨some 8,.mov (.t 0),none⟩,
    ⟨some 9,.call (.c (.one (.fn 296 []))) [(.t 8)],none⟩,
    ⟨some 6,.mov (.t 9),none⟩]
def f307_2:List AI:=[⟨some 10,.mov (.t 6),none⟩,
    ⟨some 11,.bin .neq (.t 10) (.c (.one (.int .i64 0))),none⟩]
def f307_3:List AI:=[⟨some 12,.mov (.t 6),none⟩,
    ⟨some 4,.mov (.c (.one .nils)),none⟩,
    ⟨some 5,.mov (.t 12),none⟩]
def f307_4:AC:=.seq (.reg f307_3) .ret
def f307_5:AC:=.cond (.t 11) f307_4 .skip
def f307_6:AC:=.seq (.reg f307_2) f307_5
def f307_7:AC:=.seq (.reg f307_1) f307_6
def f307_8:List AI:=[⟨some 13,.mov (.t 1),none⟩,
    ⟨some 14,.bin .lss (.t 13) (.c (.one (.int .i64 0))),none⟩,
    ⟨some 15,.mov (.t 14),none⟩,
    ⟨some 16,.mov (.t 1),some (15,false)⟩,
    ⟨some 17,.bin .gtr (.t 16) (.c (.one (.int .i64 1000))),some (15,false)⟩,
    ⟨some 18,.pick (.t 15) (.c (.one (.bool true))) (.t 17),none⟩]
def f307_9:List AI:=[⟨some 4,.mov (.c (.one .nils)),none⟩,
    ⟨some 5,.mov (.c (.one (.int .i64 2))),none⟩]
def f307_10:AC:=.seq (.reg f307_9) .ret
def f307_11:AC:=.cond (.t 18) f307_10 .skip
def f307_12:AC:=.seq (.reg f307_8) f307_11
def f307_13:List AI:=[⟨some 19,.mov (.t 0),none⟩,
    ⟨some 20,.call (.c (.one (.fn 320 []))) [(.t 19)],none⟩,
    ⟨some 21,.call (.c (.one (.fn 326 []))) [(.t 20),(.c (.one (.fn 327 [])))],none⟩,
    ⟨some 7,.mov (.t 21),none⟩]
def f307_14:List AI:=[⟨some 22,.mov (.t 7),none⟩,
    ⟨some 23,.mov (.t 1),none⟩,
    ⟨some 24,.mov (.t 7),none⟩,
    ⟨some 25,.len .slc (.t 24),none⟩,
    ⟨some 26,.best false [(.t 23),(.t 25)],none⟩,
    ⟨some 27,.mov (.t 1),none⟩,
    ⟨some 28,.mov (.t 7),none⟩,
    ⟨some 29,.len .slc (.t 28),none⟩,
    ⟨some 30,.best false [(.t 27),(.t 29)],none⟩,
    ⟨some 31,.slice .slc 2 (.t 22) none (some (.t 26)) (some (.t 30)),none⟩,
    ⟨some 4,.mov (.t 31),none⟩,
    ⟨some 5,.mov (.c (.one (.int .i64 0))),none⟩]
def f307_15:AC:=.seq (.reg f307_14) .ret
def f307_16:AC:=.seq (.reg f307_13) f307_15
def f307_17:AC:=.seq f307_12 f307_16
def f307_18:AC:=.seq f307_7 f307_17
def f307_19:AC:=.seq (.reg f307_0) f307_18
def f307B:AC:=f307_19
def f307:AF:=⟨2,32,[(.t 4),(.t 5)],f307B⟩
def f308_0:List AI:=[⟨some 4,.mov (.c (.one (.int .i64 0))),none⟩,
    ⟨some 5,.mov (.c (.one (.int .i64 0))),none⟩]
def f308_1:List AI:=[⟨some 9,.mov (.t 0),none⟩,
    ⟨some 10,.call (.c (.one (.fn 297 []))) [(.t 9)],none⟩,
    ⟨some 6,.mov (.t 10),none⟩]
def f308_2:List AI:=[⟨some 11,.mov (.t 6),none⟩,
    ⟨some 12,.bin .neq (.t 11) (.c (.one (.int .i64 0))),none⟩]
def f308_3:List AI:=[⟨some 13,.mov (.t 6),none⟩,
    ⟨some 4,.mov (.c (.one (.int .i64 0))),none⟩,
    ⟨some 5,.mov (.t 13),none⟩]
def f308_4:AC:=.seq (.reg f308_3) .ret
def f308_5:AC:=.cond (.t 12) f308_4 .skip
def f308_6:AC:=.seq (.reg f308_2) f308_5
def f308_7:AC:=.seq (.reg f308_1) f308_6
def f308_8:List AI:=[⟨some 14,.mov (.t 0),none⟩,
    ⟨some 15,.len .slc (.t 14),none⟩,
    ⟨some 16,.mov (.c (.one (.int .i64 0))),none⟩]
def f308_9:List AI:=[⟨some 17,.bin .lss (.t 16) (.t 15),none⟩]
def f308_10:AC:=.cond (.t 17) .skip (.exit 0)
def f308_11:List AI:=[⟨some 18,.iaddr 2 (.t 14) (.t 16),none⟩,
    ⟨some 19,.load true 2 (.t 18),none⟩,
    ⟨some 8,.new [(.str []),(.int .i64 0)],none⟩,
    ⟨none,.store 2 (.t 8) (.t 19),none⟩]
def f308_12:List AI:=[⟨some 20,.faddr 0 (.t 8),none⟩,
    ⟨some 21,.load false 1 (.t 20),none⟩,
    ⟨some 22,.mov (.t 1),none⟩,
    ⟨some 23,.bin .eql (.t 21) (.t 22),none⟩]
def f308_13:List AI:=[⟨some 24,.faddr 1 (.t 8),none⟩,
    ⟨some 25,.load false 1 (.t 24),none⟩,
    ⟨some 4,.mov (.t 25),none⟩,
    ⟨some 5,.mov (.c (.one (.int .i64 0))),none⟩]
def f308_14:AC:=.seq (.reg f308_13) .ret
def f308_15:AC:=.cond (.t 23) f308_14 .skip
def f308_16:AC:=.seq (.reg f308_12) f308_15
def f308_17:AC:=.seq (.reg f308_11) f308_16
def f308_18:AC:=.block 1 f308_17
def f308_19:List AI:=[⟨some 26,.bin .add (.t 16) (.c (.one (.int .i64 1))),none⟩,
    ⟨some 16,.mov (.t 26),none⟩]
def f308_20:AC:=.seq f308_18 (.reg f308_19)
def f308_21:AC:=.seq f308_10 f308_20
def f308_22:AC:=.seq (.reg f308_9) f308_21
def f308_23:AC:=.loop f308_22
def f308_24:AC:=.block 0 f308_23
def f308_25:AC:=.seq (.reg f308_8) f308_24
def f308_26:List AI:=[⟨some 4,.mov (.c (.one (.int .i64 0))),none⟩,
    ⟨some 5,.mov (.c (.one (.int .i64 10))),none⟩]
def f308_27:AC:=.seq (.reg f308_26) .ret
def f308_28:AC:=.seq f308_25 f308_27
def f308_29:AC:=.seq f308_7 f308_28
def f308_30:AC:=.seq (.reg f308_0) f308_29
def f308B:AC:=f308_30
def f308:AF:=⟨2,27,[(.t 4),(.t 5)],f308B⟩
def f309_0:List AI:=[⟨some 4,.mov (.c (.one (.int .i64 0))),none⟩,
    ⟨some 5,.mov (.c (.one (.int .i64 0))),none⟩,
    ⟨some 6,.mov (.c (.one (.int .i64 0))),none⟩]
def f309_1:List AI:=[⟨some 10,.mov (.t 0),none⟩,
    ⟨some 11,.call (.c (.one (.fn 297 []))) [(.t 10)],none⟩,
    ⟨some 7,.mov (.t 11),none⟩]
def f309_2:List AI:=[⟨some 12,.mov (.t 7),none⟩,
    ⟨some 13,.bin .neq (.t 12) (.c (.one (.int .i64 0))),none⟩]
def f309_3:List AI:=[⟨some 14,.mov (.t 7),none⟩,
    ⟨some 4,.mov (.c (.one (.int .i64 0))),none⟩,
    ⟨some 5,.mov (.c (.one (.int .i64 0))),none⟩,
    ⟨some 6,.mov (.t 14),none⟩]
def f309_4:AC:=.seq (.reg f309_3) .ret
def f309_5:AC:=.cond (.t 13) f309_4 .skip
def f309_6:AC:=.seq (.reg f309_2) f309_5
def f309_7:AC:=.seq (.reg f309_1) f309_6
def f309_8:List AI:=[⟨some 8,.mov (.c (.one (.int .i64 0))),none⟩]
def f309_9:List AI:=[⟨some 15,.mov (.t 8),none⟩,
    ⟨some 16,.mov (.t 0),none⟩,
    ⟨some 17,.len .slc (.t 16),none⟩,
    ⟨some 18,.bin .lss (.t 15) (.t 17),none⟩,
    ⟨some 19,.mov (.t 18),none⟩,
    ⟨some 20,.mov (.t 0),some (19,true)⟩,
    ⟨some 21,.mov (.t 8),some (19,true)⟩,
    ⟨some 22,.iaddr 2 (.t 20) (.t 21),some (19,true)⟩,
    ⟨some 23,.faddr 0 (.t 22),some (19,true)⟩,
    ⟨some 24,.load false 1 (.t 23),some (19,true)⟩,
    ⟨some 25,.mov (.t 1),some (19,true)⟩,
    ⟨some 26,.bin .lss (.t 24) (.t 25),some (19,true)⟩,
    ⟨some 27,.pick (.t 19) (.t 26) (.c (.one (.bool false))),none⟩]
def f309_10:AC:=.cond (.t 27) .skip (.exit 0)
def f309_11:AC:=.seq (.reg f309_9) f309_10
def f309_12:List AI:=[⟨some 28,.mov (.t 8),none⟩,
    ⟨some 29,.bin .add (.t 28) (.c (.one (.int .i64 1))),none⟩,
    ⟨some 8,.mov (.t 29),none⟩]
def f309_13:AC:=.block 1 (.reg f309_12)
def f309_14:AC:=.seq f309_11 f309_13
def f309_15:AC:=.loop f309_14
def f309_16:AC:=.block 0 f309_15
def f309_17:List AI:=[⟨some 30,.mov (.t 8),none⟩,
    ⟨some 9,.mov (.t 30),none⟩]
def f309_18:List AI:=[⟨some 31,.mov (.t 9),none⟩,
    ⟨some 32,.mov (.t 0),none⟩,
    ⟨some 33,.len .slc (.t 32),none⟩,
    ⟨some 34,.bin .lss (.t 31) (.t 33),none⟩,
    ⟨some 35,.mov (.t 34),none⟩,
    ⟨some 36,.mov (.t 0),some (35,true)⟩,
    ⟨some 37,.mov (.t 9),some (35,true)⟩,
    ⟨some 38,.iaddr 2 (.t 36) (.t 37),some (35,true)⟩,
    ⟨some 39,.faddr 0 (.t 38),some (35,true)⟩,
    ⟨some 40,.load false 1 (.t 39),some (35,true)⟩,
    ⟨some 41,.len .str (.t 40),some (35,true)⟩,
    ⟨some 42,.mov (.t 1),some (35,true)⟩,
    ⟨some 43,.len .str (.t 42),some (35,true)⟩,
    ⟨some 44,.bin .geq (.t 41) (.t 43),some (35,true)⟩,
    ⟨some 45,.pick (.t 35) (.t 44) (.c (.one (.bool false))),none⟩,
    ⟨some 46,.mov (.t 45),none⟩,
    ⟨some 47,.mov (.t 0),some (46,true)⟩,
    ⟨some 48,.mov (.t 9),some (46,true)⟩,
    ⟨some 49,.iaddr 2 (.t 47) (.t 48),some (46,true)⟩,
    ⟨some 50,.faddr 0 (.t 49),some (46,true)⟩,
    ⟨some 51,.load false 1 (.t 50),some (46,true)⟩,
    ⟨some 52,.mov (.t 1),some (46,true)⟩,
    ⟨some 53,.len .str (.t 52),some (46,true)⟩,
    ⟨some 54,.slice .str 1 (.t 51) none (some (.t 53)) none,some (46,true)⟩,
    ⟨some 55,.mov (.t 1),some (46,true)⟩,
    ⟨some 56,.bin .eql (.t 54) (.t 55),some (46,true)⟩,
    ⟨some 57,.pick (.t 46) (.t 56) (.c (.one (.bool false))),none⟩]
def f309_19:AC:=.cond (.t 57) .skip (.exit 2)
def f309_20:AC:=.seq (.reg f309_18) f309_19
def f309_21:List AI:=[⟨some 58,.mov (.t 9),none⟩,
    ⟨some 59,.bin .add (.t 58) (.c (.one (.int .i64 1))),none⟩,
    ⟨some 9,.mov (.t 59),none⟩]
def f309_22:AC:=.block 3 (.reg f309_21)
def f309_23:AC:=.seq f309_20 f309_22
def f309_24:AC:=.loop f309_23
def f309_25:AC:=.block 2 f309_24
def f309_26:List AI:=[⟨some 60,.mov (.t 8),none⟩,
    ⟨some 61,.mov (.t 9),none⟩,
    ⟨some 4,.mov (.t 60),none⟩,
    ⟨some 5,.mov (.t 61),none⟩,
    ⟨some 6,.mov (.c (.one (.int .i64 0))),none⟩]
def f309_27:AC:=.seq (.reg f309_26) .ret
def f309_28:AC:=.seq f309_25 f309_27
def f309_29:AC:=.seq (.reg f309_17) f309_28
def f309_30:AC:=.seq f309_16 f309_29
def f309_31:AC:=.seq (.reg f309_8) f309_30
def f309_32:AC:=.seq f309_7 f309_31
def f309_33:AC:=.seq (.reg f309_0) f309_32
def f309B:AC:=f309_33
def f309:AF:=⟨2,62,[(.t 4),(.t 5),(.t 6)],f309B⟩
def f310_0:List AI:=[⟨some 4,.mov (.c (.one .nils)),none⟩,
    ⟨some 5,.mov (.c (.one (.int .i64 0))),none⟩]
def f310_1:List AI:=[⟨some 11,.mov (.t 0),none⟩,
    ⟨some 12,.call (.c (.one (.fn 297 []))) [(.t 11)],none⟩,
    ⟨some 6,.mov (.t 12),none⟩]
def f310_2:List AI:=[⟨some 13,.mov (.t 6),none⟩,
    ⟨some 14,.bin .neq (.t 13) (.c (.one (.int .i64 0))),none⟩]
def f310_3:List AI:=[⟨some 15,.mov (.t 6),none⟩,
    ⟨some 4,.mov (.c (.one .nils)),none⟩,
    ⟨some 5,.mov (.t 15),none⟩]
def f310_4:AC:=.seq (.reg f310_3) .ret
def f310_5:AC:=.cond (.t 14) f310_4 .skip
def f310_6:AC:=.seq (.reg f310_2) f310_5
def f310_7:AC:=.seq (.reg f310_1) f310_6
def f310_8:List AI:=[⟨some 16,.mov (.t 1),none⟩,
    ⟨some 17,.bin .lss (.t 16) (.c (.one (.int .i64 0))),none⟩,
    ⟨some 18,.mov (.t 17),none⟩,
    ⟨some 19,.mov (.t 1),some (18,false)⟩,
    ⟨some 20,.bin .gtr (.t 19) (.c (.one (.int .i64 1000))),some (18,false)⟩,
    ⟨some 21,.pick (.t 18) (.c (.one (.bool true))) (.t 20),none⟩]
def f310_9:List AI:=[⟨some 4,.mov (.c (.one .nils)),none⟩,
    ⟨some 5,.mov (.c (.one (.int .i64 2))),none⟩]
def f310_10:AC:=.seq (.reg f310_9) .ret
def f310_11:AC:=.cond (.t 21) f310_10 .skip
def f310_12:AC:=.seq (.reg f310_8) f310_11
def f310_13:List AI:=[⟨some 7,.mov (.c (.one .nils)),none⟩]
def f310_14:List AI:=[⟨some 22,.mov (.t 0),none⟩,
    ⟨some 23,.len .slc (.t 22),none⟩,
    ⟨some 24,.mov (.c (.one (.int .i64 0))),none⟩]
def f310_15:List AI:=[⟨some 25,.bin .lss (.t 24) (.t 23),none⟩]
def f310_16:AC:=.cond (.t 25) .skip (.exit 0)
def f310_17:List AI:=[⟨some 26,.iaddr 2 (.t 22) (.t 24),none⟩,
    ⟨some 27,.load true 2 (.t 26),none⟩,
    ⟨some 9,.new [(.str []),(.int .i64 0)],none⟩,
    ⟨none,.store 2 (.t 9) (.t 27),none⟩]
def f310_18:List AI:=[⟨some 28,.mov (.t 7),none⟩,
    ⟨some 29,.len .slc (.t 28),none⟩,
    ⟨some 10,.mov (.t 29),none⟩]
def f310_19:List AI:=[⟨some 30,.mov (.t 7),none⟩,
    ⟨some 31,.load true 2 (.t 9),none⟩,
    ⟨some 32,.rowLit 2 [(.str []),(.int .i64 0)] 1 [(0,(.t 31))],none⟩,
    ⟨some 33,.app 2 24 (.t 30) (.t 32),none⟩,
    ⟨some 7,.mov (.t 33),none⟩]
def f310_20:List AI:=[⟨some 34,.mov (.t 10),none⟩,
    ⟨some 35,.bin .gtr (.t 34) (.c (.one (.int .i64 0))),none⟩,
    ⟨some 36,.mov (.t 35),none⟩,
    ⟨some 37,.mov (.t 7),some (36,true)⟩,
    ⟨some 38,.mov (.t 10),some (36,true)⟩,
    ⟨some 39,.bin .sub (.t 38) (.c (.one (.int .i64 1))),some (36,true)⟩,
    ⟨some 40,.iaddr 2 (.t 37) (.t 39),some (36,true)⟩,
    ⟨some 41,.faddr 1 (.t 40),some (36,true)⟩,
    ⟨some 42,.load false 1 (.t 41),some (36,true)⟩,
    ⟨some 43,.faddr 1 (.t 9),some (36,true)⟩,
    ⟨some 44,.load false 1 (.t 43),some (36,true)⟩,
    ⟨some 45,.bin .lss (.t 42) (.t 44),some (36,true)⟩,
    ⟨some 46,.pick (.t 36) (.t 45) (.c (.one (.bool false))),none⟩]
def f310_21:AC:=.cond (.t 46) .skip (.exit 2)
def f310_22:AC:=.seq (.dreg f310_20) f310_21
def f310_23:List AI:=[⟨some 47,.mov (.t 7),none⟩,
    ⟨some 48,.mov (.t 10),none⟩,
    ⟨some 49,.mov (.t 7),none⟩,
    ⟨some 50,.mov (.t 10),none⟩,
    ⟨some 51,.bin .sub (.t 50) (.c (.one (.int .i64 1))),none⟩,
    ⟨some 52,.iaddr 2 (.t 49) (.t 51),none⟩,
    ⟨some 53,.load true 2 (.t 52),none⟩,
    ⟨some 54,.iaddr 2 (.t 47) (.t 48),none⟩,
    ⟨none,.store 2 (.t 54) (.t 53),none⟩]
def f310_24:List AI:=[⟨some 55,.mov (.t 10),none⟩,
    ⟨some 56,.bin .sub (.t 55) (.c (.one (.int .i64 1))),none⟩,
    ⟨some 10,.mov (.t 56),none⟩]
def f310_25:AC:=.seq (.reg f310_23) (.reg f310_24)
def f310_26:AC:=.block 3 f310_25
def f310_27:AC:=.seq f310_22 f310_26
def f310_28:AC:=.loop f310_27
def f310_29:AC:=.block 2 f310_28
def f310_30:List AI:=[⟨some 57,.mov (.t 7),none⟩,
    ⟨some 58,.mov (.t 10),none⟩,
    ⟨some 59,.load true 2 (.t 9),none⟩,
    ⟨some 60,.iaddr 2 (.t 57) (.t 58),none⟩,
    ⟨none,.store 2 (.t 60) (.t 59),none⟩]
def f310_31:AC:=.seq f310_29 (.reg f310_30)
def f310_32:AC:=.seq (.reg f310_19) f310_31
def f310_33:AC:=.seq (.reg f310_18) f310_32
def f310_34:AC:=.seq (.reg f310_17) f310_33
def f310_35:AC:=.block 1 f310_34
def f310_36:List AI:=[⟨some 61,.bin .add (.t 24) (.c (.one (.int .i64 1))),none⟩,
    ⟨some 24,.mov (.t 61),none⟩]
def f310_37:AC:=.seq f310_35 (.reg f310_36)
def f310_38:AC:=.seq f310_16 f310_37
def f310_39:AC:=.seq (.reg f310_15) f310_38
def f310_40:AC:=.loop f310_39
def f310_41:AC:=.block 0 f310_40
def f310_42:AC:=.seq (.reg f310_14) f310_41
def f310_43:List AI:=[⟨some 62,.mov (.t 7),none⟩,
    ⟨some 63,.len .slc (.t 62),none⟩,
    ⟨some 64,.mov (.t 1),none⟩,
    ⟨some 65,.bin .gtr (.t 63) (.t 64),none⟩]
def f310_44:List AI:=[⟨some 66,.mov (.t 7),none⟩,
    ⟨some 67,.mov (.t 1),none⟩,
    ⟨some 68,.slice .slc 2 (.t 66) none (some (.t 67)) none,none⟩,
    ⟨some 7,.mov (.t 68),none⟩]
def f310_45:AC:=.cond (.t 65) (.reg f310_44) .skip
def f310_46:AC:=.seq (.reg f310_43) f310_45
def f310_47:List AI:=[⟨some 69,.mov (.t 7),none⟩,
    ⟨some 4,.mov (.t 69),none⟩,
    ⟨some 5,.mov (.c (.one (.int .i64 0))),none⟩]
def f310_48:AC:=.seq (.reg f310_47) .ret
def f310_49:AC:=.seq f310_46 f310_48
def f310_50:AC:=.seq f310_42 f310_49
def f310_51:AC:=.seq (.reg f310_13) f310_50
def f310_52:AC:=.seq f310_12 f310_51
def f310_53:AC:=.seq f310_7 f310_52
def f310_54:AC:=.seq (.reg f310_0) f310_53
def f310B:AC:=f310_54
def f310:AF:=⟨2,70,[(.t 4),(.t 5)],f310B⟩
def f317_0:List AI:=[⟨some 2,.mov (.c (.one (.int .i64 0))),none⟩]
def f317_1:List AI:=[⟨some 6,.mov (.t 0),none⟩,
    ⟨some 7,.len .slc (.t 6),none⟩,
    ⟨some 8,.mov (.c (.one (.int .i64 0))),none⟩]
def f317_2:List AI:=[⟨some 9,.bin .lss (.t 8) (.t 7),none⟩]
def f317_3:AC:=.cond (.t 9) .skip (.exit 0)
def f317_4:List AI:=[⟨some 10,.iaddr 2 (.t 6) (.t 8),none⟩,
    ⟨some 11,.load true 2 (.t 10),none⟩,
    ⟨some 4,.new [(.str []),(.int .i64 0)],none⟩,
    ⟨none,.store 2 (.t 4) (.t 11),none⟩]
def f317_5:List AI:=[⟨some 12,.load true 2 (.t 4),none⟩,
    ⟨some 13,.call (.c (.one (.fn 299 []))) [(.t 12)],none⟩,
    ⟨some 5,.mov (.t 13),none⟩]
def f317_6:List AI:=[⟨some 14,.mov (.t 5),none⟩,
    ⟨some 15,.bin .neq (.t 14) (.c (.one (.int .i64 0))),none⟩]
def f317_7:List AI:=[⟨some 16,.mov (.t 5),none⟩,
    ⟨some 2,.mov (.t 16),none⟩]
def f317_8:AC:=.seq (.reg f317_7) .ret
def f317_9:AC:=.cond (.t 15) f317_8 .skip
def f317_10:AC:=.seq (.reg f317_6) f317_9
def f317_11:AC:=.seq (.reg f317_5) f317_10
def f317_12:AC:=.seq (.reg f317_4) f317_11
def f317_13:AC:=.block 1 f317_12
def f317_14:List AI:=[⟨some 17,.bin .add (.t 8) (.c (.one (.int .i64 1))),none⟩,
    ⟨some 8,.mov (.t 17),none⟩]
def f317_15:AC:=.seq f317_13 (.reg f317_14)
def f317_16:AC:=.seq f317_3 f317_15
def f317_17:AC:=.seq (.reg f317_2) f317_16
def f317_18:AC:=.loop f317_17
def f317_19:AC:=.block 0 f317_18
def f317_20:AC:=.seq (.reg f317_1) f317_19
def f317_21:List AI:=[⟨some 2,.mov (.c (.one (.int .i64 0))),none⟩]
def f317_22:AC:=.seq (.reg f317_21) .ret
def f317_23:AC:=.seq f317_20 f317_22
def f317_24:AC:=.seq (.reg f317_0) f317_23
def f317B:AC:=f317_24
def f317:AF:=⟨1,18,[(.t 2)],f317B⟩
def f318_0:List AI:=[⟨some 2,.mov (.c (.one (.int .i64 0))),none⟩]
def f318_1:List AI:=[⟨some 4,.mov (.t 0),none⟩,
    ⟨some 5,.call (.c (.one (.fn 336 []))) [(.t 4),(.c (.one (.fn 337 [])))],none⟩,
    ⟨some 3,.mov (.t 5),none⟩]
def f318_2:List AI:=[⟨some 6,.mov (.t 3),none⟩,
    ⟨some 7,.bin .lss (.t 6) (.c (.one (.int .i64 0))),none⟩]
def f318_3:List AI:=[⟨some 2,.mov (.c (.one (.int .i64 0))),none⟩]
def f318_4:AC:=.seq (.reg f318_3) .ret
def f318_5:AC:=.cond (.t 7) f318_4 .skip
def f318_6:AC:=.seq (.reg f318_2) f318_5
def f318_7:List AI:=[⟨some 8,.mov (.t 0),none⟩,
    ⟨some 9,.mov (.t 3),none⟩,
    ⟨some 10,.iaddr 2 (.t 8) (.t 9),none⟩,
    ⟨some 11,.load true 2 (.t 10),none⟩,
    ⟨some 12,.call (.c (.one (.fn 298 []))) [(.t 11)],none⟩,
    ⟨some 2,.mov (.t 12),none⟩]
def f318_8:AC:=.seq (.reg f318_7) .ret
def f318_9:AC:=.seq f318_6 f318_8
def f318_10:AC:=.seq (.reg f318_1) f318_9
def f318_11:AC:=.seq (.reg f318_0) f318_10
def f318B:AC:=f318_11
def f318:AF:=⟨1,13,[(.t 2)],f318B⟩
def f319_0:List AI:=[⟨some 4,.mov (.c (.one .nils)),none⟩]
def f319_1:List AI:=[⟨some 6,.mov (.t 0),none⟩,
    ⟨some 7,.call (.c (.one (.fn 338 []))) [(.t 6)],none⟩,
    ⟨some 5,.mov (.t 7),none⟩]
def f319_2:List AI:=[⟨some 8,.mov (.t 5),none⟩,
    ⟨some 9,.mov (.t 1),none⟩,
    ⟨some 10,.call (.c (.one (.fn 339 []))) [(.t 8),(.t 9)],none⟩]
def f319_3:List AI:=[⟨some 11,.mov (.t 5),none⟩,
    ⟨some 4,.mov (.t 11),none⟩]
def f319_4:AC:=.seq (.reg f319_3) .ret
def f319_5:AC:=.seq (.reg f319_2) f319_4
def f319_6:AC:=.seq (.reg f319_1) f319_5
def f319_7:AC:=.seq (.reg f319_0) f319_6
def f319B:AC:=f319_7
def f319:AF:=⟨2,12,[(.t 4)],f319B⟩
def f320_0:List AI:=[⟨some 1,.box (.t 0),none⟩,
    ⟨some 2,.mov (.c (.one .nilf)),none⟩]
def f320_1:List AI:=[⟨some 3,.mkfn 340 [(.t 1)],none⟩,
    ⟨some 2,.mov (.t 3),none⟩]
def f320_2:AC:=.seq (.reg f320_1) .ret
def f320_3:AC:=.seq (.reg f320_0) f320_2
def f320B:AC:=f320_3
def f320:AF:=⟨1,4,[(.t 2)],f320B⟩
def f321_0:List AI:=[⟨some 2,.box (.t 0),none⟩,
    ⟨some 3,.box (.t 1),none⟩,
    ⟨some 4,.mov (.c (.one (.int .i64 0))),none⟩]
def f321_1:List AI:=[⟨some 5,.faddr 0 (.t 2),none⟩,
    ⟨some 6,.load false 1 (.t 5),none⟩,
    ⟨some 7,.faddr 0 (.t 3),none⟩,
    ⟨some 8,.load false 1 (.t 7),none⟩,
    ⟨some 9,.call (.c (.one (.fn 252 []))) [(.t 6),(.t 8)],none⟩,
    ⟨some 4,.mov (.t 9),none⟩]
def f321_2:AC:=.seq (.reg f321_1) .ret
def f321_3:AC:=.seq (.reg f321_0) f321_2
def f321B:AC:=f321_3
def f321:AF:=⟨2,10,[(.t 4)],f321B⟩
def f324_0:List AI:=[⟨some 4,.mov (.c (.one (.int .i64 0))),none⟩,
    ⟨some 5,.mov (.c (.one (.bool false))),none⟩]
def f324_1:List AI:=[⟨some 6,.mov (.t 0),none⟩,
    ⟨some 7,.mov (.t 1),none⟩,
    ⟨some 8,.build [(.str []),(.int .i64 0)] [(0,(1,(.t 7)))],none⟩,
    ⟨some 9,.call (.c (.one (.fn 342 []))) [(.t 6),(.t 8),(.c (.one (.fn 321 [])))],none⟩,
    ⟨some 10,.ext (.t 9) 0,none⟩,
    ⟨some 11,.ext (.t 9) 1,none⟩,
    ⟨some 4,.mov (.t 10),none⟩,
    ⟨some 5,.mov (.t 11),none⟩]
def f324_2:AC:=.seq (.reg f324_1) .ret
def f324_3:AC:=.seq (.reg f324_0) f324_2
def f324B:AC:=f324_3
def f324:AF:=⟨2,12,[(.t 4),(.t 5)],f324B⟩
def f325_0:List AI:=[⟨some 2,.box (.t 0),none⟩,
    ⟨some 3,.box (.t 1),none⟩,
    ⟨some 4,.mov (.c (.one .nilf)),none⟩]
def f325_1:List AI:=[⟨some 5,.mkfn 343 [(.t 3),(.t 2)],none⟩,
    ⟨some 4,.mov (.t 5),none⟩]
def f325_2:AC:=.seq (.reg f325_1) .ret
def f325_3:AC:=.seq (.reg f325_0) f325_2
def f325B:AC:=f325_3
def f325:AF:=⟨2,6,[(.t 4)],f325B⟩
def f326_0:List AI:=[⟨some 4,.mov (.c (.one .nils)),none⟩]
def f326_1:List AI:=[⟨some 6,.mov (.t 0),none⟩,
    ⟨some 7,.call (.c (.one (.fn 338 []))) [(.t 6)],none⟩,
    ⟨some 5,.mov (.t 7),none⟩]
def f326_2:List AI:=[⟨some 8,.mov (.t 5),none⟩,
    ⟨some 9,.mov (.t 1),none⟩,
    ⟨some 10,.call (.c (.one (.fn 344 []))) [(.t 8),(.t 9)],none⟩]
def f326_3:List AI:=[⟨some 11,.mov (.t 5),none⟩,
    ⟨some 4,.mov (.t 11),none⟩]
def f326_4:AC:=.seq (.reg f326_3) .ret
def f326_5:AC:=.seq (.reg f326_2) f326_4
def f326_6:AC:=.seq (.reg f326_1) f326_5
def f326_7:AC:=.seq (.reg f326_0) f326_6
def f326B:AC:=f326_7
def f326:AF:=⟨2,12,[(.t 4)],f326B⟩
def f327_0:List AI:=[⟨some 2,.box (.t 0),none⟩,
    ⟨some 3,.box (.t 1),none⟩,
    ⟨some 4,.mov (.c (.one (.int .i64 0))),none⟩]
def f327_1:List AI:=[⟨some 5,.faddr 1 (.t 3),none⟩,
    ⟨some 6,.load false 1 (.t 5),none⟩,
    ⟨some 7,.faddr 1 (.t 2),none⟩,
    ⟨some 8,.load false 1 (.t 7),none⟩,
    ⟨some 9,.call (.c (.one (.fn 328 []))) [(.t 6),(.t 8)],none⟩,
    ⟨some 10,.load true 2 (.t 2),none⟩,
    ⟨some 11,.load true 2 (.t 3),none⟩,
    ⟨some 12,.call (.c (.one (.fn 321 []))) [(.t 10),(.t 11)],none⟩,
    ⟨some 13,.rowLit 1 [(.int .i64 0)] 2 [(0,(.t 9)),(1,(.t 12))],none⟩,
    ⟨some 14,.call (.c (.one (.fn 251 []))) [(.t 13)],none⟩,
    ⟨some 4,.mov (.t 14),none⟩]
def f327_2:AC:=.seq (.dreg f327_1) .ret
def f327_3:AC:=.seq (.reg f327_0) f327_2
def f327B:AC:=f327_3
def f327:AF:=⟨2,15,[(.t 4)],f327B⟩
def f328_0:List AI:=[⟨some 4,.mov (.c (.one (.int .i64 0))),none⟩]
def f328_1:List AI:=[⟨some 7,.mov (.t 0),none⟩,
    ⟨some 8,.call (.c (.one (.fn 345 []))) [(.t 7)],none⟩,
    ⟨some 5,.mov (.t 8),none⟩]
def f328_2:List AI:=[⟨some 9,.mov (.t 1),none⟩,
    ⟨some 10,.call (.c (.one (.fn 345 []))) [(.t 9)],none⟩,
    ⟨some 6,.mov (.t 10),none⟩]
def f328_3:List AI:=[⟨some 11,.mov (.t 5),none⟩]
def f328_4:List AI:=[⟨some 12,.mov (.t 6),none⟩]
def f328_5:List AI:=[⟨some 4,.mov (.c (.one (.int .i64 0))),none⟩]
def f328_6:AC:=.seq (.reg f328_5) .ret
def f328_7:AC:=.cond (.t 12) f328_6 .skip
def f328_8:AC:=.seq (.reg f328_4) f328_7
def f328_9:List AI:=[⟨some 4,.mov (.c (.one (.int .i64 (-1)))),none⟩]
def f328_10:AC:=.seq (.reg f328_9) .ret
def f328_11:AC:=.seq f328_8 f328_10
def f328_12:AC:=.cond (.t 11) f328_11 .skip
def f328_13:AC:=.seq (.reg f328_3) f328_12
def f328_14:List AI:=[⟨some 13,.mov (.t 6),none⟩]
def f328_15:List AI:=[⟨some 4,.mov (.c (.one (.int .i64 1))),none⟩]
def f328_16:AC:=.seq (.reg f328_15) .ret
def f328_17:AC:=.cond (.t 13) f328_16 .skip
def f328_18:AC:=.seq (.reg f328_14) f328_17
def f328_19:List AI:=[⟨some 14,.mov (.t 0),none⟩,
    ⟨some 15,.mov (.t 1),none⟩,
    ⟨some 16,.bin .lss (.t 14) (.t 15),none⟩]
def f328_20:List AI:=[⟨some 4,.mov (.c (.one (.int .i64 (-1)))),none⟩]
def f328_21:AC:=.seq (.reg f328_20) .ret
def f328_22:AC:=.cond (.t 16) f328_21 .skip
def f328_23:AC:=.seq (.reg f328_19) f328_22
def f328_24:List AI:=[⟨some 17,.mov (.t 0),none⟩,
    ⟨some 18,.mov (.t 1),none⟩,
    ⟨some 19,.bin .gtr (.t 17) (.t 18),none⟩]
def f328_25:List AI:=[⟨some 4,.mov (.c (.one (.int .i64 1))),none⟩]
def f328_26:AC:=.seq (.reg f328_25) .ret
def f328_27:AC:=.cond (.t 19) f328_26 .skip
def f328_28:AC:=.seq (.reg f328_24) f328_27
def f328_29:List AI:=[⟨some 4,.mov (.c (.one (.int .i64 0))),none⟩]
def f328_30:AC:=.seq (.reg f328_29) .ret
def f328_31:AC:=.seq f328_28 f328_30
def f328_32:AC:=.seq f328_23 f328_31
def f328_33:AC:=.seq f328_18 f328_32
def f328_34:AC:=.seq f328_13 f328_33
def f328_35:AC:=.seq (.reg f328_2) f328_34
def f328_36:AC:=.seq (.reg f328_1) f328_35
def f328_37:AC:=.seq (.reg f328_0) f328_36
def f328B:AC:=f328_37
def f328:AF:=⟨2,20,[(.t 4)],f328B⟩
def f336_0:List AI:=[⟨some 4,.mov (.c (.one (.int .i64 0))),none⟩]
def f336_1:List AI:=[⟨some 6,.mov (.t 0),none⟩,
    ⟨some 7,.len .slc (.t 6),none⟩,
    ⟨some 8,.mov (.c (.one (.int .i64 0))),none⟩]
def f336_2:List AI:=[⟨some 9,.bin .lss (.t 8) (.t 7),none⟩]
def f336_3:AC:=.cond (.t 9) .skip (.exit 0)
def f336_4:List AI:=[⟨some 10,.mov (.t 8),none⟩,
    ⟨some 5,.mov (.t 10),none⟩]
def f336_5:List AI:=[⟨some 11,.mov (.t 1),none⟩,
    ⟨some 12,.mov (.t 0),none⟩,
    ⟨some 13,.mov (.t 5),none⟩,
    ⟨some 14,.iaddr 2 (.t 12) (.t 13),none⟩,
    ⟨some 15,.load true 2 (.t 14),none⟩,
    ⟨some 16,.call (.t 11) [(.t 15)],none⟩]
def f336_6:List AI:=[⟨some 17,.mov (.t 5),none⟩,
    ⟨some 4,.mov (.t 17),none⟩]
def f336_7:AC:=.seq (.reg f336_6) .ret
def f336_8:AC:=.cond (.t 16) f336_7 .skip
def f336_9:AC:=.seq (.reg f336_5) f336_8
def f336_10:AC:=.seq (.reg f336_4) f336_9
def f336_11:AC:=.block 1 f336_10
def f336_12:List AI:=[⟨some 18,.bin .add (.t 8) (.c (.one (.int .i64 1))),none⟩,
    ⟨some 8,.mov (.t 18),none⟩]
def f336_13:AC:=.seq f336_11 (.reg f336_12)
def f336_14:AC:=.seq f336_3 f336_13
def f336_15:AC:=.seq (.reg f336_2) f336_14
def f336_16:AC:=.loop f336_15
def f336_17:AC:=.block 0 f336_16
def f336_18:AC:=.seq (.reg f336_1) f336_17
def f336_19:List AI:=[⟨some 4,.mov (.c (.one (.int .i64 (-1)))),none⟩]
def f336_20:AC:=.seq (.reg f336_19) .ret
def f336_21:AC:=.seq f336_18 f336_20
def f336_22:AC:=.seq (.reg f336_0) f336_21
def f336B:AC:=f336_22
def f336:AF:=⟨2,19,[(.t 4)],f336B⟩
def f337_0:List AI:=[⟨some 1,.box (.t 0),none⟩,
    ⟨some 2,.mov (.c (.one (.bool false))),none⟩]
def f337_1:List AI:=[⟨some 3,.load true 2 (.t 1),none⟩,
    ⟨some 4,.call (.c (.one (.fn 298 []))) [(.t 3)],none⟩,
    ⟨some 5,.bin .neq (.t 4) (.c (.one (.int .i64 0))),none⟩,
    ⟨some 2,.mov (.t 5),none⟩]
def f337_2:AC:=.seq (.reg f337_1) .ret
def f337_3:AC:=.seq (.reg f337_0) f337_2
def f337B:AC:=f337_3
def f337:AF:=⟨1,6,[(.t 2)],f337B⟩
def f338_0:List AI:=[⟨some 2,.mov (.c (.one .nils)),none⟩]
def f338_1:List AI:=[⟨some 3,.mov (.t 0),none⟩,
    ⟨some 4,.call (.c (.one (.fn 347 []))) [(.c (.one .nils)),(.t 3)],none⟩,
    ⟨some 2,.mov (.t 4),none⟩]
def f338_2:AC:=.seq (.reg f338_1) .ret
def f338_3:AC:=.seq (.reg f338_0) f338_2
def f338B:AC:=f338_3
def f338:AF:=⟨1,5,[(.t 2)],f338B⟩
def f339_0:List AI:=[⟨some 4,.mov (.t 0),none⟩,
    ⟨some 5,.mov (.t 0),none⟩,
    ⟨some 6,.len .slc (.t 5),none⟩,
    ⟨some 7,.mov (.t 1),none⟩,
    ⟨some 8,.call (.c (.one (.fn 348 []))) [(.t 4),(.t 6),(.t 7)],none⟩]
def f339B:AC:=(.reg f339_0)
def f339:AF:=⟨2,9,[],f339B⟩
def f340_0:List AI:=[⟨some 5,.load false 1 (.t 1),none⟩,
    ⟨some 6,.len .slc (.t 5),none⟩,
    ⟨some 7,.mov (.c (.one (.int .i64 0))),none⟩]
def f340_1:List AI:=[⟨some 8,.bin .lss (.t 7) (.t 6),none⟩]
def f340_2:AC:=.cond (.t 8) .skip (.exit 0)
def f340_3:List AI:=[⟨some 9,.iaddr 2 (.t 5) (.t 7),none⟩,
    ⟨some 10,.load true 2 (.t 9),none⟩,
    ⟨some 4,.new [(.str []),(.int .i64 0)],none⟩,
    ⟨none,.store 2 (.t 4) (.t 10),none⟩]
def f340_4:List AI:=[⟨some 11,.mov (.t 0),none⟩,
    ⟨some 12,.load true 2 (.t 4),none⟩,
    ⟨some 13,.call (.t 11) [(.t 12)],none⟩,
    ⟨some 14,.un .not (.t 13),none⟩]
def f340_5:AC:=.cond (.t 14) .ret .skip
def f340_6:AC:=.seq (.reg f340_4) f340_5
def f340_7:AC:=.seq (.reg f340_3) f340_6
def f340_8:AC:=.block 1 f340_7
def f340_9:List AI:=[⟨some 15,.bin .add (.t 7) (.c (.one (.int .i64 1))),none⟩,
    ⟨some 7,.mov (.t 15),none⟩]
def f340_10:AC:=.seq f340_8 (.reg f340_9)
def f340_11:AC:=.seq f340_2 f340_10
def f340_12:AC:=.seq (.reg f340_1) f340_11
def f340_13:AC:=.loop f340_12
def f340_14:AC:=.block 0 f340_13
def f340_15:AC:=.seq (.reg f340_0) f340_14
def f340B:AC:=f340_15
def f340:AF:=⟨2,16,[],f340B⟩
def f342_0:List AI:=[⟨some 4,.box (.t 1),none⟩,
    ⟨some 6,.mov (.c (.one (.int .i64 0))),none⟩,
    ⟨some 7,.mov (.c (.one (.bool false))),none⟩]
def f342_1:List AI:=[⟨some 12,.mov (.t 0),none⟩,
    ⟨some 13,.len .slc (.t 12),none⟩,
    ⟨some 8,.mov (.t 13),none⟩]
def f342_2:List AI:=[⟨some 14,.mov (.t 8),none⟩,
    ⟨some 9,.mov (.c (.one (.int .i64 0))),none⟩,
    ⟨some 10,.mov (.t 14),none⟩]
def f342_3:List AI:=[⟨some 15,.mov (.t 9),none⟩,
    ⟨some 16,.mov (.t 10),none⟩,
    ⟨some 17,.bin .lss (.t 15) (.t 16),none⟩]
def f342_4:AC:=.cond (.t 17) .skip (.exit 0)
def f342_5:AC:=.seq (.reg f342_3) f342_4
def f342_6:List AI:=[⟨some 18,.mov (.t 9),none⟩,
    ⟨some 19,.mov (.t 10),none⟩,
    ⟨some 20,.bin .add (.t 18) (.t 19),none⟩,
    ⟨some 21,.wrapI .u64 (.t 20),none⟩,
    ⟨some 22,.bin .shr (.t 21) (.c (.one (.int .u64 1))),none⟩,
    ⟨some 23,.wrapI .i64 (.t 22),none⟩,
    ⟨some 11,.mov (.t 23),none⟩]
def f342_7:List AI:=[⟨some 24,.mov (.t 2),none⟩,
    ⟨some 25,.mov (.t 0),none⟩,
    ⟨some 26,.mov (.t 11),none⟩,
    ⟨some 27,.iaddr 2 (.t 25) (.t 26),none⟩,
    ⟨some 28,.load true 2 (.t 27),none⟩,
    ⟨some 29,.load true 2 (.t 4),none⟩,
    ⟨some 30,.call (.t 24) [(.t 28),(.t 29)],none⟩,
    ⟨some 31,.bin .lss (.t 30) (.c (.one (.int .i64 0))),none⟩]
def f342_8:List AI:=[⟨some 32,.mov (.t 11),none⟩,
    ⟨some 33,.bin .add (.t 32) (.c (.one (.int .i64 1))),none⟩,
    ⟨some 9,.mov (.t 33),none⟩]
def f342_9:List AI:=[⟨some 34,.mov (.t 11),none⟩,
    ⟨some 10,.mov (.t 34),none⟩]
def f342_10:AC:=.cond (.t 31) (.reg f342_8) (.reg f342_9)
def f342_11:AC:=.seq (.dreg f342_7) f342_10
def f342_12:AC:=.seq (.reg f342_6) f342_11
def f342_13:AC:=.block 1 f342_12
def f342_14:AC:=.seq f342_5 f342_13
def f342_15:AC:=.loop f342_14
def f342_16:AC:=.block 0 f342_15
def f342_17:List AI:=[⟨some 35,.mov (.t 9),none⟩,
    ⟨some 36,.mov (.t 9),none⟩,
    ⟨some 37,.mov (.t 8),none⟩,
    ⟨some 38,.bin .lss (.t 36) (.t 37),none⟩,
    ⟨some 39,.mov (.t 38),none⟩,
    ⟨some 40,.mov (.t 2),some (39,true)⟩,
    ⟨some 41,.mov (.t 0),some (39,true)⟩,
    ⟨some 42,.mov (.t 9),some (39,true)⟩,
    ⟨some 43,.iaddr 2 (.t 41) (.t 42),some (39,true)⟩,
    ⟨some 44,.load true 2 (.t 43),some (39,true)⟩,
    ⟨some 45,.load true 2 (.t 4),some (39,true)⟩,
    ⟨some 46,.call (.t 40) [(.t 44),(.t 45)],some (39,true)⟩,
    ⟨some 47,.bin .eql (.t 46) (.c (.one (.int .i64 0))),some (39,true)⟩,
    ⟨some 48,.pick (.t 39) (.t 47) (.c (.one (.bool false))),none⟩,
    ⟨some 6,.mov (.t 35),none⟩,
    ⟨some 7,.mov (.t 48),none⟩]
def f342_18:AC:=.seq (.dreg f342_17) .ret
def f342_19:AC:=.seq f342_16 f342_18
def f342_20:AC:=.seq (.reg f342_2) f342_19
def f342_21:AC:=.seq (.reg f342_1) f342_20
def f342_22:AC:=.seq (.reg f342_0) f342_21
def f342B:AC:=f342_22
def f342:AF:=⟨3,49,[(.t 6),(.t 7)],f342B⟩
def f343_0:List AI:=[⟨some 5,.load false 1 (.t 1),none⟩,
    ⟨some 4,.mov (.t 5),none⟩]
def f343_1:List AI:=[⟨some 6,.mov (.t 4),none⟩,
    ⟨some 7,.load false 1 (.t 2),none⟩,
    ⟨some 8,.len .slc (.t 7),none⟩,
    ⟨some 9,.bin .lss (.t 6) (.t 8),none⟩]
def f343_2:AC:=.cond (.t 9) .skip (.exit 0)
def f343_3:AC:=.seq (.reg f343_1) f343_2
def f343_4:List AI:=[⟨some 12,.mov (.t 0),none⟩,
    ⟨some 13,.mov (.t 4),none⟩,
    ⟨some 14,.load false 1 (.t 2),none⟩,
    ⟨some 15,.mov (.t 4),none⟩,
    ⟨some 16,.iaddr 2 (.t 14) (.t 15),none⟩,
    ⟨some 17,.load true 2 (.t 16),none⟩,
    ⟨some 18,.call (.t 12) [(.t 13),(.t 17)],none⟩,
    ⟨some 19,.un .not (.t 18),none⟩]
def f343_5:AC:=.cond (.t 19) .ret .skip
def f343_6:AC:=.seq (.reg f343_4) f343_5
def f343_7:AC:=.block 1 f343_6
def f343_8:List AI:=[⟨some 10,.mov (.t 4),none⟩,
    ⟨some 11,.bin .add (.t 10) (.c (.one (.int .i64 1))),none⟩,
    ⟨some 4,.mov (.t 11),none⟩]
def f343_9:AC:=.seq f343_7 (.reg f343_8)
def f343_10:AC:=.seq f343_3 f343_9
def f343_11:AC:=.loop f343_10
def f343_12:AC:=.block 0 f343_11
def f343_13:AC:=.seq (.reg f343_0) f343_12
def f343B:AC:=f343_13
def f343:AF:=⟨3,20,[],f343B⟩
def f345_0:List AI:=[⟨some 2,.mov (.c (.one (.bool false))),none⟩]
def f345_1:List AI:=[⟨some 3,.mov (.t 0),none⟩,
    ⟨some 4,.mov (.t 0),none⟩,
    ⟨some 5,.bin .neq (.t 3) (.t 4),none⟩,
    ⟨some 2,.mov (.t 5),none⟩]
def f345_2:AC:=.seq (.reg f345_1) .ret
def f345_3:AC:=.seq (.reg f345_0) f345_2
def f345B:AC:=f345_3
def f345:AF:=⟨1,6,[(.t 2)],f345B⟩
def f347_0:List AI:=[⟨some 2,.box (.t 0),none⟩,
    ⟨some 4,.mov (.c (.one .nils)),none⟩]
def f347_1:List AI:=[⟨some 6,.mov (.t 1),none⟩]
def f347_2:List AI:=[⟨some 5,.new [(.str []),(.int .i64 0)],none⟩,
    ⟨none,.store 2 (.t 5) (.t 7),none⟩]
def f347_3:List AI:=[⟨some 8,.load false 1 (.t 2),none⟩,
    ⟨some 9,.load true 2 (.t 5),none⟩,
    ⟨some 10,.rowLit 2 [(.str []),(.int .i64 0)] 1 [(0,(.t 9))],none⟩,
    ⟨some 11,.app 2 24 (.t 8) (.t 10),none⟩,
    ⟨none,.store 1 (.t 2) (.t 11),none⟩]
def f347_4:AC:=.block 1 (.reg f347_3)
def f347_5:AC:=.rangeF (.t 6) [7] (.reg f347_2) f347_4
def f347_6:AC:=.block 0 f347_5
def f347_7:AC:=.seq (.reg f347_1) f347_6
def f347_8:List AI:=[⟨some 12,.load false 1 (.t 2),none⟩,
    ⟨some 4,.mov (.t 12),none⟩]
def f347_9:AC:=.seq (.reg f347_8) .ret
def f347_10:AC:=.seq f347_7 f347_9
def f347_11:AC:=.seq (.reg f347_0) f347_10
def f347B:AC:=f347_11
def f347:AF:=⟨2,13,[(.t 4)],f347B⟩
def f348_0:List AI:=[⟨some 6,.mov (.c (.one (.int .i64 20))),none⟩]
def f348_1:List AI:=[⟨some 10,.mov (.t 6),none⟩,
    ⟨some 7,.mov (.c (.one (.int .i64 0))),none⟩,
    ⟨some 8,.mov (.t 10),none⟩]
def f348_2:List AI:=[⟨some 11,.mov (.t 8),none⟩,
    ⟨some 12,.mov (.t 1),none⟩,
    ⟨some 13,.bin .leq (.t 11) (.t 12),none⟩]
def f348_3:AC:=.cond (.t 13) .skip (.exit 0)
def f348_4:AC:=.seq (.reg f348_2) f348_3
def f348_5:List AI:=[⟨some 14,.mov (.t 0),none⟩,
    ⟨some 15,.mov (.t 7),none⟩,
    ⟨some 16,.mov (.t 8),none⟩,
    ⟨some 17,.mov (.t 2),none⟩,
    ⟨some 18,.call (.c (.one (.fn 351 []))) [(.t 14),(.t 15),(.t 16),(.t 17)],none⟩]
def f348_6:List AI:=[⟨some 19,.mov (.t 8),none⟩,
    ⟨some 7,.mov (.t 19),none⟩]
def f348_7:List AI:=[⟨some 20,.mov (.t 8),none⟩,
    ⟨some 21,.mov (.t 6),none⟩,
    ⟨some 22,.bin .add (.t 20) (.t 21),none⟩,
    ⟨some 8,.mov (.t 22),none⟩]
def f348_8:AC:=.seq (.reg f348_6) (.reg f348_7)
def f348_9:AC:=.seq (.reg f348_5) f348_8
def f348_10:AC:=.block 1 f348_9
def f348_11:AC:=.seq f348_4 f348_10
def f348_12:AC:=.loop f348_11
def f348_13:AC:=.block 0 f348_12
def f348_14:List AI:=[⟨some 23,.mov (.t 0),none⟩,
    ⟨some 24,.mov (.t 7),none⟩,
    ⟨some 25,.mov (.t 1),none⟩,
    ⟨some 26,.mov (.t 2),none⟩,
    ⟨some 27,.call (.c (.one (.fn 351 []))) [(.t 23),(.t 24),(.t 25),(.t 26)],none⟩]
def f348_15:List AI:=[⟨some 28,.mov (.t 6),none⟩,
    ⟨some 29,.mov (.t 1),none⟩,
    ⟨some 30,.bin .lss (.t 28) (.t 29),none⟩]
def f348_16:AC:=.cond (.t 30) .skip (.exit 2)
def f348_17:AC:=.seq (.reg f348_15) f348_16
def f348_18:List AI:=[⟨some 31,.mov (.t 6),none⟩,
    ⟨some 32,.bin .mul (.c (.one (.int .i64 2))) (.t 31),none⟩,
    ⟨some 7,.mov (.c (.one (.int .i64 0))),none⟩,
    ⟨some 8,.mov (.t 32),none⟩]
def f348_19:List AI:=[⟨some 33,.mov (.t 8),none⟩,
    ⟨some 34,.mov (.t 1),none⟩,
    ⟨some 35,.bin .leq (.t 33) (.t 34),none⟩]
def f348_20:AC:=.cond (.t 35) .skip (.exit 4)
def f348_21:AC:=.seq (.reg f348_19) f348_20
def f348_22:List AI:=[⟨some 36,.mov (.t 0),none⟩,
    ⟨some 37,.mov (.t 7),none⟩,
    ⟨some 38,.mov (.t 7),none⟩,
    ⟨some 39,.mov (.t 6),none⟩,
    ⟨some 40,.bin .add (.t 38) (.t 39),none⟩,
    ⟨some 41,.mov (.t 8),none⟩,
    ⟨some 42,.mov (.t 2),none⟩,
    ⟨some 43,.call (.c (.one (.fn 352 []))) [(.t 36),(.t 37),(.t 40),(.t 41),(.t 42)],none⟩]
def f348_23:List AI:=[⟨some 44,.mov (.t 8),none⟩,
    ⟨some 7,.mov (.t 44),none⟩]
def f348_24:List AI:=[⟨some 45,.mov (.t 8),none⟩,
    ⟨some 46,.mov (.t 6),none⟩,
    ⟨some 47,.bin .mul (.c (.one (.int .i64 2))) (.t 46),none⟩,
    ⟨some 48,.bin .add (.t 45) (.t 47),none⟩,
    ⟨some 8,.mov (.t 48),none⟩]
def f348_25:AC:=.seq (.reg f348_23) (.reg f348_24)
def f348_26:AC:=.seq (.reg f348_22) f348_25
def f348_27:AC:=.block 5 f348_26
def f348_28:AC:=.seq f348_21 f348_27
def f348_29:AC:=.loop f348_28
def f348_30:AC:=.block 4 f348_29
def f348_31:List AI:=[⟨some 49,.mov (.t 7),none⟩,
    ⟨some 50,.mov (.t 6),none⟩,
    ⟨some 51,.bin .add (.t 49) (.t 50),none⟩,
    ⟨some 9,.mov (.t 51),none⟩]
def f348_32:List AI:=[⟨some 52,.mov (.t 9),none⟩,
    ⟨some 53,.mov (.t 1),none⟩,
    ⟨some 54,.bin .lss (.t 52) (.t 53),none⟩]
def f348_33:List AI:=[⟨some 55,.mov (.t 0),none⟩,
    ⟨some 56,.mov (.t 7),none⟩,
    ⟨some 57,.mov (.t 9),none⟩,
    ⟨some 58,.mov (.t 1),none⟩,
    ⟨some 59,.mov (.t 2),none⟩,
    ⟨some 60,.call (.c (.one (.fn 352 []))) [(.t 55),(.t 56),(.t 57),(.t 58),(.t 59)],none⟩]
def f348_34:AC:=.cond (.t 54) (.reg f348_33) .skip
def f348_35:AC:=.seq (.reg f348_32) f348_34
def f348_36:AC:=.seq (.reg f348_31) f348_35
def f348_37:List AI:=[⟨some 61,.mov (.t 6),none⟩,
    ⟨some 62,.bin .mul (.t 61) (.c (.one (.int .i64 2))),none⟩,
    ⟨some 6,.mov (.t 62),none⟩]
def f348_38:AC:=.seq f348_36 (.reg f348_37)
def f348_39:AC:=.seq f348_30 f348_38
def f348_40:AC:=.seq (.reg f348_18) f348_39
def f348_41:AC:=.block 3 f348_40
def f348_42:AC:=.seq f348_17 f348_41
def f348_43:AC:=.loop f348_42
def f348_44:AC:=.block 2 f348_43
def f348_45:AC:=.seq (.reg f348_14) f348_44
def f348_46:AC:=.seq f348_13 f348_45
def f348_47:AC:=.seq (.reg f348_1) f348_46
def f348_48:AC:=.seq (.reg f348_0) f348_47
def f348B:AC:=f348_48
def f348:AF:=⟨3,63,[],f348B⟩
def f351_0:List AI:=[⟨some 10,.mov (.t 1),none⟩,
    ⟨some 11,.bin .add (.t 10) (.c (.one (.int .i64 1))),none⟩,
    ⟨some 8,.mov (.t 11),none⟩]
def f351_1:List AI:=[⟨some 12,.mov (.t 8),none⟩,
    ⟨some 13,.mov (.t 2),none⟩,
    ⟨some 14,.bin .lss (.t 12) (.t 13),none⟩]
def f351_2:AC:=.cond (.t 14) .skip (.exit 0)
def f351_3:AC:=.seq (.reg f351_1) f351_2
def f351_4:List AI:=[⟨some 17,.mov (.t 8),none⟩,
    ⟨some 9,.mov (.t 17),none⟩]
def f351_5:List AI:=[⟨some 18,.mov (.t 9),none⟩,
    ⟨some 19,.mov (.t 1),none⟩,
    ⟨some 20,.bin .gtr (.t 18) (.t 19),none⟩,
    ⟨some 21,.mov (.t 20),none⟩,
    ⟨some 22,.mov (.t 3),some (21,true)⟩,
    ⟨some 23,.mov (.t 0),some (21,true)⟩,
    ⟨some 24,.mov (.t 9),some (21,true)⟩,
    ⟨some 25,.iaddr 2 (.t 23) (.t 24),some (21,true)⟩,
    ⟨some 26,.load true 2 (.t 25),some (21,true)⟩,
    ⟨some 27,.mov (.t 0),some (21,true)⟩,
    ⟨some 28,.mov (.t 9),some (21,true)⟩,
    ⟨some 29,.bin .sub (.t 28) (.c (.one (.int .i64 1))),some (21,true)⟩,
    ⟨some 30,.iaddr 2 (.t 27) (.t 29),some (21,true)⟩,
    ⟨some 31,.load true 2 (.t 30),some (21,true)⟩,
    ⟨some 32,.call (.t 22) [(.t 26),(.t 31)],some (21,true)⟩,
    ⟨some 33,.bin .lss (.t 32) (.c (.one (.int .i64 0))),some (21,true)⟩,
    ⟨some 34,.pick (.t 21) (.t 33) (.c (.one (.bool false))),none⟩]
def f351_6:AC:=.cond (.t 34) .skip (.exit 2)
def f351_7:AC:=.seq (.dreg f351_5) f351_6
def f351_8:List AI:=[⟨some 37,.mov (.t 0),none⟩,
    ⟨some 38,.mov (.t 9),none⟩,
    ⟨some 39,.mov (.t 0),none⟩,
    ⟨some 40,.mov (.t 9),none⟩,
    ⟨some 41,.bin .sub (.t 40) (.c (.one (.int .i64 1))),none⟩,
    ⟨some 42,.mov (.t 0),none⟩,
    ⟨some 43,.mov (.t 9),none⟩,
    ⟨some 44,.bin .sub (.t 43) (.c (.one (.int .i64 1))),none⟩,
    ⟨some 45,.iaddr 2 (.t 42) (.t 44),none⟩,
    ⟨some 46,.load true 2 (.t 45),none⟩,
    ⟨some 47,.mov (.t 0),none⟩,
    ⟨some 48,.mov (.t 9),none⟩,
    ⟨some 49,.iaddr 2 (.t 47) (.t 48),none⟩,
    ⟨some 50,.load true 2 (.t 49),none⟩,
    ⟨some 51,.iaddr 2 (.t 37) (.t 38),none⟩,
    ⟨none,.store 2 (.t 51) (.t 46),none⟩,
    ⟨some 52,.iaddr 2 (.t 39) (.t 41),none⟩,
    ⟨none,.store 2 (.t 52) (.t 50),none⟩]
def f351_9:AC:=.block 3 (.dreg f351_8)
def f351_10:List AI:=[⟨some 35,.mov (.t 9),none⟩,
    ⟨some 36,.bin .sub (.t 35) (.c (.one (.int .i64 1))),none⟩,
    ⟨some 9,.mov (.t 36),none⟩]
def f351_11:AC:=.seq f351_9 (.reg f351_10)
def f351_12:AC:=.seq f351_7 f351_11
def f351_13:AC:=.loop f351_12
def f351_14:AC:=.block 2 f351_13
def f351_15:AC:=.seq (.reg f351_4) f351_14
def f351_16:AC:=.block 1 f351_15
def f351_17:List AI:=[⟨some 15,.mov (.t 8),none⟩,
    ⟨some 16,.bin .add (.t 15) (.c (.one (.int .i64 1))),none⟩,
    ⟨some 8,.mov (.t 16),none⟩]
def f351_18:AC:=.seq f351_16 (.reg f351_17)
def f351_19:AC:=.seq f351_3 f351_18
def f351_20:AC:=.loop f351_19
def f351_21:AC:=.block 0 f351_20
def f351_22:AC:=.seq (.reg f351_0) f351_21
def f351B:AC:=f351_22
def f351:AF:=⟨4,53,[],f351B⟩
def f352_0:List AI:=[⟨some 25,.mov (.t 2),none⟩,
    ⟨some 26,.mov (.t 1),none⟩,
    ⟨some 27,.bin .sub (.t 25) (.t 26),none⟩,
    ⟨some 28,.bin .eql (.t 27) (.c (.one (.int .i64 1))),none⟩]
def f352_1:List AI:=[⟨some 29,.mov (.t 2),none⟩,
    ⟨some 10,.mov (.t 29),none⟩]
def f352_2:List AI:=[⟨some 30,.mov (.t 3),none⟩,
    ⟨some 11,.mov (.t 30),none⟩]
def f352_3:List AI:=[⟨some 31,.mov (.t 10),none⟩,
    ⟨some 32,.mov (.t 11),none⟩,
    ⟨some 33,.bin .lss (.t 31) (.t 32),none⟩]
def f352_4:AC:=.cond (.t 33) .skip (.exit 0)
def f352_5:AC:=.seq (.reg f352_3) f352_4
def f352_6:List AI:=[⟨some 34,.mov (.t 10),none⟩,
    ⟨some 35,.mov (.t 11),none⟩,
    ⟨some 36,.bin .add (.t 34) (.t 35),none⟩,
    ⟨some 37,.wrapI .u64 (.t 36),none⟩,
    ⟨some 38,.bin .shr (.t 37) (.c (.one (.int .u64 1))),none⟩,
    ⟨some 39,.wrapI .i64 (.t 38),none⟩,
    ⟨some 12,.mov (.t 39),none⟩]
def f352_7:List AI:=[⟨some 40,.mov (.t 4),none⟩,
    ⟨some 41,.mov (.t 0),none⟩,
    ⟨some 42,.mov (.t 12),none⟩,
    ⟨some 43,.iaddr 2 (.t 41) (.t 42),none⟩,
    ⟨some 44,.load true 2 (.t 43),none⟩,
    ⟨some 45,.mov (.t 0),none⟩,
    ⟨some 46,.mov (.t 1),none⟩,
    ⟨some 47,.iaddr 2 (.t 45) (.t 46),none⟩,
    ⟨some 48,.load true 2 (.t 47),none⟩,
    ⟨some 49,.call (.t 40) [(.t 44),(.t 48)],none⟩,
    ⟨some 50,.bin .lss (.t 49) (.c (.one (.int .i64 0))),none⟩]
def f352_8:List AI:=[⟨some 51,.mov (.t 12),none⟩,
    ⟨some 52,.bin .add (.t 51) (.c (.one (.int .i64 1))),none⟩,
    ⟨some 10,.mov (.t 52),none⟩]
def f352_9:List AI:=[⟨some 53,.mov (.t 12),none⟩,
    ⟨some 11,.mov (.t 53),none⟩]
def f352_10:AC:=.cond (.t 50) (.reg f352_8) (.reg f352_9)
def f352_11:AC:=.seq (.dreg f352_7) f352_10
def f352_12:AC:=.seq (.reg f352_6) f352_11
def f352_13:AC:=.block 1 f352_12
def f352_14:AC:=.seq f352_5 f352_13
def f352_15:AC:=.loop f352_14
def f352_16:AC:=.block 0 f352_15
def f352_17:List AI:=[⟨some 54,.mov (.t 1),none⟩,
    ⟨some 13,.mov (.t 54),none⟩]
def f352_18:List AI:=[⟨some 55,.mov (.t 13),none⟩,
    ⟨some 56,.mov (.t 10),none⟩,
    ⟨some 57,.bin .sub (.t 56) (.c (.one (.int .i64 1))),none⟩,
    ⟨some 58,.bin .lss (.t 55) (.t 57),none⟩]
def f352_19:AC:=.cond (.t 58) .skip (.exit 2)
def f352_20:AC:=.seq (.reg f352_18) f352_19
def f352_21:List AI:=[⟨some 61,.mov (.t 0),none⟩,
    ⟨some 62,.mov (.t 13),none⟩,
    ⟨some 63,.mov (.t 0),none⟩,
    ⟨some 64,.mov (.t 13),none⟩,
    ⟨some 65,.bin .add (.t 64) (.c (.one (.int .i64 1))),none⟩,
    ⟨some 66,.mov (.t 0),none⟩,
    ⟨some 67,.mov (.t 13),none⟩,
    ⟨some 68,.bin .add (.t 67) (.c (.one (.int .i64 1))),none⟩,
    ⟨some 69,.iaddr 2 (.t 66) (.t 68),none⟩,
    ⟨some 70,.load true 2 (.t 69),none⟩,
    ⟨some 71,.mov (.t 0),none⟩,
    ⟨some 72,.mov (.t 13),none⟩,
    ⟨some 73,.iaddr 2 (.t 71) (.t 72),none⟩,
    ⟨some 74,.load true 2 (.t 73),none⟩,
    ⟨some 75,.iaddr 2 (.t 61) (.t 62),none⟩,
    ⟨none,.store 2 (.t 75) (.t 70),none⟩,
    ⟨some 76,.iaddr 2 (.t 63) (.t 65),none⟩,
    ⟨none,.store 2 (.t 76) (.t 74),none⟩]
def f352_22:AC:=.block 3 (.dreg f352_21)
def f352_23:List AI:=[⟨some 59,.mov (.t 13),none⟩,
    ⟨some 60,.bin .add (.t 59) (.c (.one (.int .i64 1))),none⟩,
    ⟨some 13,.mov (.t 60),none⟩]
def f352_24:AC:=.seq f352_22 (.reg f352_23)
def f352_25:AC:=.seq f352_20 f352_24
def f352_26:AC:=.loop f352_25
def f352_27:AC:=.block 2 f352_26
def f352_28:AC:=.seq (.reg f352_17) f352_27
def f352_29:AC:=.seq f352_28 .ret
def f352_30:AC:=.seq f352_16 f352_29
def f352_31:AC:=.seq (.reg f352_2) f352_30
def f352_32:AC:=.seq (.reg f352_1) f352_31
def f352_33:AC:=.cond (.t 28) f352_32 .skip
def f352_34:AC:=.seq (.reg f352_0) f352_33
def f352_35:List AI:=[⟨some 77,.mov (.t 3),none⟩,
    ⟨some 78,.mov (.t 2),none⟩,
    ⟨some 79,.bin .sub (.t 77) (.t 78),none⟩,
    ⟨some 80,.bin .eql (.t 79) (.c (.one (.int .i64 1))),none⟩]
def f352_36:List AI:=[⟨some 81,.mov (.t 1),none⟩,
    ⟨some 14,.mov (.t 81),none⟩]
def f352_37:List AI:=[⟨some 82,.mov (.t 2),none⟩,
    ⟨some 15,.mov (.t 82),none⟩]
def f352_38:List AI:=[⟨some 83,.mov (.t 14),none⟩,
    ⟨some 84,.mov (.t 15),none⟩,
    ⟨some 85,.bin .lss (.t 83) (.t 84),none⟩]
def f352_39:AC:=.cond (.t 85) .skip (.exit 4)
def f352_40:AC:=.seq (.reg f352_38) f352_39
def f352_41:List AI:=[⟨some 86,.mov (.t 14),none⟩,
    ⟨some 87,.mov (.t 15),none⟩,
    ⟨some 88,.bin .add (.t 86) (.t 87),none⟩,
    ⟨some 89,.wrapI .u64 (.t 88),none⟩,
    ⟨some 90,.bin .shr (.t 89) (.c (.one (.int .u64 1))),none⟩,
    ⟨some 91,.wrapI .i64 (.t 90),none⟩,
    ⟨some 16,.mov (.t 91),none⟩]
def f352_42:List AI:=[⟨some 92,.mov (.t 4),none⟩,
    ⟨some 93,.mov (.t 0),none⟩,
    ⟨some 94,.mov (.t 2),none⟩,
    ⟨some 95,.iaddr 2 (.t 93) (.t 94),none⟩,
    ⟨some 96,.load true 2 (.t 95),none⟩,
    ⟨some 97,.mov (.t 0),none⟩,
    ⟨some 98,.mov (.t 16),none⟩,
    ⟨some 99,.iaddr 2 (.t 97) (.t 98),none⟩,
    ⟨some 100,.load true 2 (.t 99),none⟩,
    ⟨some 101,.call (.t 92) [(.t 96),(.t 100)],none⟩,
    ⟨some 102,.bin .lss (.t 101) (.c (.one (.int .i64 0))),none⟩,
    ⟨some 103,.un .not (.t 102),none⟩]
def f352_43:List AI:=[⟨some 104,.mov (.t 16),none⟩,
    ⟨some 105,.bin .add (.t 104) (.c (.one (.int .i64 1))),none⟩,
    ⟨some 14,.mov (.t 105),none⟩]
def f352_44:List AI:=[⟨some 106,.mov (.t 16),none⟩,
    ⟨some 15,.mov (.t 106),none⟩]
def f352_45:AC:=.cond (.t 103) (.reg f352_43) (.reg f352_44)
def f352_46:AC:=.seq (.dreg f352_42) f352_45
def f352_47:AC:=.seq (.reg f352_41) f352_46
def f352_48:AC:=.block 5 f352_47
def f352_49:AC:=.seq f352_40 f352_48
def f352_50:AC:=.loop f352_49
def f352_51:AC:=.block 4 f352_50
def f352_52:List AI:=[⟨some 107,.mov (.t 2),none⟩,
    ⟨some 17,.mov (.t 107),none⟩]
def f352_53:List AI:=[⟨some 108,.mov (.t 17),none⟩,
    ⟨some 109,.mov (.t 14),none⟩,
    ⟨some 110,.bin .gtr (.t 108) (.t 109),none⟩]
def f352_54:AC:=.cond (.t 110) .skip (.exit 6)
def f352_55:AC:=.seq (.reg f352_53) f352_54
def f352_56:List AI:=[⟨some 113,.mov (.t 0),none⟩,
    ⟨some 114,.mov (.t 17),none⟩,
    ⟨some 115,.mov (.t 0),none⟩,
    ⟨some 116,.mov (.t 17),none⟩,
    ⟨some 117,.bin .sub (.t 116) (.c (.one (.int .i64 1))),none⟩,
    ⟨some 118,.mov (.t 0),none⟩,
    ⟨some 119,.mov (.t 17),none⟩,
    ⟨some 120,.bin .sub (.t 119) (.c (.one (.int .i64 1))),none⟩,
    ⟨some 121,.iaddr 2 (.t 118) (.t 120),none⟩,
    ⟨some 122,.load true 2 (.t 121),none⟩,
    ⟨some 123,.mov (.t 0),none⟩,
    ⟨some 124,.mov (.t 17),none⟩,
    ⟨some 125,.iaddr 2 (.t 123) (.t 124),none⟩,
    ⟨some 126,.load true 2 (.t 125),none⟩,
    ⟨some 127,.iaddr 2 (.t 113) (.t 114),none⟩,
    ⟨none,.store 2 (.t 127) (.t 122),none⟩,
    ⟨some 128,.iaddr 2 (.t 115) (.t 117),none⟩,
    ⟨none,.store 2 (.t 128) (.t 126),none⟩]
def f352_57:AC:=.block 7 (.dreg f352_56)
def f352_58:List AI:=[⟨some 111,.mov (.t 17),none⟩,
    ⟨some 112,.bin .sub (.t 111) (.c (.one (.int .i64 1))),none⟩,
    ⟨some 17,.mov (.t 112),none⟩]
def f352_59:AC:=.seq f352_57 (.reg f352_58)
def f352_60:AC:=.seq f352_55 f352_59
def f352_61:AC:=.loop f352_60
def f352_62:AC:=.block 6 f352_61
def f352_63:AC:=.seq (.reg f352_52) f352_62
def f352_64:AC:=.seq f352_63 .ret
def f352_65:AC:=.seq f352_51 f352_64
def f352_66:AC:=.seq (.reg f352_37) f352_65
def f352_67:AC:=.seq (.reg f352_36) f352_66
def f352_68:AC:=.cond (.t 80) f352_67 .skip
def f352_69:AC:=.seq (.reg f352_35) f352_68
def f352_70:List AI:=[⟨some 129,.mov (.t 1),none⟩,
    ⟨some 130,.mov (.t 3),none⟩,
    ⟨some 131,.bin .add (.t 129) (.t 130),none⟩,
    ⟨some 132,.wrapI .u64 (.t 131),none⟩,
    ⟨some 133,.bin .shr (.t 132) (.c (.one (.int .u64 1))),none⟩,
    ⟨some 134,.wrapI .i64 (.t 133),none⟩,
    ⟨some 18,.mov (.t 134),none⟩]
def f352_71:List AI:=[⟨some 135,.mov (.t 18),none⟩,
    ⟨some 136,.mov (.t 2),none⟩,
    ⟨some 137,.bin .add (.t 135) (.t 136),none⟩,
    ⟨some 19,.mov (.t 137),none⟩]
def f352_72:List AI:=[⟨some 20,.mov (.c (.one (.int .i64 0))),none⟩,
    ⟨some 21,.mov (.c (.one (.int .i64 0))),none⟩]
def f352_73:List AI:=[⟨some 138,.mov (.t 2),none⟩,
    ⟨some 139,.mov (.t 18),none⟩,
    ⟨some 140,.bin .gtr (.t 138) (.t 139),none⟩]
def f352_74:List AI:=[⟨some 141,.mov (.t 19),none⟩,
    ⟨some 142,.mov (.t 3),none⟩,
    ⟨some 143,.bin .sub (.t 141) (.t 142),none⟩,
    ⟨some 20,.mov (.t 143),none⟩]
def f352_75:List AI:=[⟨some 144,.mov (.t 18),none⟩,
    ⟨some 21,.mov (.t 144),none⟩]
def f352_76:AC:=.seq (.reg f352_74) (.reg f352_75)
def f352_77:List AI:=[⟨some 145,.mov (.t 1),none⟩,
    ⟨some 20,.mov (.t 145),none⟩]
def f352_78:List AI:=[⟨some 146,.mov (.t 2),none⟩,
    ⟨some 21,.mov (.t 146),none⟩]
def f352_79:AC:=.seq (.reg f352_77) (.reg f352_78)
def f352_80:AC:=.cond (.t 140) f352_76 f352_79
def f352_81:AC:=.seq (.reg f352_73) f352_80
def f352_82:List AI:=[⟨some 147,.mov (.t 19),none⟩,
    ⟨some 148,.bin .sub (.t 147) (.c (.one (.int .i64 1))),none⟩,
    ⟨some 22,.mov (.t 148),none⟩]
def f352_83:List AI:=[⟨some 149,.mov (.t 20),none⟩,
    ⟨some 150,.mov (.t 21),none⟩,
    ⟨some 151,.bin .lss (.t 149) (.t 150),none⟩]
def f352_84:AC:=.cond (.t 151) .skip (.exit 8)
def f352_85:AC:=.seq (.reg f352_83) f352_84
def f352_86:List AI:=[⟨some 152,.mov (.t 20),none⟩,
    ⟨some 153,.mov (.t 21),none⟩,
    ⟨some 154,.bin .add (.t 152) (.t 153),none⟩,
    ⟨some 155,.wrapI .u64 (.t 154),none⟩,
    ⟨some 156,.bin .shr (.t 155) (.c (.one (.int .u64 1))),none⟩,
    ⟨some 157,.wrapI .i64 (.t 156),none⟩,
    ⟨some 23,.mov (.t 157),none⟩]
def f352_87:List AI:=[⟨some 158,.mov (.t 4),none⟩,
    ⟨some 159,.mov (.t 0),none⟩,
    ⟨some 160,.mov (.t 22),none⟩,
    ⟨some 161,.mov (.t 23),none⟩,
    ⟨some 162,.bin .sub (.t 160) (.t 161),none⟩,
    ⟨some 163,.iaddr 2 (.t 159) (.t 162),none⟩,
    ⟨some 164,.load true 2 (.t 163),none⟩,
    ⟨some 165,.mov (.t 0),none⟩,
    ⟨some 166,.mov (.t 23),none⟩,
    ⟨some 167,.iaddr 2 (.t 165) (.t 166),none⟩,
    ⟨some 168,.load true 2 (.t 167),none⟩,
    ⟨some 169,.call (.t 158) [(.t 164),(.t 168)],none⟩,
    ⟨some 170,.bin .lss (.t 169) (.c (.one (.int .i64 0))),none⟩,
    ⟨some 171,.un .not (.t 170),none⟩]
def f352_88:List AI:=[⟨some 172,.mov (.t 23),none⟩,
    ⟨some 173,.bin .add (.t 172) (.c (.one (.int .i64 1))),none⟩,
    ⟨some 20,.mov (.t 173),none⟩]
def f352_89:List AI:=[⟨some 174,.mov (.t 23),none⟩,
    ⟨some 21,.mov (.t 174),none⟩]
def f352_90:AC:=.cond (.t 171) (.reg f352_88) (.reg f352_89)
def f352_91:AC:=.seq (.dreg f352_87) f352_90
def f352_92:AC:=.seq (.reg f352_86) f352_91
def f352_93:AC:=.block 9 f352_92
def f352_94:AC:=.seq f352_85 f352_93
def f352_95:AC:=.loop f352_94
def f352_96:AC:=.block 8 f352_95
def f352_97:List AI:=[⟨some 175,.mov (.t 19),none⟩,
    ⟨some 176,.mov (.t 20),none⟩,
    ⟨some 177,.bin .sub (.t 175) (.t 176),none⟩,
    ⟨some 24,.mov (.t 177),none⟩]
def f352_98:List AI:=[⟨some 178,.mov (.t 20),none⟩,
    ⟨some 179,.mov (.t 2),none⟩,
    ⟨some 180,.bin .lss (.t 178) (.t 179),none⟩,
    ⟨some 181,.mov (.t 180),none⟩,
    ⟨some 182,.mov (.t 2),some (181,true)⟩,
    ⟨some 183,.mov (.t 24),some (181,true)⟩,
    ⟨some 184,.bin .lss (.t 182) (.t 183),some (181,true)⟩,
    ⟨some 185,.pick (.t 181) (.t 184) (.c (.one (.bool false))),none⟩]
def f352_99:List AI:=[⟨some 186,.mov (.t 0),none⟩,
    ⟨some 187,.mov (.t 20),none⟩,
    ⟨some 188,.mov (.t 2),none⟩,
    ⟨some 189,.mov (.t 24),none⟩,
    ⟨some 190,.mov (.t 4),none⟩,
    ⟨some 191,.call (.c (.one (.fn 362 []))) [(.t 186),(.t 187),(.t 188),(.t 189),(.t 190)],none⟩]
def f352_100:AC:=.cond (.t 185) (.reg f352_99) .skip
def f352_101:AC:=.seq (.reg f352_98) f352_100
def f352_102:List AI:=[⟨some 192,.mov (.t 1),none⟩,
    ⟨some 193,.mov (.t 20),none⟩,
    ⟨some 194,.bin .lss (.t 192) (.t 193),none⟩,
    ⟨some 195,.mov (.t 194),none⟩,
    ⟨some 196,.mov (.t 20),some (195,true)⟩,
    ⟨some 197,.mov (.t 18),some (195,true)⟩,
    ⟨some 198,.bin .lss (.t 196) (.t 197),some (195,true)⟩,
    ⟨some 199,.pick (.t 195) (.t 198) (.c (.one (.bool false))),none⟩]
def f352_103:List AI:=[⟨some 200,.mov (.t 0),none⟩,
    ⟨some 201,.mov (.t 1),none⟩,
    ⟨some 202,.mov (.t 20),none⟩,
    ⟨some 203,.mov (.t 18),none⟩,
    ⟨some 204,.mov (.t 4),none⟩,
    ⟨some 205,.call (.c (.one (.fn 352 []))) [(.t 200),(.t 201),(.t 202),(.t 203),(.t 204)],none⟩]
def f352_104:AC:=.cond (.t 199) (.reg f352_103) .skip
def f352_105:AC:=.seq (.reg f352_102) f352_104
def f352_106:List AI:=[⟨some 206,.mov (.t 18),none⟩,
    ⟨some 207,.mov (.t 24),none⟩,
    ⟨some 208,.bin .lss (.t 206) (.t 207),none⟩,
    ⟨some 209,.mov (.t 208),none⟩,
    ⟨some 210,.mov (.t 24),some (209,true)⟩,
    ⟨some 211,.mov (.t 3),some (209,true)⟩,
    ⟨some 212,.bin .lss (.t 210) (.t 211),some (209,true)⟩,
    ⟨some 213,.pick (.t 209) (.t 212) (.c (.one (.bool false))),none⟩]
def f352_107:List AI:=[⟨some 214,.mov (.t 0),none⟩,
    ⟨some 215,.mov (.t 18),none⟩,
    ⟨some 216,.mov (.t 24),none⟩,
    ⟨some 217,.mov (.t 3),none⟩,
    ⟨some 218,.mov (.t 4),none⟩,
    ⟨some 219,.call (.c (.one (.fn 352 []))) [(.t 214),(.t 215),(.t 216),(.t 217),(.t 218)],none⟩]
def f352_108:AC:=.cond (.t 213) (.reg f352_107) .skip
def f352_109:AC:=.seq (.reg f352_106) f352_108
def f352_110:AC:=.seq f352_105 f352_109
def f352_111:AC:=.seq f352_101 f352_110
def f352_112:AC:=.seq (.reg f352_97) f352_111
def f352_113:AC:=.seq f352_96 f352_112
def f352_114:AC:=.seq (.reg f352_82) f352_113
def f352_115:AC:=.seq f352_81 f352_114
def f352_116:AC:=.seq (.reg f352_72) f352_115
def f352_117:AC:=.seq (.reg f352_71) f352_116
def f352_118:AC:=.seq (.reg f352_70) f352_117
def f352_119:AC:=.seq f352_69 f352_118
def f352_120:AC:=.seq f352_34 f352_119
def f352B:AC:=f352_120
def f352:AF:=⟨5,220,[],f352B⟩
def f362_0:List AI:=[⟨some 12,.mov (.t 2),none⟩,
    ⟨some 13,.mov (.t 1),none⟩,
    ⟨some 14,.bin .sub (.t 12) (.t 13),none⟩,
    ⟨some 10,.mov (.t 14),none⟩]
def f362_1:List AI:=[⟨some 15,.mov (.t 3),none⟩,
    ⟨some 16,.mov (.t 2),none⟩,
    ⟨some 17,.bin .sub (.t 15) (.t 16),none⟩,
    ⟨some 11,.mov (.t 17),none⟩]
def f362_2:List AI:=[⟨some 18,.mov (.t 10),none⟩,
    ⟨some 19,.mov (.t 11),none⟩,
    ⟨some 20,.bin .neq (.t 18) (.t 19),none⟩]
def f362_3:AC:=.cond (.t 20) .skip (.exit 0)
def f362_4:AC:=.seq (.reg f362_2) f362_3
def f362_5:List AI:=[⟨some 21,.mov (.t 10),none⟩,
    ⟨some 22,.mov (.t 11),none⟩,
    ⟨some 23,.bin .gtr (.t 21) (.t 22),none⟩]
def f362_6:List AI:=[⟨some 24,.mov (.t 0),none⟩,
    ⟨some 25,.mov (.t 2),none⟩,
    ⟨some 26,.mov (.t 10),none⟩,
    ⟨some 27,.bin .sub (.t 25) (.t 26),none⟩,
    ⟨some 28,.mov (.t 2),none⟩,
    ⟨some 29,.mov (.t 11),none⟩,
    ⟨some 30,.mov (.t 4),none⟩,
    ⟨some 31,.call (.c (.one (.fn 368 []))) [(.t 24),(.t 27),(.t 28),(.t 29),(.t 30)],none⟩]
def f362_7:List AI:=[⟨some 32,.mov (.t 10),none⟩,
    ⟨some 33,.mov (.t 11),none⟩,
    ⟨some 34,.bin .sub (.t 32) (.t 33),none⟩,
    ⟨some 10,.mov (.t 34),none⟩]
def f362_8:AC:=.seq (.reg f362_6) (.reg f362_7)
def f362_9:List AI:=[⟨some 35,.mov (.t 0),none⟩,
    ⟨some 36,.mov (.t 2),none⟩,
    ⟨some 37,.mov (.t 10),none⟩,
    ⟨some 38,.bin .sub (.t 36) (.t 37),none⟩,
    ⟨some 39,.mov (.t 2),none⟩,
    ⟨some 40,.mov (.t 11),none⟩,
    ⟨some 41,.bin .add (.t 39) (.t 40),none⟩,
    ⟨some 42,.mov (.t 10),none⟩,
    ⟨some 43,.bin .sub (.t 41) (.t 42),none⟩,
    ⟨some 44,.mov (.t 10),none⟩,
    ⟨some 45,.mov (.t 4),none⟩,
    ⟨some 46,.call (.c (.one (.fn 368 []))) [(.t 35),(.t 38),(.t 43),(.t 44),(.t 45)],none⟩]
def f362_10:List AI:=[⟨some 47,.mov (.t 11),none⟩,
    ⟨some 48,.mov (.t 10),none⟩,
    ⟨some 49,.bin .sub (.t 47) (.t 48),none⟩,
    ⟨some 11,.mov (.t 49),none⟩]
def f362_11:AC:=.seq (.reg f362_9) (.reg f362_10)
def f362_12:AC:=.cond (.t 23) f362_8 f362_11
def f362_13:AC:=.seq (.reg f362_5) f362_12
def f362_14:AC:=.block 1 f362_13
def f362_15:AC:=.seq f362_4 f362_14
def f362_16:AC:=.loop f362_15
def f362_17:AC:=.block 0 f362_16
def f362_18:List AI:=[⟨some 50,.mov (.t 0),none⟩,
    ⟨some 51,.mov (.t 2),none⟩,
    ⟨some 52,.mov (.t 10),none⟩,
    ⟨some 53,.bin .sub (.t 51) (.t 52),none⟩,
    ⟨some 54,.mov (.t 2),none⟩,
    ⟨some 55,.mov (.t 10),none⟩,
    ⟨some 56,.mov (.t 4),none⟩,
    ⟨some 57,.call (.c (.one (.fn 368 []))) [(.t 50),(.t 53),(.t 54),(.t 55),(.t 56)],none⟩]
def f362_19:AC:=.seq f362_17 (.reg f362_18)
def f362_20:AC:=.seq (.reg f362_1) f362_19
def f362_21:AC:=.seq (.reg f362_0) f362_20
def f362B:AC:=f362_21
def f362:AF:=⟨5,58,[],f362B⟩
def f368_0:List AI:=[⟨some 10,.mov (.c (.one (.int .i64 0))),none⟩]
def f368_1:List AI:=[⟨some 11,.mov (.t 10),none⟩,
    ⟨some 12,.mov (.t 3),none⟩,
    ⟨some 13,.bin .lss (.t 11) (.t 12),none⟩]
def f368_2:AC:=.cond (.t 13) .skip (.exit 0)
def f368_3:AC:=.seq (.reg f368_1) f368_2
def f368_4:List AI:=[⟨some 16,.mov (.t 0),none⟩,
    ⟨some 17,.mov (.t 1),none⟩,
    ⟨some 18,.mov (.t 10),none⟩,
    ⟨some 19,.bin .add (.t 17) (.t 18),none⟩,
    ⟨some 20,.mov (.t 0),none⟩,
    ⟨some 21,.mov (.t 2),none⟩,
    ⟨some 22,.mov (.t 10),none⟩,
    ⟨some 23,.bin .add (.t 21) (.t 22),none⟩,
    ⟨some 24,.mov (.t 0),none⟩,
    ⟨some 25,.mov (.t 2),none⟩,
    ⟨some 26,.mov (.t 10),none⟩,
    ⟨some 27,.bin .add (.t 25) (.t 26),none⟩,
    ⟨some 28,.iaddr 2 (.t 24) (.t 27),none⟩,
    ⟨some 29,.load true 2 (.t 28),none⟩,
    ⟨some 30,.mov (.t 0),none⟩,
    ⟨some 31,.mov (.t 1),none⟩,
    ⟨some 32,.mov (.t 10),none⟩,
    ⟨some 33,.bin .add (.t 31) (.t 32),none⟩,
    ⟨some 34,.iaddr 2 (.t 30) (.t 33),none⟩,
    ⟨some 35,.load true 2 (.t 34),none⟩,
    ⟨some 36,.iaddr 2 (.t 16) (.t 19),none⟩,
    ⟨none,.store 2 (.t 36) (.t 29),none⟩,
    ⟨some 37,.iaddr 2 (.t 20) (.t 23),none⟩,
    ⟨none,.store 2 (.t 37) (.t 35),none⟩]
def f368_5:AC:=.block 1 (.dreg f368_4)
def f368_6:List AI:=[⟨some 14,.mov (.t 10),none⟩,
    ⟨some 15,.bin .add (.t 14) (.c (.one (.int .i64 1))),none⟩,
    ⟨some 10,.mov (.t 15),none⟩]
def f368_7:AC:=.seq f368_5 (.reg f368_6)
def f368_8:AC:=.seq f368_3 f368_7
def f368_9:AC:=.loop f368_8
def f368_10:AC:=.block 0 f368_9
def f368_11:AC:=.seq (.reg f368_0) f368_10
def f368B:AC:=f368_11
def f368:AF:=⟨5,38,[],f368B⟩
end Go.EA.F
