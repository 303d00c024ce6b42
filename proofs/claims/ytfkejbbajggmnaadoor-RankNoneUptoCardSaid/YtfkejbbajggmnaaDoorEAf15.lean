/- Functions of the program, as abstract code (printed by a program). Conditions: none (definitions). -/
import Derived.Test.YtfkejbbajggmnaaDoorEK1
namespace Go.EA.F
def f376_0:List AI:=[⟨some 6,.mov (.c (.one (.bool false))),none⟩]
def f376_1:List AI:=[⟨some 21,.call (.c (.one (.fn 377 []))) [],none⟩,
    ⟨some 22,.un .not (.t 21),none⟩]
def f376_2:List AI:=[⟨some 6,.mov (.c (.one (.bool false))),none⟩]
def f376_3:AC:=.seq (.reg f376_2) .ret
def f376_4:AC:=.cond (.t 22) f376_3 .skip
def f376_5:AC:=.seq (.reg f376_1) f376_4
def f376_6:List AI:=[⟨some 23,.mov (.t 0),none⟩,
    ⟨some 24,.call (.c (.one (.fn 378 []))) [(.t 23)],none⟩]
def f376_7:List AI:=[⟨some 6,.mov (.c (.one (.bool true))),none⟩]
def f376_8:AC:=.seq (.reg f376_7) .ret
def f376_9:AC:=.cond (.t 24) f376_8 .skip
def f376_10:AC:=.seq (.reg f376_6) f376_9
def f376_11:List AI:=[⟨some 26,.mov (.t 1),none⟩,
    ⟨some 27,.wrapI .i64 (.t 26),none⟩,
    ⟨some 28,.call (.c (.one (.fn 379 []))) [(.c (.one .nils)),(.t 27)],none⟩,
    ⟨some 25,.mov (.t 28),none⟩,
    ⟨some 29,.ext (.t 25) 0,none⟩,
    ⟨some 30,.ext (.t 25) 1,none⟩,
    ⟨some 7,.mov (.t 29),none⟩,
    ⟨some 8,.mov (.t 30),none⟩]
def f376_12:List AI:=[⟨some 32,.mov (.t 0),none⟩,
    ⟨some 33,.mov (.t 1),none⟩,
    ⟨some 34,.wrapI .i64 (.t 33),none⟩,
    ⟨some 35,.call (.c (.one (.fn 379 []))) [(.t 32),(.t 34)],none⟩,
    ⟨some 31,.mov (.t 35),none⟩,
    ⟨some 36,.ext (.t 31) 0,none⟩,
    ⟨some 37,.ext (.t 31) 1,none⟩,
    ⟨some 9,.mov (.t 36),none⟩,
    ⟨some 10,.mov (.t 37),none⟩]
def f376_13:List AI:=[⟨some 39,.mov (.t 0),none⟩,
    ⟨some 40,.mov (.t 1),none⟩,
    ⟨some 41,.wrapI .i64 (.t 40),none⟩,
    ⟨some 42,.call (.c (.one (.fn 384 []))) [(.t 39),(.c (.one .nils)),(.t 41)],none⟩,
    ⟨some 38,.mov (.t 42),none⟩,
    ⟨some 43,.ext (.t 38) 0,none⟩,
    ⟨some 44,.ext (.t 38) 1,none⟩,
    ⟨some 11,.mov (.t 43),none⟩,
    ⟨some 12,.mov (.t 44),none⟩]
def f376_14:List AI:=[⟨some 46,.mov (.t 0),none⟩,
    ⟨some 47,.mov (.t 1),none⟩,
    ⟨some 48,.wrapI .i64 (.t 47),none⟩,
    ⟨some 49,.call (.c (.one (.fn 384 []))) [(.c (.one .nils)),(.t 46),(.t 48)],none⟩,
    ⟨some 45,.mov (.t 49),none⟩,
    ⟨some 50,.ext (.t 45) 0,none⟩,
    ⟨some 51,.ext (.t 45) 1,none⟩,
    ⟨some 13,.mov (.t 50),none⟩,
    ⟨some 14,.mov (.t 51),none⟩]
def f376_15:List AI:=[⟨some 52,.mov (.t 8),none⟩,
    ⟨some 53,.bin .neq (.t 52) (.c (.one (.int .i64 0))),none⟩,
    ⟨some 54,.mov (.t 53),none⟩,
    ⟨some 55,.mov (.t 7),some (54,false)⟩,
    ⟨some 56,.len .slc (.t 55),some (54,false)⟩,
    ⟨some 57,.bin .gtr (.t 56) (.c (.one (.int .i64 0))),some (54,false)⟩,
    ⟨some 58,.pick (.t 54) (.c (.one (.bool true))) (.t 57),none⟩,
    ⟨some 59,.mov (.t 58),none⟩,
    ⟨some 60,.mov (.t 10),some (59,false)⟩,
    ⟨some 61,.mov (.t 12),some (59,false)⟩,
    ⟨some 62,.bin .neq (.t 60) (.t 61),some (59,false)⟩,
    ⟨some 63,.pick (.t 59) (.c (.one (.bool true))) (.t 62),none⟩,
    ⟨some 64,.mov (.t 63),none⟩,
    ⟨some 65,.mov (.t 10),some (64,false)⟩,
    ⟨some 66,.mov (.t 14),some (64,false)⟩,
    ⟨some 67,.bin .neq (.t 65) (.t 66),some (64,false)⟩,
    ⟨some 68,.pick (.t 64) (.c (.one (.bool true))) (.t 67),none⟩,
    ⟨some 69,.mov (.t 68),none⟩,
    ⟨some 70,.mov (.t 9),some (69,false)⟩,
    ⟨some 71,.mov (.t 11),some (69,false)⟩,
    ⟨some 72,.call (.c (.one (.fn 380 []))) [(.t 70),(.t 71)],some (69,false)⟩,
    ⟨some 73,.un .not (.t 72),some (69,false)⟩,
    ⟨some 74,.pick (.t 69) (.c (.one (.bool true))) (.t 73),none⟩,
    ⟨some 75,.mov (.t 74),none⟩,
    ⟨some 76,.mov (.t 9),some (75,false)⟩,
    ⟨some 77,.mov (.t 13),some (75,false)⟩,
    ⟨some 78,.call (.c (.one (.fn 380 []))) [(.t 76),(.t 77)],some (75,false)⟩,
    ⟨some 79,.un .not (.t 78),some (75,false)⟩,
    ⟨some 80,.pick (.t 75) (.c (.one (.bool true))) (.t 79),none⟩]
def f376_16:List AI:=[⟨some 6,.mov (.c (.one (.bool false))),none⟩]
def f376_17:AC:=.seq (.reg f376_16) .ret
def f376_18:AC:=.cond (.t 80) f376_17 .skip
def f376_19:AC:=.seq (.reg f376_15) f376_18
def f376_20:List AI:=[⟨some 81,.mov (.t 2),none⟩,
    ⟨some 82,.wrapI .i64 (.t 81),none⟩,
    ⟨some 83,.mov (.t 0),none⟩,
    ⟨some 84,.len .slc (.t 83),none⟩,
    ⟨some 85,.bin .add (.t 84) (.c (.one (.int .i64 1))),none⟩,
    ⟨some 86,.bin .rem (.t 82) (.t 85),none⟩,
    ⟨some 15,.mov (.t 86),none⟩]
def f376_21 : List (List AI) := [[⟨some 88, .mov (.t 0), none⟩,
      ⟨some 89,.mov (.t 15),none⟩,
      ⟨some 90,.slice .slc 3 (.t 88) none (some (.t 89)) none,none⟩,
      ⟨some 92,.build [(.str []),(.int .i64 0),(.int .i64 0)] [(0,(1,(.c (.one (.str [97]))))),(1,(1,(.c (.one (.int .i64 (-1)))))),(2,(1,(.c (.one (.int .i64 1)))))],none⟩,
      ⟨some 95,.mov (.t 0),none⟩,
      ⟨some 96,.mov (.t 15),none⟩,
      ⟨some 87,.rowLit 3 [(.str []),(.int .i64 0),(.int .i64 0)] 0 [],none⟩,
      ⟨some 91,.app 3 32 (.t 87) (.t 90),none⟩,
      ⟨some 93,.rowLit 3 [(.str []),(.int .i64 0),(.int .i64 0)] 1 [(0,(.t 92))],none⟩,
      ⟨some 94,.app 3 32 (.t 91) (.t 93),none⟩,
      ⟨some 97,.slice .slc 3 (.t 95) (some (.t 96)) none none,none⟩,
      ⟨some 98,.app 3 32 (.t 94) (.t 97),none⟩,
      ⟨some 16,.mov (.t 98),none⟩],[⟨some 88,.mov (.t 0),none⟩,
      ⟨some 89,.mov (.t 15),none⟩,
      ⟨some 90,.slice .slc 3 (.t 88) none (some (.t 89)) none,none⟩,
      ⟨some 92,.build [(.str []),(.int .i64 0),(.int .i64 0)] [(0,(1,(.c (.one (.str [97]))))),(1,(1,(.c (.one (.int .i64 (-1)))))),(2,(1,(.c (.one (.int .i64 1)))))],none⟩,
      ⟨some 95,.mov (.t 0),none⟩,
      ⟨some 96,.mov (.t 15),none⟩,
      ⟨some 87,.rowLit 3 [(.str []),(.int .i64 0),(.int .i64 0)] 0 [],none⟩,
      ⟨some 93,.rowLit 3 [(.str []),(.int .i64 0),(.int .i64 0)] 1 [(0,(.t 92))],none⟩,
      ⟨some 91,.app 3 32 (.t 87) (.t 90),none⟩,
      ⟨some 94,.app 3 32 (.t 91) (.t 93),none⟩,
      ⟨some 97,.slice .slc 3 (.t 95) (some (.t 96)) none none,none⟩,
      ⟨some 98,.app 3 32 (.t 94) (.t 97),none⟩,
      ⟨some 16,.mov (.t 98),none⟩],[⟨some 88,.mov (.t 0),none⟩,
      ⟨some 89,.mov (.t 15),none⟩,
      ⟨some 90,.slice .slc 3 (.t 88) none (some (.t 89)) none,none⟩,
      ⟨some 92,.build [(.str []),(.int .i64 0),(.int .i64 0)] [(0,(1,(.c (.one (.str [97]))))),(1,(1,(.c (.one (.int .i64 (-1)))))),(2,(1,(.c (.one (.int .i64 1)))))],none⟩,
      ⟨some 95,.mov (.t 0),none⟩,
      ⟨some 96,.mov (.t 15),none⟩,
      ⟨some 93,.rowLit 3 [(.str []),(.int .i64 0),(.int .i64 0)] 1 [(0,(.t 92))],none⟩,
      ⟨some 87,.rowLit 3 [(.str []),(.int .i64 0),(.int .i64 0)] 0 [],none⟩,
      ⟨some 91,.app 3 32 (.t 87) (.t 90),none⟩,
      ⟨some 94,.app 3 32 (.t 91) (.t 93),none⟩,
      ⟨some 97,.slice .slc 3 (.t 95) (some (.t 96)) none none,none⟩,
      ⟨some 98,.app 3 32 (.t 94) (.t 97),none⟩,
      ⟨some 16,.mov (.t 98),none⟩],[⟨some 88,.mov (.t 0),none⟩,
      ⟨some 89,.mov (.t 15),none⟩,
      ⟨some 90,.slice .slc 3 (.t 88) none (some (.t 89)) none,none⟩,
      ⟨some 92,.build [(.str []),(.int .i64 0),(.int .i64 0)] [(0,(1,(.c (.one (.str [97]))))),(1,(1,(.c (.one (.int .i64 (-1)))))),(2,(1,(.c (.one (.int .i64 1)))))],none⟩,
      ⟨some 95,.mov (.t 0),none⟩,
      ⟨some 96,.mov (.t 15),none⟩,
      ⟨some 87,.rowLit 3 [(.str []),(.int .i64 0),(.int .i64 0)] 0 [],none⟩,
      ⟨some 91,.app 3 32 (.t 87) (.t 90),none⟩,
      ⟨some 97,.slice .slc 3 (.t 95) (some (.t 96)) none none,none⟩,
      ⟨some 93,.rowLit 3 [(.str []),(.int .i64 0),(.int .i64 0)] 1 [(0,(.t 92))],none⟩,
      ⟨some 94,.app 3 32 (.t 91) (.t 93),none⟩,
      ⟨some 98,.app 3 32 (.t 94) (.t 97),none⟩,
      ⟨some 16,.mov (.t 98),none⟩],[⟨some 88,.mov (.t 0),none⟩,
      ⟨some 89,.mov (.t 15),none⟩,
      ⟨some 90,.slice .slc 3 (.t 88) none (some (.t 89)) none,none⟩,
      ⟨some 92,.build [(.str []),(.int .i64 0),(.int .i64 0)] [(0,(1,(.c (.one (.str [97]))))),(1,(1,(.c (.one (.int .i64 (-1)))))),(2,(1,(.c (.one (.int .i64 1)))))],none⟩,
      ⟨some 95,.mov (.t 0),none⟩,
      ⟨some 96,.mov (.t 15),none⟩,
      ⟨some 87,.rowLit 3 [(.str []),(.int .i64 0),(.int .i64 0)] 0 [],none⟩,
      ⟨some 93,.rowLit 3 [(.str []),(.int .i64 0),(.int .i64 0)] 1 [(0,(.t 92))],none⟩,
      ⟨some 91,.app 3 32 (.t 87) (.t 90),none⟩,
      ⟨some 97,.slice .slc 3 (.t 95) (some (.t 96)) none none,none⟩,
      ⟨some 94,.app 3 32 (.t 91) (.t 93),none⟩,
      ⟨some 98,.app 3 32 (.t 94) (.t 97),none⟩,
      ⟨some 16,.mov (.t 98),none⟩],[⟨some 88,.mov (.t 0),none⟩,
      ⟨some 89,.mov (.t 15),none⟩,
      ⟨some 90,.slice .slc 3 (.t 88) none (some (.t 89)) none,none⟩,
      ⟨some 92,.build [(.str []),(.int .i64 0),(.int .i64 0)] [(0,(1,(.c (.one (.str [97]))))),(1,(1,(.c (.one (.int .i64 (-1)))))),(2,(1,(.c (.one (.int .i64 1)))))],none⟩,
      ⟨some 95,.mov (.t 0),none⟩,
      ⟨some 96,.mov (.t 15),none⟩,
      ⟨some 93,.rowLit 3 [(.str []),(.int .i64 0),(.int .i64 0)] 1 [(0,(.t 92))],none⟩,
      ⟨some 87,.rowLit 3 [(.str []),(.int .i64 0),(.int .i64 0)] 0 [],none⟩,
      ⟨some 91,.app 3 32 (.t 87) (.t 90),none⟩,
      ⟨some 97,.slice .slc 3 (.t 95) (some (.t 96)) none none,none⟩,
      ⟨some 94,.app 3 32 (.t 91) (.t 93),none⟩,
      ⟨some 98,.app 3 32 (.t 94) (.t 97),none⟩,
      ⟨some 16,.mov (.t 98),none⟩],[⟨some 88,.mov (.t 0),none⟩,
      ⟨some 89,.mov (.t 15),none⟩,
      ⟨some 90,.slice .slc 3 (.t 88) none (some (.t 89)) none,none⟩,
      ⟨some 92,.build [(.str []),(.int .i64 0),(.int .i64 0)] [(0,(1,(.c (.one (.str [97]))))),(1,(1,(.c (.one (.int .i64 (-1)))))),(2,(1,(.c (.one (.int .i64 1)))))],none⟩,
      ⟨some 95,.mov (.t 0),none⟩,
      ⟨some 96,.mov (.t 15),none⟩,
      ⟨some 97,.slice .slc 3 (.t 95) (some (.t 96)) none none,none⟩,
      ⟨some 87,.rowLit 3 [(.str []),(.int .i64 0),(.int .i64 0)] 0 [],none⟩,
      ⟨some 91,.app 3 32 (.t 87) (.t 90),none⟩,
      ⟨some 93,.rowLit 3 [(.str []),(.int .i64 0),(.int .i64 0)] 1 [(0,(.t 92))],none⟩,
      ⟨some 94,.app 3 32 (.t 91) (.t 93),none⟩,
      ⟨some 98,.app 3 32 (.t 94) (.t 97),none⟩,
      ⟨some 16,.mov (.t 98),none⟩],[⟨some 88,.mov (.t 0),none⟩,
      ⟨some 89,.mov (.t 15),none⟩,
      ⟨some 90,.slice .slc 3 (.t 88) none (some (.t 89)) none,none⟩,
      ⟨some 92,.build [(.str []),(.int .i64 0),(.int .i64 0)] [(0,(1,(.c (.one (.str [97]))))),(1,(1,(.c (.one (.int .i64 (-1)))))),(2,(1,(.c (.one (.int .i64 1)))))],none⟩,
      ⟨some 95,.mov (.t 0),none⟩,
      ⟨some 96,.mov (.t 15),none⟩,
      ⟨some 97,.slice .slc 3 (.t 95) (some (.t 96)) none none,none⟩,
      ⟨some 87,.rowLit 3 [(.str []),(.int .i64 0),(.int .i64 0)] 0 [],none⟩,
      ⟨some 93,.rowLit 3 [(.str []),(.int .i64 0),(.int .i64 0)] 1 [(0,(.t 92))],none⟩,
      ⟨some 91,.app 3 32 (.t 87) (.t 90),none⟩,
      ⟨some 94,.app 3 32 (.t 91) (.t 93),none⟩,
      ⟨some 98,.app 3 32 (.t 94) (.t 97),none⟩,
      ⟨some 16,.mov (.t 98),none⟩],[⟨some 88,.mov (.t 0),none⟩,
      ⟨some 89,.mov (.t 15),none⟩,
      ⟨some 90,.slice .slc 3 (.t 88) none (some (.t 89)) none,none⟩,
      ⟨some 92,.build [(.str []),(.int .i64 0),(.int .i64 0)] [(0,(1,(.c (.one (.str [97]))))),(1,(1,(.c (.one (.int .i64 (-1)))))),(2,(1,(.c (.one (.int .i64 1)))))],none⟩,
      ⟨some 95,.mov (.t 0),none⟩,
      ⟨some 96,.mov (.t 15),none⟩,
      ⟨some 97,.slice .slc 3 (.t 95) (some (.t 96)) none none,none⟩,
      ⟨some 93,.rowLit 3 [(.str []),(.int .i64 0),(.int .i64 0)] 1 [(0,(.t 92))],none⟩,
      ⟨some 87,.rowLit 3 [(.str []),(.int .i64 0),(.int .i64 0)] 0 [],none⟩,
      ⟨some 91,.app 3 32 (.t 87) (.t 90),none⟩,
      ⟨some 94,.app 3 32 (.t 91) (.t 93),none⟩,
      ⟨some 98,.app 3 32 (.t 94) (.t 97),none⟩,
      ⟨some 16,.mov (.t 98),none⟩]]
def f376_22:List AI:=[⟨some 100,.mov (.t 16),none⟩,
    ⟨some 101,.mov (.t 1),none⟩,
    ⟨some 102,.wrapI .i64 (.t 101),none⟩,
    ⟨some 103,.call (.c (.one (.fn 379 []))) [(.t 100),(.t 102)],none⟩,
    ⟨some 99,.mov (.t 103),none⟩,
    ⟨some 104,.ext (.t 99) 0,none⟩,
    ⟨some 105,.ext (.t 99) 1,none⟩,
    ⟨some 17,.mov (.t 104),none⟩,
    ⟨some 18,.mov (.t 105),none⟩]
def f376_23:List AI:=[⟨some 107,.mov (.t 16),none⟩,
    ⟨some 108,.call (.c (.one (.fn 382 []))) [(.t 107),(.c (.one (.str [97])))],none⟩,
    ⟨some 106,.mov (.t 108),none⟩,
    ⟨some 109,.ext (.t 106) 0,none⟩,
    ⟨some 110,.ext (.t 106) 1,none⟩,
    ⟨some 19,.mov (.t 109),none⟩,
    ⟨some 20,.mov (.t 110),none⟩]
def f376_24:List AI:=[⟨some 111,.mov (.t 17),none⟩,
    ⟨some 112,.len .slc (.t 111),none⟩,
    ⟨some 113,.bin .eql (.t 112) (.c (.one (.int .i64 0))),none⟩,
    ⟨some 114,.mov (.t 113),none⟩,
    ⟨some 115,.mov (.t 18),some (114,true)⟩,
    ⟨some 116,.bin .neq (.t 115) (.c (.one (.int .i64 0))),some (114,true)⟩,
    ⟨some 117,.pick (.t 114) (.t 116) (.c (.one (.bool false))),none⟩,
    ⟨some 118,.mov (.t 117),none⟩,
    ⟨some 119,.mov (.t 20),some (118,true)⟩,
    ⟨some 120,.mov (.t 18),some (118,true)⟩,
    ⟨some 121,.bin .eql (.t 119) (.t 120),some (118,true)⟩,
    ⟨some 122,.pick (.t 118) (.t 121) (.c (.one (.bool false))),none⟩,
    ⟨some 6,.mov (.t 122),none⟩]
def f376_25:AC:=.seq (.reg f376_24) .ret
def f376_26:AC:=.seq (.reg f376_23) f376_25
def f376_27:AC:=.seq (.reg f376_22) f376_26
def f376_28:AC:=.seq (.dalt f376_21) f376_27
def f376_29:AC:=.seq (.reg f376_20) f376_28
def f376_30:AC:=.seq f376_19 f376_29
def f376_31:AC:=.seq (.reg f376_14) f376_30
def f376_32:AC:=.seq (.reg f376_13) f376_31
def f376_33:AC:=.seq (.reg f376_12) f376_32
def f376_34:AC:=.seq (.reg f376_11) f376_33
def f376_35:AC:=.seq f376_10 f376_34
def f376_36:AC:=.seq f376_5 f376_35
def f376_37:AC:=.seq (.reg f376_0) f376_36
def f376B:AC:=f376_37
def f376:AF:=⟨3,123,[(.t 6)],f376B⟩
def f377_0:List AI:=[⟨some 0,.mov (.c (.one (.bool false))),none⟩]
def f377_1:List AI:=[⟨some 4,.build [(.str []),(.int .i64 0),(.int .i64 0)] [(0,(1,(.c (.one (.str [97,109]))))),(1,(1,(.c (.one (.int .i64 7))))),(2,(1,(.c (.one (.int .i64 1)))))],none⟩,
    ⟨some 5,.build [(.str []),(.int .i64 0),(.int .i64 0)] [(0,(1,(.c (.one (.str [97,110]))))),(1,(1,(.c (.one (.int .i64 7))))),(2,(1,(.c (.one (.int .i64 2)))))],none⟩,
    ⟨some 6,.build [(.str []),(.int .i64 0),(.int .i64 0)] [(0,(1,(.c (.one (.str [97,109]))))),(1,(1,(.c (.one (.int .i64 9))))),(2,(1,(.c (.one (.int .i64 1)))))],none⟩,
    ⟨some 7,.rowLit 3 [(.str []),(.int .i64 0),(.int .i64 0)] 3 [(0,(.t 4)),(1,(.t 5)),(2,(.t 6))],none⟩,
    ⟨some 8,.call (.c (.one (.fn 379 []))) [(.t 7),(.c (.one (.int .i64 5)))],none⟩,
    ⟨some 3,.mov (.t 8),none⟩,
    ⟨some 9,.ext (.t 3) 0,none⟩,
    ⟨some 10,.ext (.t 3) 1,none⟩,
    ⟨some 1,.mov (.t 9),none⟩,
    ⟨some 2,.mov (.t 10),none⟩]
def f377_2:List AI:=[⟨some 11,.mov (.t 1),none⟩,
    ⟨some 12,.len .slc (.t 11),none⟩,
    ⟨some 13,.bin .eql (.t 12) (.c (.one (.int .i64 2))),none⟩,
    ⟨some 14,.mov (.t 13),none⟩,
    ⟨some 15,.mov (.t 1),some (14,true)⟩,
    ⟨some 16,.iaddr 3 (.t 15) (.c (.one (.int .i64 0))),some (14,true)⟩,
    ⟨some 17,.faddr 0 (.t 16),some (14,true)⟩,
    ⟨some 18,.load false 1 (.t 17),some (14,true)⟩,
    ⟨some 19,.bin .eql (.t 18) (.c (.one (.str [97,110]))),some (14,true)⟩,
    ⟨some 20,.pick (.t 14) (.t 19) (.c (.one (.bool false))),none⟩,
    ⟨some 21,.mov (.t 20),none⟩,
    ⟨some 22,.mov (.t 1),some (21,true)⟩,
    ⟨some 23,.iaddr 3 (.t 22) (.c (.one (.int .i64 1))),some (21,true)⟩,
    ⟨some 24,.faddr 1 (.t 23),some (21,true)⟩,
    ⟨some 25,.load false 1 (.t 24),some (21,true)⟩,
    ⟨some 26,.bin .eql (.t 25) (.c (.one (.int .i64 7))),some (21,true)⟩,
    ⟨some 27,.pick (.t 21) (.t 26) (.c (.one (.bool false))),none⟩,
    ⟨some 28,.mov (.t 27),none⟩,
    ⟨some 29,.mov (.t 2),some (28,true)⟩,
    ⟨some 30,.bin .eql (.t 29) (.c (.one (.int .i64 0))),some (28,true)⟩,
    ⟨some 31,.pick (.t 28) (.t 30) (.c (.one (.bool false))),none⟩,
    ⟨some 32,.mov (.t 31),none⟩,
    ⟨some 33,.build [(.str []),(.int .i64 0),(.int .i64 0)] [],some (32,true)⟩,
    ⟨some 34,.call (.c (.one (.fn 387 []))) [(.t 33)],some (32,true)⟩,
    ⟨some 35,.bin .eql (.t 34) (.c (.one (.int .i64 4))),some (32,true)⟩,
    ⟨some 36,.pick (.t 32) (.t 35) (.c (.one (.bool false))),none⟩,
    ⟨some 0,.mov (.t 36),none⟩]
def f377_3:AC:=.seq (.reg f377_2) .ret
def f377_4:AC:=.seq (.reg f377_1) f377_3
def f377_5:AC:=.seq (.reg f377_0) f377_4
def f377B:AC:=f377_5
def f377:AF:=⟨0,37,[(.t 0)],f377B⟩
def f378_0:List AI:=[⟨some 2,.mov (.c (.one (.bool false))),none⟩]
def f378_1:List AI:=[⟨some 3,.mov (.c (.one (.int .i64 0))),none⟩]
def f378_2:List AI:=[⟨some 6,.mov (.t 0),none⟩,
    ⟨some 7,.len .slc (.t 6),none⟩,
    ⟨some 8,.mov (.c (.one (.int .i64 0))),none⟩]
def f378_3:List AI:=[⟨some 9,.bin .lss (.t 8) (.t 7),none⟩]
def f378_4:AC:=.cond (.t 9) .skip (.exit 0)
def f378_5:List AI:=[⟨some 10,.iaddr 3 (.t 6) (.t 8),none⟩,
    ⟨some 11,.load true 3 (.t 10),none⟩,
    ⟨some 5,.new [(.str []),(.int .i64 0),(.int .i64 0)],none⟩,
    ⟨none,.store 3 (.t 5) (.t 11),none⟩]
def f378_6:List AI:=[⟨some 12,.mov (.t 3),none⟩,
    ⟨some 13,.faddr 0 (.t 5),none⟩,
    ⟨some 14,.load false 1 (.t 13),none⟩,
    ⟨some 15,.len .str (.t 14),none⟩,
    ⟨some 16,.bin .add (.t 12) (.t 15),none⟩,
    ⟨some 3,.mov (.t 16),none⟩]
def f378_7:AC:=.seq (.reg f378_5) (.reg f378_6)
def f378_8:AC:=.block 1 f378_7
def f378_9:List AI:=[⟨some 17,.bin .add (.t 8) (.c (.one (.int .i64 1))),none⟩,
    ⟨some 8,.mov (.t 17),none⟩]
def f378_10:AC:=.seq f378_8 (.reg f378_9)
def f378_11:AC:=.seq f378_4 f378_10
def f378_12:AC:=.seq (.reg f378_3) f378_11
def f378_13:AC:=.loop f378_12
def f378_14:AC:=.block 0 f378_13
def f378_15:AC:=.seq (.reg f378_2) f378_14
def f378_16:List AI:=[⟨some 18,.mov (.t 0),none⟩,
    ⟨some 19,.len .slc (.t 18),none⟩,
    ⟨some 20,.bin .gtr (.t 19) (.c (.one (.int .i64 200))),none⟩,
    ⟨some 21,.mov (.t 20),none⟩,
    ⟨some 22,.mov (.t 3),some (21,false)⟩,
    ⟨some 23,.bin .gtr (.t 22) (.c (.one (.int .i64 4000))),some (21,false)⟩,
    ⟨some 24,.pick (.t 21) (.c (.one (.bool true))) (.t 23),none⟩,
    ⟨some 2,.mov (.t 24),none⟩]
def f378_17:AC:=.seq (.reg f378_16) .ret
def f378_18:AC:=.seq f378_15 f378_17
def f378_19:AC:=.seq (.reg f378_1) f378_18
def f378_20:AC:=.seq (.reg f378_0) f378_19
def f378B:AC:=f378_20
def f378:AF:=⟨1,25,[(.t 2)],f378B⟩
def f379_0:List AI:=[⟨some 3,.box (.t 1),none⟩,
    ⟨some 4,.new [.nils],none⟩,
    ⟨some 5,.mov (.c (.one (.int .i64 0))),none⟩]
def f379_1:List AI:=[⟨some 9,.mov (.t 0),none⟩,
    ⟨some 10,.call (.c (.one (.fn 390 []))) [(.t 9)],none⟩,
    ⟨some 6,.mov (.t 10),none⟩]
def f379_2:List AI:=[⟨some 11,.mov (.t 6),none⟩,
    ⟨some 12,.bin .neq (.t 11) (.c (.one (.int .i64 0))),none⟩]
def f379_3:List AI:=[⟨some 13,.mov (.t 6),none⟩,
    ⟨none,.store 1 (.t 4) (.c (.one .nils)),none⟩,
    ⟨some 5,.mov (.t 13),none⟩]
def f379_4:AC:=.seq (.reg f379_3) .ret
def f379_5:AC:=.cond (.t 12) f379_4 .skip
def f379_6:AC:=.seq (.reg f379_2) f379_5
def f379_7:AC:=.seq (.reg f379_1) f379_6
def f379_8:List AI:=[⟨some 14,.load false 1 (.t 3),none⟩,
    ⟨some 15,.bin .lss (.t 14) (.c (.one (.int .i64 0))),none⟩,
    ⟨some 16,.mov (.t 15),none⟩,
    ⟨some 17,.load false 1 (.t 3),some (16,false)⟩,
    ⟨some 18,.bin .gtr (.t 17) (.c (.one (.int .i64 1000))),some (16,false)⟩,
    ⟨some 19,.pick (.t 16) (.c (.one (.bool true))) (.t 18),none⟩]
def f379_9:List AI:=[⟨none,.store 1 (.t 4) (.c (.one .nils)),none⟩,
    ⟨some 5,.mov (.c (.one (.int .i64 2))),none⟩]
def f379_10:AC:=.seq (.reg f379_9) .ret
def f379_11:AC:=.cond (.t 19) f379_10 .skip
def f379_12:AC:=.seq (.reg f379_8) f379_11
def f379_13:List AI:=[⟨some 20,.mov (.t 0),none⟩,
    ⟨some 21,.call (.c (.one (.fn 391 []))) [(.t 20)],none⟩]
def f379_14:List AI:=[⟨some 7,.mov (.t 22),none⟩]
def f379_15:List AI:=[⟨some 8,.new [(.str []),(.int .i64 0),(.int .i64 0)],none⟩,
    ⟨none,.store 3 (.t 8) (.t 23),none⟩]
def f379_16:AC:=.seq (.reg f379_14) (.reg f379_15)
def f379_17:List AI:=[⟨some 24,.mov (.t 7),none⟩,
    ⟨some 25,.load false 1 (.t 3),none⟩,
    ⟨some 26,.bin .eql (.t 24) (.t 25),none⟩]
def f379_18:AC:=.cond (.t 26) (.exit 0) .skip
def f379_19:AC:=.seq (.reg f379_17) f379_18
def f379_20:List AI:=[⟨some 27,.load false 1 (.t 4),none⟩,
    ⟨some 28,.load true 3 (.t 8),none⟩,
    ⟨some 29,.rowLit 3 [(.str []),(.int .i64 0),(.int .i64 0)] 1 [(0,(.t 28))],none⟩,
    ⟨some 30,.app 3 32 (.t 27) (.t 29),none⟩,
    ⟨none,.store 1 (.t 4) (.t 30),none⟩]
def f379_21:AC:=.seq f379_19 (.reg f379_20)
def f379_22:AC:=.block 1 f379_21
def f379_23:AC:=.rangeF (.t 21) [22,23] f379_16 f379_22
def f379_24:AC:=.block 0 f379_23
def f379_25:AC:=.seq (.reg f379_13) f379_24
def f379_26:List AI:=[⟨some 31,.load false 1 (.t 4),none⟩,
    ⟨none,.store 1 (.t 4) (.t 31),none⟩,
    ⟨some 5,.mov (.c (.one (.int .i64 0))),none⟩]
def f379_27:AC:=.seq (.reg f379_26) .ret
def f379_28:AC:=.seq f379_25 f379_27
def f379_29:AC:=.seq f379_12 f379_28
def f379_30:AC:=.seq f379_7 f379_29
def f379_31:AC:=.seq (.reg f379_0) f379_30
def f379B:AC:=f379_31
def f379:AF:=⟨2,32,[(.cell 4 false 1),(.t 5)],f379B⟩
def f380_0:List AI:=[⟨some 4,.mov (.c (.one (.bool false))),none⟩]
def f380_1:List AI:=[⟨some 6,.mov (.t 0),none⟩,
    ⟨some 7,.len .slc (.t 6),none⟩,
    ⟨some 8,.mov (.t 1),none⟩,
    ⟨some 9,.len .slc (.t 8),none⟩,
    ⟨some 10,.bin .neq (.t 7) (.t 9),none⟩]
def f380_2:List AI:=[⟨some 4,.mov (.c (.one (.bool false))),none⟩]
def f380_3:AC:=.seq (.reg f380_2) .ret
def f380_4:AC:=.cond (.t 10) f380_3 .skip
def f380_5:AC:=.seq (.reg f380_1) f380_4
def f380_6:List AI:=[⟨some 11,.mov (.t 0),none⟩,
    ⟨some 12,.len .slc (.t 11),none⟩,
    ⟨some 13,.mov (.c (.one (.int .i64 0))),none⟩]
def f380_7:List AI:=[⟨some 14,.bin .lss (.t 13) (.t 12),none⟩]
def f380_8:AC:=.cond (.t 14) .skip (.exit 0)
def f380_9:List AI:=[⟨some 15,.mov (.t 13),none⟩,
    ⟨some 5,.mov (.t 15),none⟩]
def f380_10:List AI:=[⟨some 16,.mov (.t 0),none⟩,
    ⟨some 17,.mov (.t 5),none⟩,
    ⟨some 18,.iaddr 3 (.t 16) (.t 17),none⟩,
    ⟨some 19,.load true 3 (.t 18),none⟩,
    ⟨some 20,.mov (.t 1),none⟩,
    ⟨some 21,.mov (.t 5),none⟩,
    ⟨some 22,.iaddr 3 (.t 20) (.t 21),none⟩,
    ⟨some 23,.load true 3 (.t 22),none⟩,
    ⟨some 24,.eqv (.cells [.str,(.int .i64),(.int .i64)]) true (.t 19) (.t 23),none⟩]
def f380_11:List AI:=[⟨some 4,.mov (.c (.one (.bool false))),none⟩]
def f380_12:AC:=.seq (.reg f380_11) .ret
def f380_13:AC:=.cond (.t 24) f380_12 .skip
def f380_14:AC:=.seq (.dreg f380_10) f380_13
def f380_15:AC:=.seq (.reg f380_9) f380_14
def f380_16:AC:=.block 1 f380_15
def f380_17:List AI:=[⟨some 25,.bin .add (.t 13) (.c (.one (.int .i64 1))),none⟩,
    ⟨some 13,.mov (.t 25),none⟩]
def f380_18:AC:=.seq f380_16 (.reg f380_17)
def f380_19:AC:=.seq f380_8 f380_18
def f380_20:AC:=.seq (.reg f380_7) f380_19
def f380_21:AC:=.loop f380_20
def f380_22:AC:=.block 0 f380_21
def f380_23:AC:=.seq (.reg f380_6) f380_22
def f380_24:List AI:=[⟨some 4,.mov (.c (.one (.bool true))),none⟩]
def f380_25:AC:=.seq (.reg f380_24) .ret
def f380_26:AC:=.seq f380_23 f380_25
def f380_27:AC:=.seq f380_5 f380_26
def f380_28:AC:=.seq (.reg f380_0) f380_27
def f380B:AC:=f380_28
def f380:AF:=⟨2,26,[(.t 4)],f380B⟩
def f382_0:List AI:=[⟨some 3,.box (.t 1),none⟩,
    ⟨some 4,.new [(.int .i64 0)],none⟩,
    ⟨some 5,.new [(.int .i64 0)],none⟩]
def f382_1:List AI:=[⟨some 9,.mov (.t 0),none⟩,
    ⟨some 10,.call (.c (.one (.fn 390 []))) [(.t 9)],none⟩,
    ⟨some 6,.mov (.t 10),none⟩]
def f382_2:List AI:=[⟨some 11,.mov (.t 6),none⟩,
    ⟨some 12,.bin .neq (.t 11) (.c (.one (.int .i64 0))),none⟩]
def f382_3:List AI:=[⟨some 13,.mov (.t 6),none⟩,
    ⟨none,.store 1 (.t 4) (.c (.one (.int .i64 0))),none⟩,
    ⟨none,.store 1 (.t 5) (.t 13),none⟩]
def f382_4:AC:=.seq (.reg f382_3) .ret
def f382_5:AC:=.cond (.t 12) f382_4 .skip
def f382_6:AC:=.seq (.reg f382_2) f382_5
def f382_7:AC:=.seq (.reg f382_1) f382_6
def f382_8:List AI:=[⟨some 14,.mov (.t 0),none⟩,
    ⟨some 15,.call (.c (.one (.fn 391 []))) [(.t 14)],none⟩]
def f382_9:List AI:=[⟨some 7,.mov (.t 16),none⟩]
def f382_10:List AI:=[⟨some 8,.new [(.str []),(.int .i64 0),(.int .i64 0)],none⟩,
    ⟨none,.store 3 (.t 8) (.t 17),none⟩]
def f382_11:AC:=.seq (.reg f382_9) (.reg f382_10)
def f382_12:List AI:=[⟨some 18,.faddr 0 (.t 8),none⟩,
    ⟨some 19,.load false 1 (.t 18),none⟩,
    ⟨some 20,.load false 1 (.t 3),none⟩,
    ⟨some 21,.bin .eql (.t 19) (.t 20),none⟩]
def f382_13:List AI:=[⟨some 22,.mov (.t 7),none⟩,
    ⟨none,.store 1 (.t 4) (.t 22),none⟩,
    ⟨none,.store 1 (.t 5) (.c (.one (.int .i64 0))),none⟩]
def f382_14:AC:=.seq (.reg f382_13) .ret
def f382_15:AC:=.cond (.t 21) f382_14 .skip
def f382_16:AC:=.seq (.reg f382_12) f382_15
def f382_17:AC:=.block 1 f382_16
def f382_18:AC:=.rangeF (.t 15) [16,17] f382_11 f382_17
def f382_19:AC:=.block 0 f382_18
def f382_20:AC:=.seq (.reg f382_8) f382_19
def f382_21:List AI:=[⟨none,.store 1 (.t 4) (.c (.one (.int .i64 0))),none⟩,
    ⟨none,.store 1 (.t 5) (.c (.one (.int .i64 10))),none⟩]
def f382_22:AC:=.seq (.reg f382_21) .ret
def f382_23:AC:=.seq f382_20 f382_22
def f382_24:AC:=.seq f382_7 f382_23
def f382_25:AC:=.seq (.reg f382_0) f382_24
def f382B:AC:=f382_25
def f382:AF:=⟨2,23,[(.cell 4 false 1),(.cell 5 false 1)],f382B⟩
def f384_0:List AI:=[⟨some 6,.mov (.c (.one .nils)),none⟩,
    ⟨some 7,.mov (.c (.one (.int .i64 0))),none⟩]
def f384_1:List AI:=[⟨some 8,.mov (.t 0),none⟩,
    ⟨some 9,.mov (.t 1),none⟩,
    ⟨some 10,.rowLit 1 [.nils] 2 [(0,(.t 8)),(1,(.t 9))],none⟩,
    ⟨some 11,.call (.c (.one (.fn 394 []))) [(.t 10)],none⟩,
    ⟨some 12,.mov (.t 2),none⟩,
    ⟨some 13,.call (.c (.one (.fn 379 []))) [(.t 11),(.t 12)],none⟩,
    ⟨some 14,.ext (.t 13) 0,none⟩,
    ⟨some 15,.ext (.t 13) 1,none⟩,
    ⟨some 6,.mov (.t 14),none⟩,
    ⟨some 7,.mov (.t 15),none⟩]
def f384_2:AC:=.seq (.reg f384_1) .ret
def f384_3:AC:=.seq (.reg f384_0) f384_2
def f384B:AC:=f384_3
def f384:AF:=⟨3,16,[(.t 6),(.t 7)],f384B⟩
def f387_0:List AI:=[⟨some 1,.box (.t 0),none⟩,
    ⟨some 2,.mov (.c (.one (.int .i64 0))),none⟩]
def f387_1:List AI:=[⟨some 6,.faddr 0 (.t 1),none⟩,
    ⟨some 7,.load false 1 (.t 6),none⟩,
    ⟨some 8,.call (.c (.one (.fn 20 []))) [(.t 7)],none⟩,
    ⟨some 5,.mov (.t 8),none⟩,
    ⟨some 9,.ext (.t 5) 0,none⟩,
    ⟨some 10,.ext (.t 5) 1,none⟩,
    ⟨some 3,.mov (.t 9),none⟩,
    ⟨some 4,.mov (.t 10),none⟩]
def f387_2:List AI:=[⟨some 11,.mov (.t 4),none⟩,
    ⟨some 12,.bin .eql (.t 11) (.c (.one (.int .i64 0))),none⟩,
    ⟨some 13,.mov (.t 12),none⟩,
    ⟨some 14,.faddr 1 (.t 1),some (13,true)⟩,
    ⟨some 15,.load false 1 (.t 14),some (13,true)⟩,
    ⟨some 16,.bin .lss (.t 15) (.c (.one (.int .i64 0))),some (13,true)⟩,
    ⟨some 17,.mov (.t 16),some (13,true)⟩,
    ⟨some 18,.faddr 1 (.t 1),some (17,false)⟩,
    ⟨some 19,.load false 1 (.t 18),some (17,false)⟩,
    ⟨some 20,.bin .gtr (.t 19) (.c (.one (.int .i64 4096))),some (17,false)⟩,
    ⟨some 21,.pick (.t 17) (.c (.one (.bool true))) (.t 20),some (13,true)⟩,
    ⟨some 22,.mov (.t 21),some (13,true)⟩,
    ⟨some 23,.faddr 2 (.t 1),some (22,false)⟩,
    ⟨some 24,.load false 1 (.t 23),some (22,false)⟩,
    ⟨some 25,.bin .lss (.t 24) (.c (.one (.int .i64 1))),some (22,false)⟩,
    ⟨some 26,.pick (.t 22) (.c (.one (.bool true))) (.t 25),some (13,true)⟩,
    ⟨some 27,.mov (.t 26),some (13,true)⟩,
    ⟨some 28,.faddr 2 (.t 1),some (27,false)⟩,
    ⟨some 29,.load false 1 (.t 28),some (27,false)⟩,
    ⟨some 30,.bin .gtr (.t 29) (.c (.one (.int .i64 1073741824))),some (27,false)⟩,
    ⟨some 31,.pick (.t 27) (.c (.one (.bool true))) (.t 30),some (13,true)⟩,
    ⟨some 32,.pick (.t 13) (.t 31) (.c (.one (.bool false))),none⟩]
def f387_3:List AI:=[⟨some 2,.mov (.c (.one (.int .i64 2))),none⟩]
def f387_4:AC:=.seq (.reg f387_3) .ret
def f387_5:AC:=.cond (.t 32) f387_4 .skip
def f387_6:AC:=.seq (.reg f387_2) f387_5
def f387_7:List AI:=[⟨some 33,.mov (.t 4),none⟩,
    ⟨some 2,.mov (.t 33),none⟩]
def f387_8:AC:=.seq (.reg f387_7) .ret
def f387_9:AC:=.seq f387_6 f387_8
def f387_10:AC:=.seq (.reg f387_1) f387_9
def f387_11:AC:=.seq (.reg f387_0) f387_10
def f387B:AC:=f387_11
def f387:AF:=⟨1,34,[(.t 2)],f387B⟩
def f390_0:List AI:=[⟨some 2,.mov (.c (.one (.int .i64 0))),none⟩]
def f390_1:List AI:=[⟨some 6,.mov (.t 0),none⟩,
    ⟨some 7,.len .slc (.t 6),none⟩,
    ⟨some 8,.mov (.c (.one (.int .i64 0))),none⟩]
def f390_2:List AI:=[⟨some 9,.bin .lss (.t 8) (.t 7),none⟩]
def f390_3:AC:=.cond (.t 9) .skip (.exit 0)
def f390_4:List AI:=[⟨some 10,.iaddr 3 (.t 6) (.t 8),none⟩,
    ⟨some 11,.load true 3 (.t 10),none⟩,
    ⟨some 4,.new [(.str []),(.int .i64 0),(.int .i64 0)],none⟩,
    ⟨none,.store 3 (.t 4) (.t 11),none⟩]
def f390_5:List AI:=[⟨some 12,.load true 3 (.t 4),none⟩,
    ⟨some 13,.call (.c (.one (.fn 387 []))) [(.t 12)],none⟩,
    ⟨some 5,.mov (.t 13),none⟩]
def f390_6:List AI:=[⟨some 14,.mov (.t 5),none⟩,
    ⟨some 15,.bin .neq (.t 14) (.c (.one (.int .i64 0))),none⟩]
def f390_7:List AI:=[⟨some 16,.mov (.t 5),none⟩,
    ⟨some 2,.mov (.t 16),none⟩]
def f390_8:AC:=.seq (.reg f390_7) .ret
def f390_9:AC:=.cond (.t 15) f390_8 .skip
def f390_10:AC:=.seq (.reg f390_6) f390_9
def f390_11:AC:=.seq (.reg f390_5) f390_10
def f390_12:AC:=.seq (.reg f390_4) f390_11
def f390_13:AC:=.block 1 f390_12
def f390_14:List AI:=[⟨some 17,.bin .add (.t 8) (.c (.one (.int .i64 1))),none⟩,
    ⟨some 8,.mov (.t 17),none⟩]
def f390_15:AC:=.seq f390_13 (.reg f390_14)
def f390_16:AC:=.seq f390_3 f390_15
def f390_17:AC:=.seq (.reg f390_2) f390_16
def f390_18:AC:=.loop f390_17
def f390_19:AC:=.block 0 f390_18
def f390_20:AC:=.seq (.reg f390_1) f390_19
def f390_21:List AI:=[⟨some 2,.mov (.c (.one (.int .i64 0))),none⟩]
def f390_22:AC:=.seq (.reg f390_21) .ret
def f390_23:AC:=.seq f390_20 f390_22
def f390_24:AC:=.seq (.reg f390_0) f390_23
def f390B:AC:=f390_24
def f390:AF:=⟨1,18,[(.t 2)],f390B⟩
def f391_0:List AI:=[⟨some 1,.box (.t 0),none⟩,
    ⟨some 2,.mov (.c (.one .nilf)),none⟩]
def f391_1:List AI:=[⟨some 3,.mkfn 395 [(.t 1)],none⟩,
    ⟨some 2,.mov (.t 3),none⟩]
def f391_2:AC:=.seq (.reg f391_1) .ret
def f391_3:AC:=.seq (.reg f391_0) f391_2
def f391B:AC:=f391_3
def f391:AF:=⟨1,4,[(.t 2)],f391B⟩
def f392_0:List AI:=[⟨some 2,.box (.t 0),none⟩,
    ⟨some 3,.box (.t 1),none⟩,
    ⟨some 4,.mov (.c (.one (.int .i64 0))),none⟩]
def f392_1:List AI:=[⟨some 5,.faddr 1 (.t 2),none⟩,
    ⟨some 6,.load false 1 (.t 5),none⟩,
    ⟨some 7,.faddr 1 (.t 3),none⟩,
    ⟨some 8,.load false 1 (.t 7),none⟩,
    ⟨some 9,.call (.c (.one (.fn 328 []))) [(.t 6),(.t 8)],none⟩,
    ⟨some 10,.faddr 2 (.t 3),none⟩,
    ⟨some 11,.load false 1 (.t 10),none⟩,
    ⟨some 12,.faddr 2 (.t 2),none⟩,
    ⟨some 13,.load false 1 (.t 12),none⟩,
    ⟨some 14,.call (.c (.one (.fn 328 []))) [(.t 11),(.t 13)],none⟩,
    ⟨some 15,.faddr 0 (.t 2),none⟩,
    ⟨some 16,.load false 1 (.t 15),none⟩,
    ⟨some 17,.faddr 0 (.t 3),none⟩,
    ⟨some 18,.load false 1 (.t 17),none⟩,
    ⟨some 19,.call (.c (.one (.fn 252 []))) [(.t 16),(.t 18)],none⟩,
    ⟨some 20,.rowLit 1 [(.int .i64 0)] 3 [(0,(.t 9)),(1,(.t 14)),(2,(.t 19))],none⟩,
    ⟨some 21,.call (.c (.one (.fn 251 []))) [(.t 20)],none⟩,
    ⟨some 4,.mov (.t 21),none⟩]
def f392_2:AC:=.seq (.dreg f392_1) .ret
def f392_3:AC:=.seq (.reg f392_0) f392_2
def f392B:AC:=f392_3
def f392:AF:=⟨2,22,[(.t 4)],f392B⟩
def f394_0:List AI:=[⟨some 2,.mov (.c (.one .nils)),none⟩]
def f394_1:List AI:=[⟨some 3,.mov (.c (.one (.int .i64 0))),none⟩]
def f394_2:List AI:=[⟨some 9,.mov (.t 0),none⟩,
    ⟨some 10,.len .slc (.t 9),none⟩,
    ⟨some 11,.mov (.c (.one (.int .i64 0))),none⟩]
def f394_3:List AI:=[⟨some 12,.bin .lss (.t 11) (.t 10),none⟩]
def f394_4:AC:=.cond (.t 12) .skip (.exit 0)
def f394_5:List AI:=[⟨some 13,.iaddr 1 (.t 9) (.t 11),none⟩,
    ⟨some 14,.load false 1 (.t 13),none⟩,
    ⟨some 5,.mov (.t 14),none⟩]
def f394_6:List AI:=[⟨some 15,.mov (.t 3),none⟩,
    ⟨some 16,.mov (.t 5),none⟩,
    ⟨some 17,.len .slc (.t 16),none⟩,
    ⟨some 18,.bin .add (.t 15) (.t 17),none⟩,
    ⟨some 3,.mov (.t 18),none⟩]
def f394_7:List AI:=[⟨some 19,.mov (.t 3),none⟩,
    ⟨some 20,.bin .lss (.t 19) (.c (.one (.int .i64 0))),none⟩]
def f394_8:AC:=.cond (.t 20) .dead .skip
def f394_9:AC:=.seq (.reg f394_7) f394_8
def f394_10:AC:=.seq (.reg f394_6) f394_9
def f394_11:AC:=.seq (.reg f394_5) f394_10
def f394_12:AC:=.block 1 f394_11
def f394_13:List AI:=[⟨some 22,.bin .add (.t 11) (.c (.one (.int .i64 1))),none⟩,
    ⟨some 11,.mov (.t 22),none⟩]
def f394_14:AC:=.seq f394_12 (.reg f394_13)
def f394_15:AC:=.seq f394_4 f394_14
def f394_16:AC:=.seq (.reg f394_3) f394_15
def f394_17:AC:=.loop f394_16
def f394_18:AC:=.block 0 f394_17
def f394_19:AC:=.seq (.reg f394_2) f394_18
def f394_20:List AI:=[⟨some 23,.mov (.t 3),none⟩,
    ⟨some 24,.call (.c (.one (.fn 398 []))) [(.c (.one .nils)),(.t 23)],none⟩,
    ⟨some 6,.mov (.t 24),none⟩]
def f394_21:List AI:=[⟨some 25,.mov (.t 0),none⟩,
    ⟨some 26,.len .slc (.t 25),none⟩,
    ⟨some 27,.mov (.c (.one (.int .i64 0))),none⟩]
def f394_22:List AI:=[⟨some 28,.bin .lss (.t 27) (.t 26),none⟩]
def f394_23:AC:=.cond (.t 28) .skip (.exit 2)
def f394_24:List AI:=[⟨some 29,.iaddr 1 (.t 25) (.t 27),none⟩,
    ⟨some 30,.load false 1 (.t 29),none⟩,
    ⟨some 8,.mov (.t 30),none⟩]
def f394_25:List AI:=[⟨some 31,.mov (.t 6),none⟩,
    ⟨some 32,.mov (.t 8),none⟩,
    ⟨some 33,.app 3 32 (.t 31) (.t 32),none⟩,
    ⟨some 6,.mov (.t 33),none⟩]
def f394_26:AC:=.seq (.reg f394_24) (.reg f394_25)
def f394_27:AC:=.block 3 f394_26
def f394_28:List AI:=[⟨some 34,.bin .add (.t 27) (.c (.one (.int .i64 1))),none⟩,
    ⟨some 27,.mov (.t 34),none⟩]
def f394_29:AC:=.seq f394_27 (.reg f394_28)
def f394_30:AC:=.seq f394_23 f394_29
def f394_31:AC:=.seq (.reg f394_22) f394_30
def f394_32:AC:=.loop f394_31
def f394_33:AC:=.block 2 f394_32
def f394_34:AC:=.seq (.reg f394_21) f394_33
def f394_35:List AI:=[⟨some 35,.mov (.t 6),none⟩,
    ⟨some 2,.mov (.t 35),none⟩]
def f394_36:AC:=.seq (.reg f394_35) .ret
def f394_37:AC:=.seq f394_34 f394_36
def f394_38:AC:=.seq (.reg f394_20) f394_37
def f394_39:AC:=.seq f394_19 f394_38
def f394_40:AC:=.seq (.reg f394_1) f394_39
def f394_41:AC:=.seq (.reg f394_0) f394_40
def f394B:AC:=f394_41
def f394:AF:=⟨1,36,[(.t 2)],f394B⟩
def f395_0:List AI:=[⟨some 6,.mkmap,none⟩,
    ⟨some 3,.mov (.t 6),none⟩]
def f395_1:List AI:=[⟨some 7,.load false 1 (.t 1),none⟩,
    ⟨some 8,.call (.c (.one (.fn 397 []))) [(.t 7)],none⟩,
    ⟨some 9,.call (.c (.one (.fn 396 []))) [(.t 8),(.c (.one (.fn 392 [])))],none⟩,
    ⟨some 10,.len .slc (.t 9),none⟩,
    ⟨some 11,.mov (.c (.one (.int .i64 0))),none⟩]
def f395_2:List AI:=[⟨some 12,.bin .lss (.t 11) (.t 10),none⟩]
def f395_3:AC:=.cond (.t 12) .skip (.exit 0)
def f395_4:List AI:=[⟨some 13,.iaddr 3 (.t 9) (.t 11),none⟩,
    ⟨some 14,.load true 3 (.t 13),none⟩,
    ⟨some 5,.new [(.str []),(.int .i64 0),(.int .i64 0)],none⟩,
    ⟨none,.store 3 (.t 5) (.t 14),none⟩]
def f395_5:List AI:=[⟨some 15,.mov (.t 3),none⟩,
    ⟨some 16,.faddr 0 (.t 5),none⟩,
    ⟨some 17,.load false 1 (.t 16),none⟩,
    ⟨some 18,.lookup .str (.bool false) (.t 15) (.t 17) false,none⟩]
def f395_6:AC:=.cond (.t 18) (.exit 1) .skip
def f395_7:AC:=.seq (.reg f395_5) f395_6
def f395_8:List AI:=[⟨some 19,.mov (.t 0),none⟩,
    ⟨some 20,.mov (.t 3),none⟩,
    ⟨some 21,.len .map (.t 20),none⟩,
    ⟨some 22,.load true 3 (.t 5),none⟩,
    ⟨some 23,.call (.t 19) [(.t 21),(.t 22)],none⟩,
    ⟨some 24,.un .not (.t 23),none⟩]
def f395_9:AC:=.cond (.t 24) (.exit 0) .skip
def f395_10:AC:=.seq (.reg f395_8) f395_9
def f395_11:List AI:=[⟨some 25,.mov (.t 3),none⟩,
    ⟨some 26,.faddr 0 (.t 5),none⟩,
    ⟨some 27,.load false 1 (.t 26),none⟩,
    ⟨none,.mapset .str (.t 25) (.t 27) (.c (.one (.bool true))),none⟩]
def f395_12:AC:=.seq f395_10 (.reg f395_11)
def f395_13:AC:=.seq f395_7 f395_12
def f395_14:AC:=.seq (.reg f395_4) f395_13
def f395_15:AC:=.block 1 f395_14
def f395_16:List AI:=[⟨some 28,.bin .add (.t 11) (.c (.one (.int .i64 1))),none⟩,
    ⟨some 11,.mov (.t 28),none⟩]
def f395_17:AC:=.seq f395_15 (.reg f395_16)
def f395_18:AC:=.seq f395_3 f395_17
def f395_19:AC:=.seq (.reg f395_2) f395_18
def f395_20:AC:=.loop f395_19
def f395_21:AC:=.block 0 f395_20
def f395_22:AC:=.seq (.reg f395_1) f395_21
def f395_23:AC:=.seq .skip f395_22
def f395_24:AC:=.seq (.reg f395_0) f395_23
def f395_25:AC:=.seq .skip f395_24
def f395B:AC:=f395_25
def f395:AF:=⟨2,29,[],f395B⟩
def f396_0:List AI:=[⟨some 4,.mov (.c (.one .nils)),none⟩]
def f396_1:List AI:=[⟨some 6,.mov (.t 0),none⟩,
    ⟨some 7,.call (.c (.one (.fn 399 []))) [(.t 6)],none⟩,
    ⟨some 5,.mov (.t 7),none⟩]
def f396_2:List AI:=[⟨some 8,.mov (.t 5),none⟩,
    ⟨some 9,.mov (.t 1),none⟩,
    ⟨some 10,.call (.c (.one (.fn 400 []))) [(.t 8),(.t 9)],none⟩]
def f396_3:List AI:=[⟨some 11,.mov (.t 5),none⟩,
    ⟨some 4,.mov (.t 11),none⟩]
def f396_4:AC:=.seq (.reg f396_3) .ret
def f396_5:AC:=.seq (.reg f396_2) f396_4
def f396_6:AC:=.seq (.reg f396_1) f396_5
def f396_7:AC:=.seq (.reg f396_0) f396_6
def f396B:AC:=f396_7
def f396:AF:=⟨2,12,[(.t 4)],f396B⟩
def f397_0:List AI:=[⟨some 1,.box (.t 0),none⟩,
    ⟨some 2,.mov (.c (.one .nilf)),none⟩]
def f397_1:List AI:=[⟨some 3,.mkfn 401 [(.t 1)],none⟩,
    ⟨some 2,.mov (.t 3),none⟩]
def f397_2:AC:=.seq (.reg f397_1) .ret
def f397_3:AC:=.seq (.reg f397_0) f397_2
def f397B:AC:=f397_3
def f397:AF:=⟨1,4,[(.t 2)],f397B⟩
def f399_0:List AI:=[⟨some 2,.mov (.c (.one .nils)),none⟩]
def f399_1:List AI:=[⟨some 3,.mov (.t 0),none⟩,
    ⟨some 4,.call (.c (.one (.fn 402 []))) [(.c (.one .nils)),(.t 3)],none⟩,
    ⟨some 2,.mov (.t 4),none⟩]
def f399_2:AC:=.seq (.reg f399_1) .ret
def f399_3:AC:=.seq (.reg f399_0) f399_2
def f399B:AC:=f399_3
def f399:AF:=⟨1,5,[(.t 2)],f399B⟩
def f401_0:List AI:=[⟨some 5,.load false 1 (.t 1),none⟩,
    ⟨some 6,.len .slc (.t 5),none⟩,
    ⟨some 7,.mov (.c (.one (.int .i64 0))),none⟩]
def f401_1:List AI:=[⟨some 8,.bin .lss (.t 7) (.t 6),none⟩]
def f401_2:AC:=.cond (.t 8) .skip (.exit 0)
def f401_3:List AI:=[⟨some 9,.iaddr 3 (.t 5) (.t 7),none⟩,
    ⟨some 10,.load true 3 (.t 9),none⟩,
    ⟨some 4,.new [(.str []),(.int .i64 0),(.int .i64 0)],none⟩,
    ⟨none,.store 3 (.t 4) (.t 10),none⟩]
def f401_4:List AI:=[⟨some 11,.mov (.t 0),none⟩,
    ⟨some 12,.load true 3 (.t 4),none⟩,
    ⟨some 13,.call (.t 11) [(.t 12)],none⟩,
    ⟨some 14,.un .not (.t 13),none⟩]
def f401_5:AC:=.cond (.t 14) .ret .skip
def f401_6:AC:=.seq (.reg f401_4) f401_5
def f401_7:AC:=.seq (.reg f401_3) f401_6
def f401_8:AC:=.block 1 f401_7
def f401_9:List AI:=[⟨some 15,.bin .add (.t 7) (.c (.one (.int .i64 1))),none⟩,
    ⟨some 7,.mov (.t 15),none⟩]
def f401_10:AC:=.seq f401_8 (.reg f401_9)
def f401_11:AC:=.seq f401_2 f401_10
def f401_12:AC:=.seq (.reg f401_1) f401_11
def f401_13:AC:=.loop f401_12
def f401_14:AC:=.block 0 f401_13
def f401_15:AC:=.seq (.reg f401_0) f401_14
def f401B:AC:=f401_15
def f401:AF:=⟨2,16,[],f401B⟩
def f402_0:List AI:=[⟨some 2,.box (.t 0),none⟩,
    ⟨some 4,.mov (.c (.one .nils)),none⟩]
def f402_1:List AI:=[⟨some 6,.mov (.t 1),none⟩]
def f402_2:List AI:=[⟨some 5,.new [(.str []),(.int .i64 0),(.int .i64 0)],none⟩,
    ⟨none,.store 3 (.t 5) (.t 7),none⟩]
def f402_3:List AI:=[⟨some 8,.load false 1 (.t 2),none⟩,
    ⟨some 9,.load true 3 (.t 5),none⟩,
    ⟨some 10,.rowLit 3 [(.str []),(.int .i64 0),(.int .i64 0)] 1 [(0,(.t 9))],none⟩,
    ⟨some 11,.app 3 32 (.t 8) (.t 10),none⟩,
    ⟨none,.store 1 (.t 2) (.t 11),none⟩]
def f402_4:AC:=.block 1 (.reg f402_3)
def f402_5:AC:=.rangeF (.t 6) [7] (.reg f402_2) f402_4
def f402_6:AC:=.block 0 f402_5
def f402_7:AC:=.seq (.reg f402_1) f402_6
def f402_8:List AI:=[⟨some 12,.load false 1 (.t 2),none⟩,
    ⟨some 4,.mov (.t 12),none⟩]
def f402_9:AC:=.seq (.reg f402_8) .ret
def f402_10:AC:=.seq f402_7 f402_9
def f402_11:AC:=.seq (.reg f402_0) f402_10
def f402B:AC:=f402_11
def f402:AF:=⟨2,13,[(.t 4)],f402B⟩
end Go.EA.F
