/- Functions of the program, as abstract code (printed by a program). Conditions: none (definitions). -/
import Derived.Test.YtfkejbbajggmnaaDoorEK1
namespace Go.EA.F
def f370_0:List AI:=[⟨some 6,.mov (.c (.one (.bool false))),none⟩]
def f370_1:List AI:=[⟨some 20,.call (.c (.one (.fn 377 []))) [],none⟩,
    ⟨some 21,.un .not (.t 20),none⟩]
def f370_2:List AI:=[⟨some 6,.mov (.c (.one (.bool false))),none⟩]
def f370_3:AC:=.seq (.reg f370_2) .ret
def f370_4:AC:=.cond (.t 21) f370_3 .skip
def f370_5:AC:=.seq (.reg f370_1) f370_4
def f370_6:List AI:=[⟨some 22,.mov (.t 0),none⟩,
    ⟨some 23,.call (.c (.one (.fn 378 []))) [(.t 22)],none⟩]
def f370_7:List AI:=[⟨some 6,.mov (.c (.one (.bool true))),none⟩]
def f370_8:AC:=.seq (.reg f370_7) .ret
def f370_9:AC:=.cond (.t 23) f370_8 .skip
def f370_10:AC:=.seq (.reg f370_6) f370_9
def f370_11:List AI:=[⟨some 25,.mov (.t 0),none⟩,
    ⟨some 26,.mov (.t 1),none⟩,
    ⟨some 27,.wrapI .i64 (.t 26),none⟩,
    ⟨some 28,.call (.c (.one (.fn 379 []))) [(.t 25),(.t 27)],none⟩,
    ⟨some 24,.mov (.t 28),none⟩,
    ⟨some 29,.ext (.t 24) 0,none⟩,
    ⟨some 30,.ext (.t 24) 1,none⟩,
    ⟨some 7,.mov (.t 29),none⟩,
    ⟨some 8,.mov (.t 30),none⟩]
def f370_12:List AI:=[⟨some 31,.mov (.t 2),none⟩,
    ⟨some 32,.wrapI .i64 (.t 31),none⟩,
    ⟨some 33,.mov (.t 0),none⟩,
    ⟨some 34,.len .slc (.t 33),none⟩,
    ⟨some 35,.bin .add (.t 34) (.c (.one (.int .i64 1))),none⟩,
    ⟨some 36,.bin .rem (.t 32) (.t 35),none⟩,
    ⟨some 9,.mov (.t 36),none⟩]
def f370_13 : List (List AI) := [[⟨some 39, .mov (.t 0), none⟩,
      ⟨some 40,.mov (.t 9),none⟩,
      ⟨some 41,.slice .slc 3 (.t 39) (some (.t 40)) none none,none⟩,
      ⟨some 43,.mov (.t 0),none⟩,
      ⟨some 44,.mov (.t 9),none⟩,
      ⟨some 47,.mov (.t 1),none⟩,
      ⟨some 48,.wrapI .i64 (.t 47),none⟩,
      ⟨some 38,.rowLit 3 [(.str []),(.int .i64 0),(.int .i64 0)] 0 [],none⟩,
      ⟨some 42,.app 3 32 (.t 38) (.t 41),none⟩,
      ⟨some 45,.slice .slc 3 (.t 43) none (some (.t 44)) none,none⟩,
      ⟨some 46,.app 3 32 (.t 42) (.t 45),none⟩],[⟨some 39,.mov (.t 0),none⟩,
      ⟨some 40,.mov (.t 9),none⟩,
      ⟨some 41,.slice .slc 3 (.t 39) (some (.t 40)) none none,none⟩,
      ⟨some 43,.mov (.t 0),none⟩,
      ⟨some 44,.mov (.t 9),none⟩,
      ⟨some 45,.slice .slc 3 (.t 43) none (some (.t 44)) none,none⟩,
      ⟨some 38,.rowLit 3 [(.str []),(.int .i64 0),(.int .i64 0)] 0 [],none⟩,
      ⟨some 42,.app 3 32 (.t 38) (.t 41),none⟩,
      ⟨some 46,.app 3 32 (.t 42) (.t 45),none⟩,
      ⟨some 47,.mov (.t 1),none⟩,
      ⟨some 48,.wrapI .i64 (.t 47),none⟩]]
def f370_14:List AI:=[⟨some 49,.call (.c (.one (.fn 379 []))) [(.t 46),(.t 48)],none⟩,
    ⟨some 37,.mov (.t 49),none⟩,
    ⟨some 50,.ext (.t 37) 0,none⟩,
    ⟨some 51,.ext (.t 37) 1,none⟩,
    ⟨some 10,.mov (.t 50),none⟩,
    ⟨some 11,.mov (.t 51),none⟩]
def f370_15:List AI:=[⟨some 52,.mov (.t 8),none⟩,
    ⟨some 53,.bin .neq (.t 52) (.c (.one (.int .i64 0))),none⟩]
def f370_16:List AI:=[⟨some 54,.mov (.t 11),none⟩,
    ⟨some 55,.bin .neq (.t 54) (.c (.one (.int .i64 0))),none⟩,
    ⟨some 56,.mov (.t 55),none⟩,
    ⟨some 57,.mov (.t 7),some (56,true)⟩,
    ⟨some 58,.len .slc (.t 57),some (56,true)⟩,
    ⟨some 59,.bin .eql (.t 58) (.c (.one (.int .i64 0))),some (56,true)⟩,
    ⟨some 60,.pick (.t 56) (.t 59) (.c (.one (.bool false))),none⟩,
    ⟨some 6,.mov (.t 60),none⟩]
def f370_17:AC:=.seq (.reg f370_16) .ret
def f370_18:AC:=.cond (.t 53) f370_17 .skip
def f370_19:AC:=.seq (.reg f370_15) f370_18
def f370_20:List AI:=[⟨some 61,.mov (.t 11),none⟩,
    ⟨some 62,.bin .neq (.t 61) (.c (.one (.int .i64 0))),none⟩,
    ⟨some 63,.mov (.t 62),none⟩,
    ⟨some 64,.mov (.t 7),some (63,false)⟩,
    ⟨some 65,.mov (.t 10),some (63,false)⟩,
    ⟨some 66,.call (.c (.one (.fn 380 []))) [(.t 64),(.t 65)],some (63,false)⟩,
    ⟨some 67,.un .not (.t 66),some (63,false)⟩,
    ⟨some 68,.pick (.t 63) (.c (.one (.bool true))) (.t 67),none⟩,
    ⟨some 69,.mov (.t 68),none⟩,
    ⟨some 70,.mov (.t 7),some (69,false)⟩,
    ⟨some 71,.len .slc (.t 70),some (69,false)⟩,
    ⟨some 72,.mov (.t 1),some (69,false)⟩,
    ⟨some 73,.wrapI .i64 (.t 72),some (69,false)⟩,
    ⟨some 74,.bin .gtr (.t 71) (.t 73),some (69,false)⟩,
    ⟨some 75,.pick (.t 69) (.c (.one (.bool true))) (.t 74),none⟩]
def f370_21:List AI:=[⟨some 6,.mov (.c (.one (.bool false))),none⟩]
def f370_22:AC:=.seq (.reg f370_21) .ret
def f370_23:AC:=.cond (.t 75) f370_22 .skip
def f370_24:AC:=.seq (.reg f370_20) f370_23
def f370_25:List AI:=[⟨some 76,.mkmap,none⟩,
    ⟨some 12,.mov (.t 76),none⟩]
def f370_26:List AI:=[⟨some 77,.mov (.t 7),none⟩,
    ⟨some 78,.len .slc (.t 77),none⟩,
    ⟨some 79,.mov (.c (.one (.int .i64 0))),none⟩]
def f370_27:List AI:=[⟨some 80,.bin .lss (.t 79) (.t 78),none⟩]
def f370_28:AC:=.cond (.t 80) .skip (.exit 0)
def f370_29:List AI:=[⟨some 81,.mov (.t 79),none⟩,
    ⟨some 82,.iaddr 3 (.t 77) (.t 79),none⟩,
    ⟨some 83,.load true 3 (.t 82),none⟩,
    ⟨some 14,.new [(.str []),(.int .i64 0),(.int .i64 0)],none⟩,
    ⟨some 13,.mov (.t 81),none⟩,
    ⟨none,.store 3 (.t 14) (.t 83),none⟩]
def f370_30:List AI:=[⟨some 84,.mov (.t 13),none⟩,
    ⟨some 85,.bin .gtr (.t 84) (.c (.one (.int .i64 0))),none⟩,
    ⟨some 86,.mov (.t 85),none⟩,
    ⟨some 87,.mov (.t 7),some (86,true)⟩,
    ⟨some 88,.mov (.t 13),some (86,true)⟩,
    ⟨some 89,.bin .sub (.t 88) (.c (.one (.int .i64 1))),some (86,true)⟩,
    ⟨some 90,.iaddr 3 (.t 87) (.t 89),some (86,true)⟩,
    ⟨some 91,.load true 3 (.t 90),some (86,true)⟩,
    ⟨some 92,.load true 3 (.t 14),some (86,true)⟩,
    ⟨some 93,.call (.c (.one (.fn 381 []))) [(.t 91),(.t 92)],some (86,true)⟩,
    ⟨some 94,.un .not (.t 93),some (86,true)⟩,
    ⟨some 95,.pick (.t 86) (.t 94) (.c (.one (.bool false))),none⟩,
    ⟨some 96,.mov (.t 95),none⟩,
    ⟨some 97,.mov (.t 12),some (96,false)⟩,
    ⟨some 98,.faddr 0 (.t 14),some (96,false)⟩,
    ⟨some 99,.load false 1 (.t 98),some (96,false)⟩,
    ⟨some 100,.lookup .str (.bool false) (.t 97) (.t 99) false,some (96,false)⟩,
    ⟨some 101,.pick (.t 96) (.c (.one (.bool true))) (.t 100),none⟩]
def f370_31:List AI:=[⟨some 6,.mov (.c (.one (.bool false))),none⟩]
def f370_32:AC:=.seq (.reg f370_31) .ret
def f370_33:AC:=.cond (.t 101) f370_32 .skip
def f370_34:AC:=.seq (.dreg f370_30) f370_33
def f370_35:List AI:=[⟨some 102,.mov (.t 12),none⟩,
    ⟨some 103,.faddr 0 (.t 14),none⟩,
    ⟨some 104,.load false 1 (.t 103),none⟩,
    ⟨none,.mapset .str (.t 102) (.t 104) (.c (.one (.bool true))),none⟩]
def f370_36:List AI:=[⟨some 15,.mov (.c (.one (.bool false))),none⟩]
def f370_37:List AI:=[⟨some 105,.mov (.t 0),none⟩,
    ⟨some 106,.len .slc (.t 105),none⟩,
    ⟨some 107,.mov (.c (.one (.int .i64 0))),none⟩]
def f370_38:List AI:=[⟨some 108,.bin .lss (.t 107) (.t 106),none⟩]
def f370_39:AC:=.cond (.t 108) .skip (.exit 2)
def f370_40:List AI:=[⟨some 109,.iaddr 3 (.t 105) (.t 107),none⟩,
    ⟨some 110,.load true 3 (.t 109),none⟩,
    ⟨some 17,.new [(.str []),(.int .i64 0),(.int .i64 0)],none⟩,
    ⟨none,.store 3 (.t 17) (.t 110),none⟩]
def f370_41:List AI:=[⟨some 111,.mov (.t 15),none⟩,
    ⟨some 112,.mov (.t 111),none⟩,
    ⟨some 113,.load true 3 (.t 17),some (112,false)⟩,
    ⟨some 114,.load true 3 (.t 14),some (112,false)⟩,
    ⟨some 115,.eqv (.cells [.str,(.int .i64),(.int .i64)]) false (.t 113) (.t 114),some (112,false)⟩,
    ⟨some 116,.pick (.t 112) (.c (.one (.bool true))) (.t 115),none⟩,
    ⟨some 15,.mov (.t 116),none⟩]
def f370_42:List AI:=[⟨some 117,.faddr 0 (.t 17),none⟩,
    ⟨some 118,.load false 1 (.t 117),none⟩,
    ⟨some 119,.faddr 0 (.t 14),none⟩,
    ⟨some 120,.load false 1 (.t 119),none⟩,
    ⟨some 121,.bin .eql (.t 118) (.t 120),none⟩,
    ⟨some 122,.mov (.t 121),none⟩,
    ⟨some 123,.load true 3 (.t 17),some (122,true)⟩,
    ⟨some 124,.load true 3 (.t 14),some (122,true)⟩,
    ⟨some 125,.call (.c (.one (.fn 381 []))) [(.t 123),(.t 124)],some (122,true)⟩,
    ⟨some 126,.pick (.t 122) (.t 125) (.c (.one (.bool false))),none⟩]
def f370_43:List AI:=[⟨some 6,.mov (.c (.one (.bool false))),none⟩]
def f370_44:AC:=.seq (.reg f370_43) .ret
def f370_45:AC:=.cond (.t 126) f370_44 .skip
def f370_46:AC:=.seq (.reg f370_42) f370_45
def f370_47:AC:=.seq (.reg f370_41) f370_46
def f370_48:AC:=.seq (.reg f370_40) f370_47
def f370_49:AC:=.block 3 f370_48
def f370_50:List AI:=[⟨some 127,.bin .add (.t 107) (.c (.one (.int .i64 1))),none⟩,
    ⟨some 107,.mov (.t 127),none⟩]
def f370_51:AC:=.seq f370_49 (.reg f370_50)
def f370_52:AC:=.seq f370_39 f370_51
def f370_53:AC:=.seq (.reg f370_38) f370_52
def f370_54:AC:=.loop f370_53
def f370_55:AC:=.block 2 f370_54
def f370_56:AC:=.seq (.reg f370_37) f370_55
def f370_57:List AI:=[⟨some 128,.mov (.t 15),none⟩,
    ⟨some 129,.un .not (.t 128),none⟩]
def f370_58:List AI:=[⟨some 6,.mov (.c (.one (.bool false))),none⟩]
def f370_59:AC:=.seq (.reg f370_58) .ret
def f370_60:AC:=.cond (.t 129) f370_59 .skip
def f370_61:AC:=.seq (.reg f370_57) f370_60
def f370_62:AC:=.seq f370_56 f370_61
def f370_63:AC:=.seq (.reg f370_36) f370_62
def f370_64:AC:=.seq (.reg f370_35) f370_63
def f370_65:AC:=.seq f370_34 f370_64
def f370_66:AC:=.seq (.reg f370_29) f370_65
def f370_67:AC:=.block 1 f370_66
def f370_68:List AI:=[⟨some 130,.bin .add (.t 79) (.c (.one (.int .i64 1))),none⟩,
    ⟨some 79,.mov (.t 130),none⟩]
def f370_69:AC:=.seq f370_67 (.reg f370_68)
def f370_70:AC:=.seq f370_28 f370_69
def f370_71:AC:=.seq (.reg f370_27) f370_70
def f370_72:AC:=.loop f370_71
def f370_73:AC:=.block 0 f370_72
def f370_74:AC:=.seq (.reg f370_26) f370_73
def f370_75:List AI:=[⟨some 131,.mov (.t 0),none⟩,
    ⟨some 132,.len .slc (.t 131),none⟩,
    ⟨some 133,.mov (.c (.one (.int .i64 0))),none⟩]
def f370_76:List AI:=[⟨some 134,.bin .lss (.t 133) (.t 132),none⟩]
def f370_77:AC:=.cond (.t 134) .skip (.exit 4)
def f370_78:List AI:=[⟨some 135,.iaddr 3 (.t 131) (.t 133),none⟩,
    ⟨some 136,.load true 3 (.t 135),none⟩,
    ⟨some 19,.new [(.str []),(.int .i64 0),(.int .i64 0)],none⟩,
    ⟨none,.store 3 (.t 19) (.t 136),none⟩]
def f370_79:List AI:=[⟨some 137,.mov (.t 12),none⟩,
    ⟨some 138,.faddr 0 (.t 19),none⟩,
    ⟨some 139,.load false 1 (.t 138),none⟩,
    ⟨some 140,.lookup .str (.bool false) (.t 137) (.t 139) false,none⟩,
    ⟨some 141,.un .not (.t 140),none⟩,
    ⟨some 142,.mov (.t 141),none⟩,
    ⟨some 143,.mov (.t 7),some (142,true)⟩,
    ⟨some 144,.len .slc (.t 143),some (142,true)⟩,
    ⟨some 145,.bin .gtr (.t 144) (.c (.one (.int .i64 0))),some (142,true)⟩,
    ⟨some 146,.pick (.t 142) (.t 145) (.c (.one (.bool false))),none⟩,
    ⟨some 147,.mov (.t 146),none⟩,
    ⟨some 148,.mov (.t 7),some (147,true)⟩,
    ⟨some 149,.len .slc (.t 148),some (147,true)⟩,
    ⟨some 150,.mov (.t 1),some (147,true)⟩,
    ⟨some 151,.wrapI .i64 (.t 150),some (147,true)⟩,
    ⟨some 152,.bin .lss (.t 149) (.t 151),some (147,true)⟩,
    ⟨some 153,.mov (.t 152),some (147,true)⟩,
    ⟨some 154,.load true 3 (.t 19),some (153,false)⟩,
    ⟨some 155,.mov (.t 7),some (153,false)⟩,
    ⟨some 156,.mov (.t 7),some (153,false)⟩,
    ⟨some 157,.len .slc (.t 156),some (153,false)⟩,
    ⟨some 158,.bin .sub (.t 157) (.c (.one (.int .i64 1))),some (153,false)⟩,
    ⟨some 159,.iaddr 3 (.t 155) (.t 158),some (153,false)⟩,
    ⟨some 160,.load true 3 (.t 159),some (153,false)⟩,
    ⟨some 161,.call (.c (.one (.fn 381 []))) [(.t 154),(.t 160)],some (153,false)⟩,
    ⟨some 162,.pick (.t 153) (.c (.one (.bool true))) (.t 161),some (147,true)⟩,
    ⟨some 163,.pick (.t 147) (.t 162) (.c (.one (.bool false))),none⟩]
def f370_80:List AI:=[⟨some 6,.mov (.c (.one (.bool false))),none⟩]
def f370_81:AC:=.seq (.reg f370_80) .ret
def f370_82:AC:=.cond (.t 163) f370_81 .skip
def f370_83:AC:=.seq (.dreg f370_79) f370_82
def f370_84:AC:=.seq (.reg f370_78) f370_83
def f370_85:AC:=.block 5 f370_84
def f370_86:List AI:=[⟨some 164,.bin .add (.t 133) (.c (.one (.int .i64 1))),none⟩,
    ⟨some 133,.mov (.t 164),none⟩]
def f370_87:AC:=.seq f370_85 (.reg f370_86)
def f370_88:AC:=.seq f370_77 f370_87
def f370_89:AC:=.seq (.reg f370_76) f370_88
def f370_90:AC:=.loop f370_89
def f370_91:AC:=.block 4 f370_90
def f370_92:AC:=.seq (.reg f370_75) f370_91
def f370_93:List AI:=[⟨some 6,.mov (.c (.one (.bool true))),none⟩]
def f370_94:AC:=.seq (.reg f370_93) .ret
def f370_95:AC:=.seq f370_92 f370_94
def f370_96:AC:=.seq f370_74 f370_95
def f370_97:AC:=.seq (.reg f370_25) f370_96
def f370_98:AC:=.seq f370_24 f370_97
def f370_99:AC:=.seq f370_19 f370_98
def f370_100:AC:=.seq (.dtl f370_13 f370_14) f370_99
def f370_101:AC:=.seq (.reg f370_12) f370_100
def f370_102:AC:=.seq (.reg f370_11) f370_101
def f370_103:AC:=.seq f370_10 f370_102
def f370_104:AC:=.seq f370_5 f370_103
def f370_105:AC:=.seq (.reg f370_0) f370_104
def f370B:AC:=f370_105
def f370:AF:=⟨3,165,[(.t 6)],f370B⟩
def f377_0:List AI:=[⟨some 0,.mov (.c (.one (.bool false))),none⟩]
def f377_1:List AI:=[⟨some 4,.build [(.str []),(.int .i64 0),(.int .i64 0)] [(0,(1,(.c (.one (.str [97,109]))))),(1,(1,(.c (.one (.int .i64 7))))),(2,(1,(.c (.one (.int .i64 1)))))],none⟩,
    ⟨some 5,.build [(.str []),(.int .i64 0),(.int .i64 0)] [(0,(1,(.c (.one (.str [97,110]))))),(1,(1,(.c (.one (.int .i64 7))))),(2,(1,(.c (.one (.int .i64 2)))))],none⟩,
    ⟨some 6,.build [(.str []),(.int .i64 0),(.int .i64 0)] [(0,(1,(.c (.one (.str [97,109]))))),(1,(1,(.c (.one (.int .i64 9))))),(2,(1,(.c (.one (.int .i64 1)))))],none⟩,
    ⟨some 7,.rowLit 3 [(.str []),(.int .i64 0),(.int .i64 0)] 3 [(0,(.t 4)),(1,(.t 5)),(2,(.t 6))],none⟩,
    ⟨some 8,.call (.c (.one (.fn 379 []))) [(.t 7),(.c (.one (.int .i64 5)))],none⟩,
    ⟨some 3,.mov (.t 8),none⟩,
    ⟨some 9,.ext (.t 3) 0,none⟩,
    ⟨some 10,.ext (.t 3) 1,none⟩,
    ⟨some 1,.mov (.t 9),none⟩,
    ⟨some 2,.mov (.t 10),none⟩]
def f377_2:List AI:=[⟨some 11,.mov (.t 1),none⟩,
    ⟨some 12,.len .slc (.t 11),none⟩,
    ⟨some 13,.bin .eql (.t 12) (.c (.one (.int .i64 2))),none⟩,
    ⟨some 14,.mov (.t 13),none⟩,
    ⟨some 15,.mov (.t 1),some (14,true)⟩,
    ⟨some 16,.iaddr 3 (.t 15) (.c (.one (.int .i64 0))),some (14,true)⟩,
    ⟨some 17,.faddr 0 (.t 16),some (14,true)⟩,
    ⟨some 18,.load false 1 (.t 17),some (14,true)⟩,
    ⟨some 19,.bin .eql (.t 18) (.c (.one (.str [97,110]))),some (14,true)⟩,
    ⟨some 20,.pick (.t 14) (.t 19) (.c (.one (.bool false))),none⟩,
    ⟨some 21,.mov (.t 20),none⟩,
    ⟨some 22,.mov (.t 1),some (21,true)⟩,
    ⟨some 23,.iaddr 3 (.t 22) (.c (.one (.int .i64 1))),some (21,true)⟩,
    ⟨some 24,.faddr 1 (.t 23),some (21,true)⟩,
    ⟨some 25,.load false 1 (.t 24),some (21,true)⟩,
    ⟨some 26,.bin .eql (.t 25) (.c (.one (.int .i64 7))),some (21,true)⟩,
    ⟨some 27,.pick (.t 21) (.t 26) (.c (.one (.bool false))),none⟩,
    ⟨some 28,.mov (.t 27),none⟩,
    ⟨some 29,.mov (.t 2),some (28,true)⟩,
    ⟨some 30,.bin .eql (.t 29) (.c (.one (.int .i64 0))),some (28,true)⟩,
    ⟨some 31,.pick (.t 28) (.t 30) (.c (.one (.bool false))),none⟩,
    ⟨some 32,.mov (.t 31),none⟩,
    ⟨some 33,.build [(.str []),(.int .i64 0),(.int .i64 0)] [],some (32,true)⟩,
    ⟨some 34,.call (.c (.one (.fn 387 []))) [(.t 33)],some (32,true)⟩,
    ⟨some 35,.bin .eql (.t 34) (.c (.one (.int .i64 4))),some (32,true)⟩,
    ⟨some 36,.pick (.t 32) (.t 35) (.c (.one (.bool false))),none⟩,
    ⟨some 0,.mov (.t 36),none⟩]
def f377_3:AC:=.seq (.reg f377_2) .ret
def f377_4:AC:=.seq (.reg f377_1) f377_3
def f377_5:AC:=.seq (.reg f377_0) f377_4
def f377B:AC:=f377_5
def f377:AF:=⟨0,37,[(.t 0)],f377B⟩
def f378_0:List AI:=[⟨some 2,.mov (.c (.one (.bool false))),none⟩]
def f378_1:List AI:=[⟨some 3,.mov (.c (.one (.int .i64 0))),none⟩]
def f378_2:List AI:=[⟨some 6,.mov (.t 0),none⟩,
    ⟨some 7,.len .slc (.t 6),none⟩,
    ⟨some 8,.mov (.c (.one (.int .i64 0))),none⟩]
def f378_3:List AI:=[⟨some 9,.bin .lss (.t 8) (.t 7),none⟩]
def f378_4:AC:=.cond (.t 9) .skip (.exit 0)
def f378_5:List AI:=[⟨some 10,.iaddr 3 (.t 6) (.t 8),none⟩,
    ⟨some 11,.load true 3 (.t 10),none⟩,
    ⟨some 5,.new [(.str []),(.int .i64 0),(.int .i64 0)],none⟩,
    ⟨none,.store 3 (.t 5) (.t 11),none⟩]
def f378_6:List AI:=[⟨some 12,.mov (.t 3),none⟩,
    ⟨some 13,.faddr 0 (.t 5),none⟩,
    ⟨some 14,.load false 1 (.t 13),none⟩,
    ⟨some 15,.len .str (.t 14),none⟩,
    ⟨some 16,.bin .add (.t 12) (.t 15),none⟩,
    ⟨some 3,.mov (.t 16),none⟩]
def f378_7:AC:=.seq (.reg f378_5) (.reg f378_6)
def f378_8:AC:=.block 1 f378_7
def f378_9:List AI:=[⟨some 17,.bin .add (.t 8) (.c (.one (.int .i64 1))),none⟩,
    ⟨some 8,.mov (.t 17),none⟩]
def f378_10:AC:=.seq f378_8 (.reg f378_9)
def f378_11:AC:=.seq f378_4 f378_10
def f378_12:AC:=.seq (.reg f378_3) f378_11
def f378_13:AC:=.loop f378_12
def f378_14:AC:=.block 0 f378_13
def f378_15:AC:=.seq (.reg f378_2) f378_14
def f378_16:List AI:=[⟨some 18,.mov (.t 0),none⟩,
    ⟨some 19,.len .slc (.t 18),none⟩,
    ⟨some 20,.bin .gtr (.t 19) (.c (.one (.int .i64 200))),none⟩,
    ⟨some 21,.mov (.t 20),none⟩,
    ⟨some 22,.mov (.t 3),some (21,false)⟩,
    ⟨some 23,.bin .gtr (.t 22) (.c (.one (.int .i64 4000))),some (21,false)⟩,
    ⟨some 24,.pick (.t 21) (.c (.one (.bool true))) (.t 23),none⟩,
    ⟨some 2,.mov (.t 24),none⟩]
def f378_17:AC:=.seq (.reg f378_16) .ret
def f378_18:AC:=.seq f378_15 f378_17
def f378_19:AC:=.seq (.reg f378_1) f378_18
def f378_20:AC:=.seq (.reg f378_0) f378_19
def f378B:AC:=f378_20
def f378:AF:=⟨1,25,[(.t 2)],f378B⟩
def f379_0:List AI:=[⟨some 3,.box (.t 1),none⟩,
    ⟨some 4,.new [.nils],none⟩,
    ⟨some 5,.mov (.c (.one (.int .i64 0))),none⟩]
def f379_1:List AI:=[⟨some 9,.mov (.t 0),none⟩,
    ⟨some 10,.call (.c (.one (.fn 390 []))) [(.t 9)],none⟩,
    ⟨some 6,.mov (.t 10),none⟩]
def f379_2:List AI:=[⟨some 11,.mov (.t 6),none⟩,
    ⟨some 12,.bin .neq (.t 11) (.c (.one (.int .i64 0))),none⟩]
def f379_3:List AI:=[⟨some 13,.mov (.t 6),none⟩,
    ⟨none,.store 1 (.t 4) (.c (.one .nils)),none⟩,
    ⟨some 5,.mov (.t 13),none⟩]
def f379_4:AC:=.seq (.reg f379_3) .ret
def f379_5:AC:=.cond (.t 12) f379_4 .skip
def f379_6:AC:=.seq (.reg f379_2) f379_5
def f379_7:AC:=.seq (.reg f379_1) f379_6
def f379_8:List AI:=[⟨some 14,.load false 1 (.t 3),none⟩,
    ⟨some 15,.bin .lss (.t 14) (.c (.one (.int .i64 0))),none⟩,
    ⟨some 16,.mov (.t 15),none⟩,
    ⟨some 17,.load false 1 (.t 3),some (16,false)⟩,
    ⟨some 18,.bin .gtr (.t 17) (.c (.one (.int .i64 1000))),some (16,false)⟩,
    ⟨some 19,.pick (.t 16) (.c (.one (.bool true))) (.t 18),none⟩]
def f379_9:List AI:=[⟨none,.store 1 (.t 4) (.c (.one .nils)),none⟩,
    ⟨some 5,.mov (.c (.one (.int .i64 2))),none⟩]
def f379_10:AC:=.seq (.reg f379_9) .ret
def f379_11:AC:=.cond (.t 19) f379_10 .skip
def f379_12:AC:=.seq (.reg f379_8) f379_11
def f379_13:List AI:=[⟨some 20,.mov (.t 0),none⟩,
    ⟨some 21,.call (.c (.one (.fn 391 []))) [(.t 20)],none⟩]
def f379_14:List AI:=[⟨some 7,.mov (.t 22),none⟩]
def f379_15:List AI:=[⟨some 8,.new [(.str []),(.int .i64 0),(.int .i64 0)],none⟩,
    ⟨none,.store 3 (.t 8) (.t 23),none⟩]
def f379_16:AC:=.seq (.reg f379_14) (.reg f379_15)
def f379_17:List AI:=[⟨some 24,.mov (.t 7),none⟩,
    ⟨some 25,.load false 1 (.t 3),none⟩,
    ⟨some 26,.bin .eql (.t 24) (.t 25),none⟩]
def f379_18:AC:=.cond (.t 26) (.exit 0) .skip
def f379_19:AC:=.seq (.reg f379_17) f379_18
def f379_20:List AI:=[⟨some 27,.load false 1 (.t 4),none⟩,
    ⟨some 28,.load true 3 (.t 8),none⟩,
    ⟨some 29,.rowLit 3 [(.str []),(.int .i64 0),(.int .i64 0)] 1 [(0,(.t 28))],none⟩,
    ⟨some 30,.app 3 32 (.t 27) (.t 29),none⟩,
    ⟨none,.store 1 (.t 4) (.t 30),none⟩]
def f379_21:AC:=.seq f379_19 (.reg f379_20)
def f379_22:AC:=.block 1 f379_21
def f379_23:AC:=.rangeF (.t 21) [22,23] f379_16 f379_22
def f379_24:AC:=.block 0 f379_23
def f379_25:AC:=.seq (.reg f379_13) f379_24
def f379_26:List AI:=[⟨some 31,.load false 1 (.t 4),none⟩,
    ⟨none,.store 1 (.t 4) (.t 31),none⟩,
    ⟨some 5,.mov (.c (.one (.int .i64 0))),none⟩]
def f379_27:AC:=.seq (.reg f379_26) .ret
def f379_28:AC:=.seq f379_25 f379_27
def f379_29:AC:=.seq f379_12 f379_28
def f379_30:AC:=.seq f379_7 f379_29
def f379_31:AC:=.seq (.reg f379_0) f379_30
def f379B:AC:=f379_31
def f379:AF:=⟨2,32,[(.cell 4 false 1),(.t 5)],f379B⟩
def f380_0:List AI:=[⟨some 4,.mov (.c (.one (.bool false))),none⟩]
def f380_1:List AI:=[⟨some 6,.mov (.t 0),none⟩,
    ⟨some 7,.len .slc (.t 6),none⟩,
    ⟨some 8,.mov (.t 1),none⟩,
    ⟨some 9,.len .slc (.t 8),none⟩,
    ⟨some 10,.bin .neq (.t 7) (.t 9),none⟩]
def f380_2:List AI:=[⟨some 4,.mov (.c (.one (.bool false))),none⟩]
def f380_3:AC:=.seq (.reg f380_2) .ret
def f380_4:AC:=.cond (.t 10) f380_3 .skip
def f380_5:AC:=.seq (.reg f380_1) f380_4
def f380_6:List AI:=[⟨some 11,.mov (.t 0),none⟩,
    ⟨some 12,.len .slc (.t 11),none⟩,
    ⟨some 13,.mov (.c (.one (.int .i64 0))),none⟩]
def f380_7:List AI:=[⟨some 14,.bin .lss (.t 13) (.t 12),none⟩]
def f380_8:AC:=.cond (.t 14) .skip (.exit 0)
def f380_9:List AI:=[⟨some 15,.mov (.t 13),none⟩,
    ⟨some 5,.mov (.t 15),none⟩]
def f380_10:List AI:=[⟨some 16,.mov (.t 0),none⟩,
    ⟨some 17,.mov (.t 5),none⟩,
    ⟨some 18,.iaddr 3 (.t 16) (.t 17),none⟩,
    ⟨some 19,.load true 3 (.t 18),none⟩,
    ⟨some 20,.mov (.t 1),none⟩,
    ⟨some 21,.mov (.t 5),none⟩,
    ⟨some 22,.iaddr 3 (.t 20) (.t 21),none⟩,
    ⟨some 23,.load true 3 (.t 22),none⟩,
    ⟨some 24,.eqv (.cells [.str,(.int .i64),(.int .i64)]) true (.t 19) (.t 23),none⟩]
def f380_11:List AI:=[⟨some 4,.mov (.c (.one (.bool false))),none⟩]
def f380_12:AC:=.seq (.reg f380_11) .ret
def f380_13:AC:=.cond (.t 24) f380_12 .skip
def f380_14:AC:=.seq (.dreg f380_10) f380_13
def f380_15:AC:=.seq (.reg f380_9) f380_14
def f380_16:AC:=.block 1 f380_15
def f380_17:List AI:=[⟨some 25,.bin .add (.t 13) (.c (.one (.int .i64 1))),none⟩,
    ⟨some 13,.mov (.t 25),none⟩]
def f380_18:AC:=.seq f380_16 (.reg f380_17)
def f380_19:AC:=.seq f380_8 f380_18
def f380_20:AC:=.seq (.reg f380_7) f380_19
def f380_21:AC:=.loop f380_20
def f380_22:AC:=.block 0 f380_21
def f380_23:AC:=.seq (.reg f380_6) f380_22
def f380_24:List AI:=[⟨some 4,.mov (.c (.one (.bool true))),none⟩]
def f380_25:AC:=.seq (.reg f380_24) .ret
def f380_26:AC:=.seq f380_23 f380_25
def f380_27:AC:=.seq f380_5 f380_26
def f380_28:AC:=.seq (.reg f380_0) f380_27
def f380B:AC:=f380_28
def f380:AF:=⟨2,26,[(.t 4)],f380B⟩
def f381_0:List AI:=[⟨some 2,.box (.t 0),none⟩,
    ⟨some 3,.box (.t 1),none⟩,
    ⟨some 4,.mov (.c (.one (.bool false))),none⟩]
def f381_1:List AI:=[⟨some 5,.load true 3 (.t 2),none⟩,
    ⟨some 6,.load true 3 (.t 3),none⟩,
    ⟨some 7,.call (.c (.one (.fn 392 []))) [(.t 5),(.t 6)],none⟩,
    ⟨some 8,.bin .lss (.t 7) (.c (.one (.int .i64 0))),none⟩,
    ⟨some 4,.mov (.t 8),none⟩]
def f381_2:AC:=.seq (.reg f381_1) .ret
def f381_3:AC:=.seq (.reg f381_0) f381_2
def f381B:AC:=f381_3
def f381:AF:=⟨2,9,[(.t 4)],f381B⟩
def f387_0:List AI:=[⟨some 1,.box (.t 0),none⟩,
    ⟨some 2,.mov (.c (.one (.int .i64 0))),none⟩]
def f387_1:List AI:=[⟨some 6,.faddr 0 (.t 1),none⟩,
    ⟨some 7,.load false 1 (.t 6),none⟩,
    ⟨some 8,.call (.c (.one (.fn 20 []))) [(.t 7)],none⟩,
    ⟨some 5,.mov (.t 8),none⟩,
    ⟨some 9,.ext (.t 5) 0,none⟩,
    ⟨some 10,.ext (.t 5) 1,none⟩,
    ⟨some 3,.mov (.t 9),none⟩,
    ⟨some 4,.mov (.t 10),none⟩]
def f387_2:List AI:=[⟨some 11,.mov (.t 4),none⟩,
    ⟨some 12,.bin .eql (.t 11) (.c (.one (.int .i64 0))),none⟩,
    ⟨some 13,.mov (.t 12),none⟩,
    ⟨some 14,.faddr 1 (.t 1),some (13,true)⟩,
    ⟨some 15,.load false 1 (.t 14),some (13,true)⟩,
    ⟨some 16,.bin .lss (.t 15) (.c (.one (.int .i64 0))),some (13,true)⟩,
    ⟨some 17,.mov (.t 16),some (13,true)⟩,
    ⟨some 18,.faddr 1 (.t 1),some (17,false)⟩,
    ⟨some 19,.load false 1 (.t 18),some (17,false)⟩,
    ⟨some 20,.bin .gtr (.t 19) (.c (.one (.int .i64 4096))),some (17,false)⟩,
    ⟨some 21,.pick (.t 17) (.c (.one (.bool true))) (.t 20),some (13,true)⟩,
    ⟨some 22,.mov (.t 21),some (13,true)⟩,
    ⟨some 23,.faddr 2 (.t 1),some (22,false)⟩,
    ⟨some 24,.load false 1 (.t 23),some (22,false)⟩,
    ⟨some 25,.bin .lss (.t 24) (.c (.one (.int .i64 1))),some (22,false)⟩,
    ⟨some 26,.pick (.t 22) (.c (.one (.bool true))) (.t 25),some (13,true)⟩,
    ⟨some 27,.mov (.t 26),some (13,true)⟩,
    ⟨some 28,.faddr 2 (.t 1),some (27,false)⟩,
    ⟨some 29,.load false 1 (.t 28),some (27,false)⟩,
    ⟨some 30,.bin .gtr (.t 29) (.c (.one (.int .i64 1073741824))),some (27,false)⟩,
    ⟨some 31,.pick (.t 27) (.c (.one (.bool true))) (.t 30),some (13,true)⟩,
    ⟨some 32,.pick (.t 13) (.t 31) (.c (.one (.bool false))),none⟩]
def f387_3:List AI:=[⟨some 2,.mov (.c (.one (.int .i64 2))),none⟩]
def f387_4:AC:=.seq (.reg f387_3) .ret
def f387_5:AC:=.cond (.t 32) f387_4 .skip
def f387_6:AC:=.seq (.reg f387_2) f387_5
def f387_7:List AI:=[⟨some 33,.mov (.t 4),none⟩,
    ⟨some 2,.mov (.t 33),none⟩]
def f387_8:AC:=.seq (.reg f387_7) .ret
def f387_9:AC:=.seq f387_6 f387_8
def f387_10:AC:=.seq (.reg f387_1) f387_9
def f387_11:AC:=.seq (.reg f387_0) f387_10
def f387B:AC:=f387_11
def f387:AF:=⟨1,34,[(.t 2)],f387B⟩
def f390_0:List AI:=[⟨some 2,.mov (.c (.one (.int .i64 0))),none⟩]
def f390_1:List AI:=[⟨some 6,.mov (.t 0),none⟩,
    ⟨some 7,.len .slc (.t 6),none⟩,
    ⟨some 8,.mov (.c (.one (.int .i64 0))),none⟩]
def f390_2:List AI:=[⟨some 9,.bin .lss (.t 8) (.t 7),none⟩]
def f390_3:AC:=.cond (.t 9) .skip (.exit 0)
def f390_4:List AI:=[⟨some 10,.iaddr 3 (.t 6) (.t 8),none⟩,
    ⟨some 11,.load true 3 (.t 10),none⟩,
    ⟨some 4,.new [(.str []),(.int .i64 0),(.int .i64 0)],none⟩,
    ⟨none,.store 3 (.t 4) (.t 11),none⟩]
def f390_5:List AI:=[⟨some 12,.load true 3 (.t 4),none⟩,
    ⟨some 13,.call (.c (.one (.fn 387 []))) [(.t 12)],none⟩,
    ⟨some 5,.mov (.t 13),none⟩]
def f390_6:List AI:=[⟨some 14,.mov (.t 5),none⟩,
    ⟨some 15,.bin .neq (.t 14) (.c (.one (.int .i64 0))),none⟩]
def f390_7:List AI:=[⟨some 16,.mov (.t 5),none⟩,
    ⟨some 2,.mov (.t 16),none⟩]
def f390_8:AC:=.seq (.reg f390_7) .ret
def f390_9:AC:=.cond (.t 15) f390_8 .skip
def f390_10:AC:=.seq (.reg f390_6) f390_9
def f390_11:AC:=.seq (.reg f390_5) f390_10
def f390_12:AC:=.seq (.reg f390_4) f390_11
def f390_13:AC:=.block 1 f390_12
def f390_14:List AI:=[⟨some 17,.bin .add (.t 8) (.c (.one (.int .i64 1))),none⟩,
    ⟨some 8,.mov (.t 17),none⟩]
def f390_15:AC:=.seq f390_13 (.reg f390_14)
def f390_16:AC:=.seq f390_3 f390_15
def f390_17:AC:=.seq (.reg f390_2) f390_16
def f390_18:AC:=.loop f390_17
def f390_19:AC:=.block 0 f390_18
def f390_20:AC:=.seq (.reg f390_1) f390_19
def f390_21:List AI:=[⟨some 2,.mov (.c (.one (.int .i64 0))),none⟩]
def f390_22:AC:=.seq (.reg f390_21) .ret
def f390_23:AC:=.seq f390_20 f390_22
def f390_24:AC:=.seq (.reg f390_0) f390_23
def f390B:AC:=f390_24
def f390:AF:=⟨1,18,[(.t 2)],f390B⟩
def f391_0:List AI:=[⟨some 1,.box (.t 0),none⟩,
    ⟨some 2,.mov (.c (.one .nilf)),none⟩]
def f391_1:List AI:=[⟨some 3,.mkfn 395 [(.t 1)],none⟩,
    ⟨some 2,.mov (.t 3),none⟩]
def f391_2:AC:=.seq (.reg f391_1) .ret
def f391_3:AC:=.seq (.reg f391_0) f391_2
def f391B:AC:=f391_3
def f391:AF:=⟨1,4,[(.t 2)],f391B⟩
def f392_0:List AI:=[⟨some 2,.box (.t 0),none⟩,
    ⟨some 3,.box (.t 1),none⟩,
    ⟨some 4,.mov (.c (.one (.int .i64 0))),none⟩]
def f392_1:List AI:=[⟨some 5,.faddr 1 (.t 2),none⟩,
    ⟨some 6,.load false 1 (.t 5),none⟩,
    ⟨some 7,.faddr 1 (.t 3),none⟩,
    ⟨some 8,.load false 1 (.t 7),none⟩,
    ⟨some 9,.call (.c (.one (.fn 328 []))) [(.t 6),(.t 8)],none⟩,
    ⟨some 10,.faddr 2 (.t 3),none⟩,
    ⟨some 11,.load false 1 (.t 10),none⟩,
    ⟨some 12,.faddr 2 (.t 2),none⟩,
    ⟨some 13,.load false 1 (.t 12),none⟩,
    ⟨some 14,.call (.c (.one (.fn 328 []))) [(.t 11),(.t 13)],none⟩,
    ⟨some 15,.faddr 0 (.t 2),none⟩,
    ⟨some 16,.load false 1 (.t 15),none⟩,
    ⟨some 17,.faddr 0 (.t 3),none⟩,
    ⟨some 18,.load false 1 (.t 17),none⟩,
    ⟨some 19,.call (.c (.one (.fn 252 []))) [(.t 16),(.t 18)],none⟩,
    ⟨some 20,.rowLit 1 [(.int .i64 0)] 3 [(0,(.t 9)),(1,(.t 14)),(2,(.t 19))],none⟩,
    ⟨some 21,.call (.c (.one (.fn 251 []))) [(.t 20)],none⟩,
    ⟨some 4,.mov (.t 21),none⟩]
def f392_2:AC:=.seq (.dreg f392_1) .ret
def f392_3:AC:=.seq (.reg f392_0) f392_2
def f392B:AC:=f392_3
def f392:AF:=⟨2,22,[(.t 4)],f392B⟩
def f395_0:List AI:=[⟨some 6,.mkmap,none⟩,
    ⟨some 3,.mov (.t 6),none⟩]
def f395_1:List AI:=[⟨some 7,.load false 1 (.t 1),none⟩,
    ⟨some 8,.call (.c (.one (.fn 397 []))) [(.t 7)],none⟩,
    ⟨some 9,.call (.c (.one (.fn 396 []))) [(.t 8),(.c (.one (.fn 392 [])))],none⟩,
    ⟨some 10,.len .slc (.t 9),none⟩,
    ⟨some 11,.mov (.c (.one (.int .i64 0))),none⟩]
def f395_2:List AI:=[⟨some 12,.bin .lss (.t 11) (.t 10),none⟩]
def f395_3:AC:=.cond (.t 12) .skip (.exit 0)
def f395_4:List AI:=[⟨some 13,.iaddr 3 (.t 9) (.t 11),none⟩,
    ⟨some 14,.load true 3 (.t 13),none⟩,
    ⟨some 5,.new [(.str []),(.int .i64 0),(.int .i64 0)],none⟩,
    ⟨none,.store 3 (.t 5) (.t 14),none⟩]
def f395_5:List AI:=[⟨some 15,.mov (.t 3),none⟩,
    ⟨some 16,.faddr 0 (.t 5),none⟩,
    ⟨some 17,.load false 1 (.t 16),none⟩,
    ⟨some 18,.lookup .str (.bool false) (.t 15) (.t 17) false,none⟩]
def f395_6:AC:=.cond (.t 18) (.exit 1) .skip
def f395_7:AC:=.seq (.reg f395_5) f395_6
def f395_8:List AI:=[⟨some 19,.mov (.t 0),none⟩,
    ⟨some 20,.mov (.t 3),none⟩,
    ⟨some 21,.len .map (.t 20),none⟩,
    ⟨some 22,.load true 3 (.t 5),none⟩,
    ⟨some 23,.call (.t 19) [(.t 21),(.t 22)],none⟩,
    ⟨some 24,.un .not (.t 23),none⟩]
def f395_9:AC:=.cond (.t 24) (.exit 0) .skip
def f395_10:AC:=.seq (.reg f395_8) f395_9
def f395_11:List AI:=[⟨some 25,.mov (.t 3),none⟩,
    ⟨some 26,.faddr 0 (.t 5),none⟩,
    ⟨some 27,.load false 1 (.t 26),none⟩,
    ⟨none,.mapset .str (.t 25) (.t 27) (.c (.one (.bool true))),none⟩]
def f395_12:AC:=.seq f395_10 (.reg f395_11)
def f395_13:AC:=.seq f395_7 f395_12
def f395_14:AC:=.seq (.reg f395_4) f395_13
def f395_15:AC:=.block 1 f395_14
def f395_16:List AI:=[⟨some 28,.bin .add (.t 11) (.c (.one (.int .i64 1))),none⟩,
    ⟨some 11,.mov (.t 28),none⟩]
def f395_17:AC:=.seq f395_15 (.reg f395_16)
def f395_18:AC:=.seq f395_3 f395_17
def f395_19:AC:=.seq (.reg f395_2) f395_18
def f395_20:AC:=.loop f395_19
def f395_21:AC:=.block 0 f395_20
def f395_22:AC:=.seq (.reg f395_1) f395_21
def f395_23:AC:=.seq .skip f395_22
def f395_24:AC:=.seq (.reg f395_0) f395_23
def f395_25:AC:=.seq .skip f395_24
def f395B:AC:=f395_25
def f395:AF:=⟨2,29,[],f395B⟩
def f396_0:List AI:=[⟨some 4,.mov (.c (.one .nils)),none⟩]
def f396_1:List AI:=[⟨some 6,.mov (.t 0),none⟩,
    ⟨some 7,.call (.c (.one (.fn 399 []))) [(.t 6)],none⟩,
    ⟨some 5,.mov (.t 7),none⟩]
def f396_2:List AI:=[⟨some 8,.mov (.t 5),none⟩,
    ⟨some 9,.mov (.t 1),none⟩,
    ⟨some 10,.call (.c (.one (.fn 400 []))) [(.t 8),(.t 9)],none⟩]
def f396_3:List AI:=[⟨some 11,.mov (.t 5),none⟩,
    ⟨some 4,.mov (.t 11),none⟩]
def f396_4:AC:=.seq (.reg f396_3) .ret
def f396_5:AC:=.seq (.reg f396_2) f396_4
def f396_6:AC:=.seq (.reg f396_1) f396_5
def f396_7:AC:=.seq (.reg f396_0) f396_6
def f396B:AC:=f396_7
def f396:AF:=⟨2,12,[(.t 4)],f396B⟩
def f397_0:List AI:=[⟨some 1,.box (.t 0),none⟩,
    ⟨some 2,.mov (.c (.one .nilf)),none⟩]
def f397_1:List AI:=[⟨some 3,.mkfn 401 [(.t 1)],none⟩,
    ⟨some 2,.mov (.t 3),none⟩]
def f397_2:AC:=.seq (.reg f397_1) .ret
def f397_3:AC:=.seq (.reg f397_0) f397_2
def f397B:AC:=f397_3
def f397:AF:=⟨1,4,[(.t 2)],f397B⟩
def f399_0:List AI:=[⟨some 2,.mov (.c (.one .nils)),none⟩]
def f399_1:List AI:=[⟨some 3,.mov (.t 0),none⟩,
    ⟨some 4,.call (.c (.one (.fn 402 []))) [(.c (.one .nils)),(.t 3)],none⟩,
    ⟨some 2,.mov (.t 4),none⟩]
def f399_2:AC:=.seq (.reg f399_1) .ret
def f399_3:AC:=.seq (.reg f399_0) f399_2
def f399B:AC:=f399_3
def f399:AF:=⟨1,5,[(.t 2)],f399B⟩
def f401_0:List AI:=[⟨some 5,.load false 1 (.t 1),none⟩,
    ⟨some 6,.len .slc (.t 5),none⟩,
    ⟨some 7,.mov (.c (.one (.int .i64 0))),none⟩]
def f401_1:List AI:=[⟨some 8,.bin .lss (.t 7) (.t 6),none⟩]
def f401_2:AC:=.cond (.t 8) .skip (.exit 0)
def f401_3:List AI:=[⟨some 9,.iaddr 3 (.t 5) (.t 7),none⟩,
    ⟨some 10,.load true 3 (.t 9),none⟩,
    ⟨some 4,.new [(.str []),(.int .i64 0),(.int .i64 0)],none⟩,
    ⟨none,.store 3 (.t 4) (.t 10),none⟩]
def f401_4:List AI:=[⟨some 11,.mov (.t 0),none⟩,
    ⟨some 12,.load true 3 (.t 4),none⟩,
    ⟨some 13,.call (.t 11) [(.t 12)],none⟩,
    ⟨some 14,.un .not (.t 13),none⟩]
def f401_5:AC:=.cond (.t 14) .ret .skip
def f401_6:AC:=.seq (.reg f401_4) f401_5
def f401_7:AC:=.seq (.reg f401_3) f401_6
def f401_8:AC:=.block 1 f401_7
def f401_9:List AI:=[⟨some 15,.bin .add (.t 7) (.c (.one (.int .i64 1))),none⟩,
    ⟨some 7,.mov (.t 15),none⟩]
def f401_10:AC:=.seq f401_8 (.reg f401_9)
def f401_11:AC:=.seq f401_2 f401_10
def f401_12:AC:=.seq (.reg f401_1) f401_11
def f401_13:AC:=.loop f401_12
def f401_14:AC:=.block 0 f401_13
def f401_15:AC:=.seq (.reg f401_0) f401_14
def f401B:AC:=f401_15
def f401:AF:=⟨2,16,[],f401B⟩
def f402_0:List AI:=[⟨some 2,.box (.t 0),none⟩,
    ⟨some 4,.mov (.c (.one .nils)),none⟩]
def f402_1:List AI:=[⟨some 6,.mov (.t 1),none⟩]
def f402_2:List AI:=[⟨some 5,.new [(.str []),(.int .i64 0),(.int .i64 0)],none⟩,
    ⟨none,.store 3 (.t 5) (.t 7),none⟩]
def f402_3:List AI:=[⟨some 8,.load false 1 (.t 2),none⟩,
    ⟨some 9,.load true 3 (.t 5),none⟩,
    ⟨some 10,.rowLit 3 [(.str []),(.int .i64 0),(.int .i64 0)] 1 [(0,(.t 9))],none⟩,
    ⟨some 11,.app 3 32 (.t 8) (.t 10),none⟩,
    ⟨none,.store 1 (.t 2) (.t 11),none⟩]
def f402_4:AC:=.block 1 (.reg f402_3)
def f402_5:AC:=.rangeF (.t 6) [7] (.reg f402_2) f402_4
def f402_6:AC:=.block 0 f402_5
def f402_7:AC:=.seq (.reg f402_1) f402_6
def f402_8:List AI:=[⟨some 12,.load false 1 (.t 2),none⟩,
    ⟨some 4,.mov (.t 12),none⟩]
def f402_9:AC:=.seq (.reg f402_8) .ret
def f402_10:AC:=.seq f402_7 f402_9
def f402_11:AC:=.seq (.reg f402_0) f402_10
def f402B:AC:=f402_11
def f402:AF:=⟨2,13,[(.t 4)],f402B⟩
end Go.EA.F
