/- Functions of the program, as abstract code (printed by a program). Conditions: none (definitions). -/
import Derived.Test.YtmfjbaepgfdfpaaDoorEK1
namespace Go.EA.F
def f11_0 : List AI := [⟨some 2, .mov (.c (.one (.bool false))), none⟩]
def f11_1 : List AI := [⟨some 14, .call (.c (.one (.fn 26 []))) [], none⟩,
    ⟨some 15, .un .not (.t 14), none⟩]
def f11_2 : List AI := [⟨some 2, .mov (.c (.one (.bool false))), none⟩]
def f11_3 : AC := .seq (.reg f11_2) .ret
def f11_4 : AC := .cond (.t 15) f11_3 .skip
def f11_5 : AC := .seq (.reg f11_1) f11_4
def f11_6 : List AI := [⟨some 16, .mov (.t 0), none⟩,
    ⟨some 17, .len .str (.t 16), none⟩,
    ⟨some 18, .bin .gtr (.t 17) (.c (.one (.int .i64 4000))), none⟩]
def f11_7 : List AI := [⟨some 2, .mov (.c (.one (.bool true))), none⟩]
def f11_8 : AC := .seq (.reg f11_7) .ret
def f11_9 : AC := .cond (.t 18) f11_8 .skip
def f11_10 : AC := .seq (.reg f11_6) f11_9
def f11_11 : List AI := [⟨some 20, .mov (.t 0), none⟩,
    ⟨some 21, .call (.c (.one (.fn 27 []))) [(.t 20)], none⟩,
    ⟨some 19, .mov (.t 21), none⟩,
    ⟨some 22, .ext (.t 19) 0, none⟩,
    ⟨some 23, .ext (.t 19) 1, none⟩,
    ⟨some 3, .mov (.t 22), none⟩,
    ⟨some 4, .mov (.t 23), none⟩]
def f11_12 : List AI := [⟨some 24, .mov (.t 4), none⟩,
    ⟨some 25, .bin .neq (.t 24) (.c (.one (.int .i64 0))), none⟩]
def f11_13 : List AI := [⟨some 27, .mov (.t 0), none⟩,
    ⟨some 28, .call (.c (.one (.fn 17 []))) [(.t 27)], none⟩,
    ⟨some 26, .mov (.t 28), none⟩,
    ⟨some 29, .ext (.t 26) 0, none⟩,
    ⟨some 30, .ext (.t 26) 1, none⟩,
    ⟨some 5, .mov (.t 29), none⟩,
    ⟨some 6, .mov (.t 30), none⟩]
def f11_14 : List AI := [⟨some 31, .mov (.t 3), none⟩,
    ⟨some 32, .len .slc (.t 31), none⟩,
    ⟨some 33, .bin .eql (.t 32) (.c (.one (.int .i64 0))), none⟩,
    ⟨some 34, .mov (.t 33), none⟩,
    ⟨some 35, .mov (.t 6), some (34, true)⟩,
    ⟨some 36, .mov (.t 4), some (34, true)⟩,
    ⟨some 37, .bin .eql (.t 35) (.t 36), some (34, true)⟩,
    ⟨some 38, .pick (.t 34) (.t 37) (.c (.one (.bool false))), none⟩,
    ⟨some 2, .mov (.t 38), none⟩]
def f11_15 : AC := .seq (.reg f11_14) .ret
def f11_16 : AC := .seq (.reg f11_13) f11_15
def f11_17 : AC := .cond (.t 25) f11_16 .skip
def f11_18 : AC := .seq (.reg f11_12) f11_17
def f11_19 : List AI := [⟨some 7, .mov (.c (.one (.int .i64 0))), none⟩]
def f11_20 : List AI := [⟨some 39, .mov (.t 3), none⟩,
    ⟨some 40, .len .slc (.t 39), none⟩,
    ⟨some 41, .mov (.c (.one (.int .i64 0))), none⟩]
def f11_21 : List AI := [⟨some 42, .bin .lss (.t 41) (.t 40), none⟩]
def f11_22 : AC := .cond (.t 42) .skip (.exit 0)
def f11_23 : List AI := [⟨some 43, .mov (.t 41), none⟩,
    ⟨some 44, .iaddr 3 (.t 39) (.t 41), none⟩,
    ⟨some 45, .load true 3 (.t 44), none⟩,
    ⟨some 9, .new [(.int .i64 0), (.int .i64 0), (.bool false)], none⟩,
    ⟨some 8, .mov (.t 43), none⟩,
    ⟨none, .store 3 (.t 9) (.t 45), none⟩]
def f11_24 : List AI := [⟨some 46, .faddr 0 (.t 9), none⟩,
    ⟨some 47, .load false 1 (.t 46), none⟩,
    ⟨some 48, .mov (.t 7), none⟩,
    ⟨some 49, .bin .neq (.t 47) (.t 48), none⟩,
    ⟨some 50, .mov (.t 49), none⟩,
    ⟨some 51, .faddr 1 (.t 9), some (50, false)⟩,
    ⟨some 52, .load false 1 (.t 51), some (50, false)⟩,
    ⟨some 53, .faddr 0 (.t 9), some (50, false)⟩,
    ⟨some 54, .load false 1 (.t 53), some (50, false)⟩,
    ⟨some 55, .bin .leq (.t 52) (.t 54), some (50, false)⟩,
    ⟨some 56, .pick (.t 50) (.c (.one (.bool true))) (.t 55), none⟩,
    ⟨some 57, .mov (.t 56), none⟩,
    ⟨some 58, .faddr 1 (.t 9), some (57, false)⟩,
    ⟨some 59, .load false 1 (.t 58), some (57, false)⟩,
    ⟨some 60, .mov (.t 0), some (57, false)⟩,
    ⟨some 61, .len .str (.t 60), some (57, false)⟩,
    ⟨some 62, .bin .gtr (.t 59) (.t 61), some (57, false)⟩,
    ⟨some 63, .pick (.t 57) (.c (.one (.bool true))) (.t 62), none⟩,
    ⟨some 64, .mov (.t 63), none⟩,
    ⟨some 65, .mov (.t 8), some (64, false)⟩,
    ⟨some 66, .bin .gtr (.t 65) (.c (.one (.int .i64 0))), some (64, false)⟩,
    ⟨some 67, .mov (.t 66), some (64, false)⟩,
    ⟨some 68, .mov (.t 3), some (67, true)⟩,
    ⟨some 69, .mov (.t 8), some (67, true)⟩,
    ⟨some 70, .bin .sub (.t 69) (.c (.one (.int .i64 1))), some (67, true)⟩,
    ⟨some 71, .iaddr 3 (.t 68) (.t 70), some (67, true)⟩,
    ⟨some 72, .faddr 2 (.t 71), some (67, true)⟩,
    ⟨some 73, .load false 1 (.t 72), some (67, true)⟩,
    ⟨some 74, .faddr 2 (.t 9), some (67, true)⟩,
    ⟨some 75, .load false 1 (.t 74), some (67, true)⟩,
    ⟨some 76, .eqv .bool false (.t 73) (.t 75), some (67, true)⟩,
    ⟨some 77, .pick (.t 67) (.t 76) (.c (.one (.bool false))), some (64, false)⟩,
    ⟨some 78, .pick (.t 64) (.c (.one (.bool true))) (.t 77), none⟩]
def f11_25 : List AI := [⟨some 2, .mov (.c (.one (.bool false))), none⟩]
def f11_26 : AC := .seq (.reg f11_25) .ret
def f11_27 : AC := .cond (.t 78) f11_26 .skip
def f11_28 : AC := .seq (.dreg f11_24) f11_27
def f11_29 : List AI := [⟨some 80, .mov (.t 0), none⟩,
    ⟨some 81, .faddr 0 (.t 9), none⟩,
    ⟨some 82, .load false 1 (.t 81), none⟩,
    ⟨some 83, .faddr 1 (.t 9), none⟩,
    ⟨some 84, .load false 1 (.t 83), none⟩,
    ⟨some 85, .slice .str 1 (.t 80) (some (.t 82)) (some (.t 84)) none, none⟩,
    ⟨some 86, .call (.c (.one (.fn 17 []))) [(.t 85)], none⟩,
    ⟨some 79, .mov (.t 86), none⟩,
    ⟨some 87, .ext (.t 79) 0, none⟩,
    ⟨some 88, .ext (.t 79) 1, none⟩,
    ⟨some 10, .mov (.t 87), none⟩,
    ⟨some 11, .mov (.t 88), none⟩]
def f11_30 : List AI := [⟨some 89, .mov (.t 11), none⟩,
    ⟨some 90, .bin .neq (.t 89) (.c (.one (.int .i64 0))), none⟩]
def f11_31 : List AI := [⟨some 2, .mov (.c (.one (.bool false))), none⟩]
def f11_32 : AC := .seq (.reg f11_31) .ret
def f11_33 : AC := .cond (.t 90) f11_32 .skip
def f11_34 : AC := .seq (.reg f11_30) f11_33
def f11_35 : List AI := [⟨some 91, .mov (.t 10), none⟩,
    ⟨some 92, .len .slc (.t 91), none⟩,
    ⟨some 93, .mov (.c (.one (.int .i64 0))), none⟩]
def f11_36 : List AI := [⟨some 94, .bin .lss (.t 93) (.t 92), none⟩]
def f11_37 : AC := .cond (.t 94) .skip (.exit 2)
def f11_38 : List AI := [⟨some 95, .iaddr 1 (.t 91) (.t 93), none⟩,
    ⟨some 96, .load false 1 (.t 95), none⟩,
    ⟨some 13, .mov (.t 96), none⟩]
def f11_39 : List AI := [⟨some 97, .mov (.t 13), none⟩,
    ⟨some 98, .call (.c (.one (.fn 35 []))) [(.t 97)], none⟩,
    ⟨some 99, .faddr 2 (.t 9), none⟩,
    ⟨some 100, .load false 1 (.t 99), none⟩,
    ⟨some 101, .eqv .bool true (.t 98) (.t 100), none⟩]
def f11_40 : List AI := [⟨some 2, .mov (.c (.one (.bool false))), none⟩]
def f11_41 : AC := .seq (.reg f11_40) .ret
def f11_42 : AC := .cond (.t 101) f11_41 .skip
def f11_43 : AC := .seq (.dreg f11_39) f11_42
def f11_44 : AC := .seq (.reg f11_38) f11_43
def f11_45 : AC := .block 3 f11_44
def f11_46 : List AI := [⟨some 102, .bin .add (.t 93) (.c (.one (.int .i64 1))), none⟩,
    ⟨some 93, .mov (.t 102), none⟩]
def f11_47 : AC := .seq f11_45 (.reg f11_46)
def f11_48 : AC := .seq f11_37 f11_47
def f11_49 : AC := .seq (.reg f11_36) f11_48
def f11_50 : AC := .loop f11_49
def f11_51 : AC := .block 2 f11_50
def f11_52 : AC := .seq (.reg f11_35) f11_51
def f11_53 : List AI := [⟨some 103, .faddr 1 (.t 9), none⟩,
    ⟨some 104, .load false 1 (.t 103), none⟩,
    ⟨some 7, .mov (.t 104), none⟩]
def f11_54 : AC := .seq f11_52 (.reg f11_53)
def f11_55 : AC := .seq f11_34 f11_54
def f11_56 : AC := .seq (.reg f11_29) f11_55
def f11_57 : AC := .seq f11_28 f11_56
def f11_58 : AC := .seq (.reg f11_23) f11_57
def f11_59 : AC := .block 1 f11_58
def f11_60 : List AI := [⟨some 105, .bin .add (.t 41) (.c (.one (.int .i64 1))), none⟩,
    ⟨some 41, .mov (.t 105), none⟩]
def f11_61 : AC := .seq f11_59 (.reg f11_60)
def f11_62 : AC := .seq f11_22 f11_61
def f11_63 : AC := .seq (.reg f11_21) f11_62
def f11_64 : AC := .loop f11_63
def f11_65 : AC := .block 0 f11_64
def f11_66 : AC := .seq (.reg f11_20) f11_65
def f11_67 : List AI := [⟨some 106, .mov (.t 7), none⟩,
    ⟨some 107, .mov (.t 0), none⟩,
    ⟨some 108, .len .str (.t 107), none⟩,
    ⟨some 109, .bin .eql (.t 106) (.t 108), none⟩,
    ⟨some 110, .mov (.t 109), none⟩,
    ⟨some 111, .mov (.t 0), some (110, true)⟩,
    ⟨some 112, .mov (.t 3), some (110, true)⟩,
    ⟨some 113, .call (.c (.one (.fn 41 []))) [(.t 111), (.t 112)], some (110, true)⟩,
    ⟨some 114, .pick (.t 110) (.t 113) (.c (.one (.bool false))), none⟩,
    ⟨some 2, .mov (.t 114), none⟩]
def f11_68 : AC := .seq (.reg f11_67) .ret
def f11_69 : AC := .seq f11_66 f11_68
def f11_70 : AC := .seq (.reg f11_19) f11_69
def f11_71 : AC := .seq f11_18 f11_70
def f11_72 : AC := .seq (.reg f11_11) f11_71
def f11_73 : AC := .seq f11_10 f11_72
def f11_74 : AC := .seq f11_5 f11_73
def f11_75 : AC := .seq (.reg f11_0) f11_74
def f11B : AC := f11_75
def f11 : AF := ⟨1, 115, [(.t 2)], f11B⟩
def f27_0 : List AI := [⟨some 2, .mov (.c (.one .nils)), none⟩,
    ⟨some 3, .mov (.c (.one (.int .i64 0))), none⟩]
def f27_1 : List AI := [⟨some 8, .mov (.t 0), none⟩,
    ⟨some 9, .len .str (.t 8), none⟩,
    ⟨some 10, .bin .gtr (.t 9) (.c (.one (.int .i64 1048576))), none⟩,
    ⟨some 7, .mov (.t 10), none⟩]
def f27_2 : List AI := [⟨some 2, .mov (.c (.one .nils)), none⟩,
    ⟨some 3, .mov (.c (.one (.int .i64 5))), none⟩]
def f27_3 : AC := .seq (.reg f27_2) .ret
def f27_4 : List AI := [⟨some 12, .mov (.t 0), none⟩,
    ⟨some 13, .call (.c (.one (.fn 38 []))) [(.t 12)], none⟩,
    ⟨some 14, .un .not (.t 13), none⟩,
    ⟨some 11, .mov (.t 14), none⟩]
def f27_5 : List AI := [⟨some 2, .mov (.c (.one .nils)), none⟩,
    ⟨some 3, .mov (.c (.one (.int .i64 3))), none⟩]
def f27_6 : AC := .seq (.reg f27_5) .ret
def f27_7 : AC := .cond (.t 11) f27_6 .skip
def f27_8 : AC := .seq (.reg f27_4) f27_7
def f27_9 : AC := .cond (.t 7) f27_3 f27_8
def f27_10 : AC := .seq (.reg f27_1) f27_9
def f27_11 : AC := .block 0 f27_10
def f27_12 : List AI := [⟨some 4, .mov (.c (.one (.bool true))), none⟩]
def f27_13 : List AI := [⟨some 5, .mov (.c (.one (.int .i64 0))), none⟩]
def f27_14 : List AI := [⟨some 15, .mov (.t 5), none⟩,
    ⟨some 16, .mov (.t 0), none⟩,
    ⟨some 17, .len .str (.t 16), none⟩,
    ⟨some 18, .bin .lss (.t 15) (.t 17), none⟩]
def f27_15 : AC := .cond (.t 18) .skip (.exit 1)
def f27_16 : AC := .seq (.reg f27_14) f27_15
def f27_17 : List AI := [⟨some 21, .mov (.t 0), none⟩,
    ⟨some 22, .mov (.t 5), none⟩,
    ⟨some 23, .slice .str 1 (.t 21) (some (.t 22)) none none, none⟩,
    ⟨some 24, .mov (.t 4), none⟩,
    ⟨some 25, .call (.c (.one (.fn 50 []))) [(.t 23), (.t 24)], none⟩,
    ⟨some 6, .mov (.t 25), none⟩]
def f27_18 : List AI := [⟨some 26, .mov (.t 6), none⟩,
    ⟨some 27, .bin .gtr (.t 26) (.c (.one (.int .i64 0))), none⟩]
def f27_19 : List AI := [⟨some 28, .mov (.t 2), none⟩,
    ⟨some 29, .mov (.t 5), none⟩,
    ⟨some 30, .mov (.t 5), none⟩,
    ⟨some 31, .mov (.t 6), none⟩,
    ⟨some 32, .bin .add (.t 30) (.t 31), none⟩,
    ⟨some 33, .mov (.t 4), none⟩,
    ⟨some 34, .build [(.int .i64 0), (.int .i64 0), (.bool false)] [(0, (1, (.t 29))), (1, (1, (.t 32))), (2, (1, (.t 33)))], none⟩,
    ⟨some 35, .rowLit 3 [(.int .i64 0), (.int .i64 0), (.bool false)] 1 [(0, (.t 34))], none⟩,
    ⟨some 36, .app 3 24 (.t 28) (.t 35), none⟩,
    ⟨some 2, .mov (.t 36), none⟩]
def f27_20 : List AI := [⟨some 37, .mov (.t 5), none⟩,
    ⟨some 38, .mov (.t 6), none⟩,
    ⟨some 39, .bin .add (.t 37) (.t 38), none⟩,
    ⟨some 5, .mov (.t 39), none⟩]
def f27_21 : AC := .seq (.reg f27_19) (.reg f27_20)
def f27_22 : AC := .cond (.t 27) f27_21 .skip
def f27_23 : AC := .seq (.reg f27_18) f27_22
def f27_24 : AC := .seq (.reg f27_17) f27_23
def f27_25 : AC := .block 2 f27_24
def f27_26 : List AI := [⟨some 19, .mov (.t 4), none⟩,
    ⟨some 20, .un .not (.t 19), none⟩,
    ⟨some 4, .mov (.t 20), none⟩]
def f27_27 : AC := .seq f27_25 (.reg f27_26)
def f27_28 : AC := .seq f27_16 f27_27
def f27_29 : AC := .loop f27_28
def f27_30 : AC := .block 1 f27_29
def f27_31 : AC := .seq (.reg f27_13) f27_30
def f27_32 : List AI := [⟨some 40, .mov (.t 2), none⟩,
    ⟨some 2, .mov (.t 40), none⟩,
    ⟨some 3, .mov (.c (.one (.int .i64 0))), none⟩]
def f27_33 : AC := .seq (.reg f27_32) .ret
def f27_34 : AC := .seq f27_31 f27_33
def f27_35 : AC := .seq (.reg f27_12) f27_34
def f27_36 : AC := .seq f27_11 f27_35
def f27_37 : AC := .seq (.reg f27_0) f27_36
def f27B : AC := f27_37
def f27 : AF := ⟨1, 41, [(.t 2), (.t 3)], f27B⟩
def f30_0 : List AI := [⟨some 2, .mov (.c (.one .nils)), none⟩,
    ⟨some 3, .mov (.c (.one (.int .i64 0))), none⟩]
def f30_1 : List AI := [⟨some 10, .mov (.t 0), none⟩,
    ⟨some 11, .call (.c (.one (.fn 28 []))) [(.t 10)], none⟩,
    ⟨some 9, .mov (.t 11), none⟩,
    ⟨some 12, .ext (.t 9) 0, none⟩,
    ⟨some 13, .ext (.t 9) 1, none⟩,
    ⟨some 4, .mov (.t 12), none⟩,
    ⟨some 5, .mov (.t 13), none⟩]
def f30_2 : List AI := [⟨some 6, .mov (.c (.one .nils)), none⟩]
def f30_3 : List AI := [⟨some 14, .mov (.t 4), none⟩,
    ⟨some 15, .len .slc (.t 14), none⟩,
    ⟨some 16, .mov (.c (.one (.int .i64 0))), none⟩]
def f30_4 : List AI := [⟨some 17, .bin .lss (.t 16) (.t 15), none⟩]
def f30_5 : AC := .cond (.t 17) .skip (.exit 0)
def f30_6 : List AI := [⟨some 18, .iaddr 3 (.t 14) (.t 16), none⟩,
    ⟨some 19, .load true 3 (.t 18), none⟩,
    ⟨some 8, .new [(.int .i64 0), (.int .i64 0), (.bool false)], none⟩,
    ⟨none, .store 3 (.t 8) (.t 19), none⟩]
def f30_7 : List AI := [⟨some 20, .faddr 2 (.t 8), none⟩,
    ⟨some 21, .load false 1 (.t 20), none⟩]
def f30_8 : List AI := [⟨some 22, .mov (.t 6), none⟩,
    ⟨some 23, .mov (.t 0), none⟩,
    ⟨some 24, .faddr 0 (.t 8), none⟩,
    ⟨some 25, .load false 1 (.t 24), none⟩,
    ⟨some 26, .faddr 1 (.t 8), none⟩,
    ⟨some 27, .load false 1 (.t 26), none⟩,
    ⟨some 28, .slice .str 1 (.t 23) (some (.t 25)) (some (.t 27)) none, none⟩,
    ⟨some 29, .rowLit 1 [(.str [])] 1 [(0, (.t 28))], none⟩,
    ⟨some 30, .app 1 16 (.t 22) (.t 29), none⟩,
    ⟨some 6, .mov (.t 30), none⟩]
def f30_9 : AC := .cond (.t 21) (.reg f30_8) .skip
def f30_10 : AC := .seq (.reg f30_7) f30_9
def f30_11 : AC := .seq (.reg f30_6) f30_10
def f30_12 : AC := .block 1 f30_11
def f30_13 : List AI := [⟨some 31, .bin .add (.t 16) (.c (.one (.int .i64 1))), none⟩,
    ⟨some 16, .mov (.t 31), none⟩]
def f30_14 : AC := .seq f30_12 (.reg f30_13)
def f30_15 : AC := .seq f30_5 f30_14
def f30_16 : AC := .seq (.reg f30_4) f30_15
def f30_17 : AC := .loop f30_16
def f30_18 : AC := .block 0 f30_17
def f30_19 : AC := .seq (.reg f30_3) f30_18
def f30_20 : List AI := [⟨some 32, .mov (.t 6), none⟩,
    ⟨some 33, .mov (.t 5), none⟩,
    ⟨some 2, .mov (.t 32), none⟩,
    ⟨some 3, .mov (.t 33), none⟩]
def f30_21 : AC := .seq (.reg f30_20) .ret
def f30_22 : AC := .seq f30_19 f30_21
def f30_23 : AC := .seq (.reg f30_2) f30_22
def f30_24 : AC := .seq (.reg f30_1) f30_23
def f30_25 : AC := .seq (.reg f30_0) f30_24
def f30B : AC := f30_25
def f30 : AF := ⟨1, 34, [(.t 2), (.t 3)], f30B⟩
def f31_0 : List AI := [⟨some 4, .mov (.c (.one (.bool false))), none⟩]
def f31_1 : List AI := [⟨some 6, .mov (.t 0), none⟩,
    ⟨some 7, .len .slc (.t 6), none⟩,
    ⟨some 8, .mov (.t 1), none⟩,
    ⟨some 9, .len .slc (.t 8), none⟩,
    ⟨some 10, .bin .neq (.t 7) (.t 9), none⟩]
def f31_2 : List AI := [⟨some 4, .mov (.c (.one (.bool false))), none⟩]
def f31_3 : AC := .seq (.reg f31_2) .ret
def f31_4 : AC := .cond (.t 10) f31_3 .skip
def f31_5 : AC := .seq (.reg f31_1) f31_4
def f31_6 : List AI := [⟨some 11, .mov (.t 0), none⟩,
    ⟨some 12, .len .slc (.t 11), none⟩,
    ⟨some 13, .mov (.c (.one (.int .i64 0))), none⟩]
def f31_7 : List AI := [⟨some 14, .bin .lss (.t 13) (.t 12), none⟩]
def f31_8 : AC := .cond (.t 14) .skip (.exit 0)
def f31_9 : List AI := [⟨some 15, .mov (.t 13), none⟩,
    ⟨some 5, .mov (.t 15), none⟩]
def f31_10 : List AI := [⟨some 16, .mov (.t 0), none⟩,
    ⟨some 17, .mov (.t 5), none⟩,
    ⟨some 18, .iaddr 3 (.t 16) (.t 17), none⟩,
    ⟨some 19, .load true 3 (.t 18), none⟩,
    ⟨some 20, .mov (.t 1), none⟩,
    ⟨some 21, .mov (.t 5), none⟩,
    ⟨some 22, .iaddr 3 (.t 20) (.t 21), none⟩,
    ⟨some 23, .load true 3 (.t 22), none⟩,
    ⟨some 24, .eqv (.cells [(.int .i64), (.int .i64), .bool]) true (.t 19) (.t 23), none⟩]
def f31_11 : List AI := [⟨some 4, .mov (.c (.one (.bool false))), none⟩]
def f31_12 : AC := .seq (.reg f31_11) .ret
def f31_13 : AC := .cond (.t 24) f31_12 .skip
def f31_14 : AC := .seq (.dreg f31_10) f31_13
def f31_15 : AC := .seq (.reg f31_9) f31_14
def f31_16 : AC := .block 1 f31_15
def f31_17 : List AI := [⟨some 25, .bin .add (.t 13) (.c (.one (.int .i64 1))), none⟩,
    ⟨some 13, .mov (.t 25), none⟩]
def f31_18 : AC := .seq f31_16 (.reg f31_17)
def f31_19 : AC := .seq f31_8 f31_18
def f31_20 : AC := .seq (.reg f31_7) f31_19
def f31_21 : AC := .loop f31_20
def f31_22 : AC := .block 0 f31_21
def f31_23 : AC := .seq (.reg f31_6) f31_22
def f31_24 : List AI := [⟨some 4, .mov (.c (.one (.bool true))), none⟩]
def f31_25 : AC := .seq (.reg f31_24) .ret
def f31_26 : AC := .seq f31_23 f31_25
def f31_27 : AC := .seq f31_5 f31_26
def f31_28 : AC := .seq (.reg f31_0) f31_27
def f31B : AC := f31_28
def f31 : AF := ⟨2, 26, [(.t 4)], f31B⟩
def f42_0 : List AI := [⟨some 4, .mov (.c (.one (.bool false))), none⟩]
def f42_1 : List AI := [⟨some 8, .mov (.t 0), none⟩,
    ⟨some 9, .call (.c (.one (.fn 28 []))) [(.t 8)], none⟩,
    ⟨some 7, .mov (.t 9), none⟩,
    ⟨some 10, .ext (.t 7) 0, none⟩,
    ⟨some 11, .ext (.t 7) 1, none⟩,
    ⟨some 5, .mov (.t 10), none⟩,
    ⟨some 6, .mov (.t 11), none⟩]
def f42_2 : List AI := [⟨some 12, .mov (.t 6), none⟩,
    ⟨some 13, .bin .eql (.t 12) (.c (.one (.int .i64 0))), none⟩,
    ⟨some 14, .mov (.t 13), none⟩,
    ⟨some 15, .mov (.t 5), some (14, true)⟩,
    ⟨some 16, .mov (.t 1), some (14, true)⟩,
    ⟨some 17, .call (.c (.one (.fn 31 []))) [(.t 15), (.t 16)], some (14, true)⟩,
    ⟨some 18, .pick (.t 14) (.t 17) (.c (.one (.bool false))), none⟩,
    ⟨some 4, .mov (.t 18), none⟩]
def f42_3 : AC := .seq (.reg f42_2) .ret
def f42_4 : AC := .seq (.reg f42_1) f42_3
def f42_5 : AC := .seq (.reg f42_0) f42_4
def f42B : AC := f42_5
def f42 : AF := ⟨2, 19, [(.t 4)], f42B⟩
def f52_0 : List AI := [⟨some 1, .box (.t 0), none⟩,
    ⟨some 2, .mov (.c (.one .nilf)), none⟩]
def f52_1 : List AI := [⟨some 3, .mkfn 73 [(.t 1)], none⟩,
    ⟨some 2, .mov (.t 3), none⟩]
def f52_2 : AC := .seq (.reg f52_1) .ret
def f52_3 : AC := .seq (.reg f52_0) f52_2
def f52B : AC := f52_3
def f52 : AF := ⟨1, 4, [(.t 2)], f52B⟩
def f72_0 : List AI := [⟨some 2, .mov (.c (.one (.int .i64 0))), none⟩]
def f72_1 : List AI := [⟨some 4, .mov (.t 0), none⟩,
    ⟨some 5, .bin .lss (.t 4) (.c (.one (.int .i32 0))), none⟩,
    ⟨some 3, .mov (.t 5), none⟩]
def f72_2 : List AI := [⟨some 2, .mov (.c (.one (.int .i64 (-1)))), none⟩]
def f72_3 : AC := .seq (.reg f72_2) .ret
def f72_4 : List AI := [⟨some 7, .mov (.t 0), none⟩,
    ⟨some 8, .bin .leq (.t 7) (.c (.one (.int .i32 127))), none⟩,
    ⟨some 6, .mov (.t 8), none⟩]
def f72_5 : List AI := [⟨some 2, .mov (.c (.one (.int .i64 1))), none⟩]
def f72_6 : AC := .seq (.reg f72_5) .ret
def f72_7 : List AI := [⟨some 10, .mov (.t 0), none⟩,
    ⟨some 11, .bin .leq (.t 10) (.c (.one (.int .i32 2047))), none⟩,
    ⟨some 9, .mov (.t 11), none⟩]
def f72_8 : List AI := [⟨some 2, .mov (.c (.one (.int .i64 2))), none⟩]
def f72_9 : AC := .seq (.reg f72_8) .ret
def f72_10 : List AI := [⟨some 13, .mov (.t 0), none⟩,
    ⟨some 14, .bin .leq (.c (.one (.int .i32 55296))) (.t 13), none⟩,
    ⟨some 15, .mov (.t 14), none⟩,
    ⟨some 16, .mov (.t 0), some (15, true)⟩,
    ⟨some 17, .bin .leq (.t 16) (.c (.one (.int .i32 57343))), some (15, true)⟩,
    ⟨some 18, .pick (.t 15) (.t 17) (.c (.one (.bool false))), none⟩,
    ⟨some 12, .mov (.t 18), none⟩]
def f72_11 : List AI := [⟨some 2, .mov (.c (.one (.int .i64 (-1)))), none⟩]
def f72_12 : AC := .seq (.reg f72_11) .ret
def f72_13 : List AI := [⟨some 20, .mov (.t 0), none⟩,
    ⟨some 21, .bin .leq (.t 20) (.c (.one (.int .i32 65535))), none⟩,
    ⟨some 19, .mov (.t 21), none⟩]
def f72_14 : List AI := [⟨some 2, .mov (.c (.one (.int .i64 3))), none⟩]
def f72_15 : AC := .seq (.reg f72_14) .ret
def f72_16 : List AI := [⟨some 23, .mov (.t 0), none⟩,
    ⟨some 24, .bin .leq (.t 23) (.c (.one (.int .i32 1114111))), none⟩,
    ⟨some 22, .mov (.t 24), none⟩]
def f72_17 : List AI := [⟨some 2, .mov (.c (.one (.int .i64 4))), none⟩]
def f72_18 : AC := .seq (.reg f72_17) .ret
def f72_19 : AC := .cond (.t 22) f72_18 .skip
def f72_20 : AC := .seq (.reg f72_16) f72_19
def f72_21 : AC := .cond (.t 19) f72_15 f72_20
def f72_22 : AC := .seq (.reg f72_13) f72_21
def f72_23 : AC := .cond (.t 12) f72_12 f72_22
def f72_24 : AC := .seq (.reg f72_10) f72_23
def f72_25 : AC := .cond (.t 9) f72_9 f72_24
def f72_26 : AC := .seq (.reg f72_7) f72_25
def f72_27 : AC := .cond (.t 6) f72_6 f72_26
def f72_28 : AC := .seq (.reg f72_4) f72_27
def f72_29 : AC := .cond (.t 3) f72_3 f72_28
def f72_30 : AC := .seq (.reg f72_1) f72_29
def f72_31 : AC := .block 0 f72_30
def f72_32 : List AI := [⟨some 2, .mov (.c (.one (.int .i64 (-1)))), none⟩]
def f72_33 : AC := .seq (.reg f72_32) .ret
def f72_34 : AC := .seq f72_31 f72_33
def f72_35 : AC := .seq (.reg f72_0) f72_34
def f72B : AC := f72_35
def f72 : AF := ⟨1, 25, [(.t 2)], f72B⟩
end Go.EA.F

