/- Functions of the program, as abstract code (printed by a program). Conditions: none (definitions). -/
import Derived.Test.YtngcpifknomecaaDoorEK1
namespace Go.EA.F
def f6_0 : List AI := [⟨some 2, .mov (.c (.one (.bool false))), none⟩]
def f6_1 : List AI := [⟨some 11, .call (.c (.one (.fn 26 []))) [], none⟩,
    ⟨some 12, .un .not (.t 11), none⟩]
def f6_2 : List AI := [⟨some 2, .mov (.c (.one (.bool false))), none⟩]
def f6_3 : AC := .seq (.reg f6_2) .ret
def f6_4 : AC := .cond (.t 12) f6_3 .skip
def f6_5 : AC := .seq (.reg f6_1) f6_4
def f6_6 : List AI := [⟨some 13, .mov (.t 0), none⟩,
    ⟨some 14, .len .str (.t 13), none⟩,
    ⟨some 15, .bin .gtr (.t 14) (.c (.one (.int .i64 4000))), none⟩,
    ⟨some 16, .mov (.t 15), none⟩,
    ⟨some 17, .mov (.t 0), some (16, true)⟩,
    ⟨some 18, .len .str (.t 17), some (16, true)⟩,
    ⟨some 19, .bin .leq (.t 18) (.c (.one (.int .i64 1048576))), some (16, true)⟩,
    ⟨some 20, .pick (.t 16) (.t 19) (.c (.one (.bool false))), none⟩]
def f6_7 : List AI := [⟨some 2, .mov (.c (.one (.bool true))), none⟩]
def f6_8 : AC := .seq (.reg f6_7) .ret
def f6_9 : AC := .cond (.t 20) f6_8 .skip
def f6_10 : AC := .seq (.reg f6_6) f6_9
def f6_11 : List AI := [⟨some 22, .mov (.t 0), none⟩,
    ⟨some 23, .call (.c (.one (.fn 27 []))) [(.t 22)], none⟩,
    ⟨some 21, .mov (.t 23), none⟩,
    ⟨some 24, .ext (.t 21) 0, none⟩,
    ⟨some 25, .ext (.t 21) 1, none⟩,
    ⟨some 3, .mov (.t 24), none⟩,
    ⟨some 4, .mov (.t 25), none⟩]
def f6_12 : List AI := [⟨some 27, .mov (.t 0), none⟩,
    ⟨some 28, .call (.c (.one (.fn 28 []))) [(.t 27)], none⟩,
    ⟨some 26, .mov (.t 28), none⟩,
    ⟨some 29, .ext (.t 26) 0, none⟩,
    ⟨some 30, .ext (.t 26) 1, none⟩,
    ⟨some 5, .mov (.t 29), none⟩,
    ⟨some 6, .mov (.t 30), none⟩]
def f6_13 : List AI := [⟨some 32, .mov (.t 0), none⟩,
    ⟨some 33, .call (.c (.one (.fn 29 []))) [(.t 32)], none⟩,
    ⟨some 31, .mov (.t 33), none⟩,
    ⟨some 34, .ext (.t 31) 0, none⟩,
    ⟨some 35, .ext (.t 31) 1, none⟩,
    ⟨some 7, .mov (.t 34), none⟩,
    ⟨some 8, .mov (.t 35), none⟩]
def f6_14 : List AI := [⟨some 37, .mov (.t 0), none⟩,
    ⟨some 38, .call (.c (.one (.fn 30 []))) [(.t 37)], none⟩,
    ⟨some 36, .mov (.t 38), none⟩,
    ⟨some 39, .ext (.t 36) 0, none⟩,
    ⟨some 40, .ext (.t 36) 1, none⟩,
    ⟨some 9, .mov (.t 39), none⟩,
    ⟨some 10, .mov (.t 40), none⟩]
def f6_15 : List AI := [⟨some 41, .mov (.t 3), none⟩,
    ⟨some 42, .mov (.t 5), none⟩,
    ⟨some 43, .call (.c (.one (.fn 31 []))) [(.t 41), (.t 42)], none⟩,
    ⟨some 44, .mov (.t 43), none⟩,
    ⟨some 45, .mov (.t 4), some (44, true)⟩,
    ⟨some 46, .mov (.t 6), some (44, true)⟩,
    ⟨some 47, .bin .eql (.t 45) (.t 46), some (44, true)⟩,
    ⟨some 48, .pick (.t 44) (.t 47) (.c (.one (.bool false))), none⟩,
    ⟨some 49, .mov (.t 48), none⟩,
    ⟨some 50, .mov (.t 7), some (49, true)⟩,
    ⟨some 51, .mov (.t 9), some (49, true)⟩,
    ⟨some 52, .call (.c (.one (.fn 32 []))) [(.t 50), (.t 51)], some (49, true)⟩,
    ⟨some 53, .pick (.t 49) (.t 52) (.c (.one (.bool false))), none⟩,
    ⟨some 54, .mov (.t 53), none⟩,
    ⟨some 55, .mov (.t 8), some (54, true)⟩,
    ⟨some 56, .mov (.t 10), some (54, true)⟩,
    ⟨some 57, .bin .eql (.t 55) (.t 56), some (54, true)⟩,
    ⟨some 58, .pick (.t 54) (.t 57) (.c (.one (.bool false))), none⟩,
    ⟨some 2, .mov (.t 58), none⟩]
def f6_16 : AC := .seq (.reg f6_15) .ret
def f6_17 : AC := .seq (.reg f6_14) f6_16
def f6_18 : AC := .seq (.reg f6_13) f6_17
def f6_19 : AC := .seq (.reg f6_12) f6_18
def f6_20 : AC := .seq (.reg f6_11) f6_19
def f6_21 : AC := .seq f6_10 f6_20
def f6_22 : AC := .seq f6_5 f6_21
def f6_23 : AC := .seq (.reg f6_0) f6_22
def f6B : AC := f6_23
def f6 : AF := ⟨1, 59, [(.t 2)], f6B⟩
def f7_0 : List AI := [⟨some 4, .mov (.c (.one (.bool false))), none⟩]
def f7_1 : List AI := [⟨some 11, .call (.c (.one (.fn 26 []))) [], none⟩,
    ⟨some 12, .un .not (.t 11), none⟩]
def f7_2 : List AI := [⟨some 4, .mov (.c (.one (.bool false))), none⟩]
def f7_3 : AC := .seq (.reg f7_2) .ret
def f7_4 : AC := .cond (.t 12) f7_3 .skip
def f7_5 : AC := .seq (.reg f7_1) f7_4
def f7_6 : List AI := [⟨some 13, .mov (.t 0), none⟩,
    ⟨some 14, .len .str (.t 13), none⟩,
    ⟨some 15, .bin .gtr (.t 14) (.c (.one (.int .i64 2000))), none⟩,
    ⟨some 16, .mov (.t 15), none⟩,
    ⟨some 17, .mov (.t 1), some (16, false)⟩,
    ⟨some 18, .len .str (.t 17), some (16, false)⟩,
    ⟨some 19, .bin .gtr (.t 18) (.c (.one (.int .i64 2000))), some (16, false)⟩,
    ⟨some 20, .pick (.t 16) (.c (.one (.bool true))) (.t 19), none⟩]
def f7_7 : List AI := [⟨some 4, .mov (.c (.one (.bool true))), none⟩]
def f7_8 : AC := .seq (.reg f7_7) .ret
def f7_9 : AC := .cond (.t 20) f7_8 .skip
def f7_10 : AC := .seq (.reg f7_6) f7_9
def f7_11 : List AI := [⟨some 22, .mov (.t 0), none⟩,
    ⟨some 23, .call (.c (.one (.fn 29 []))) [(.t 22)], none⟩,
    ⟨some 21, .mov (.t 23), none⟩,
    ⟨some 24, .ext (.t 21) 0, none⟩,
    ⟨some 25, .ext (.t 21) 1, none⟩,
    ⟨some 5, .mov (.t 24), none⟩,
    ⟨some 6, .mov (.t 25), none⟩]
def f7_12 : List AI := [⟨some 27, .mov (.t 1), none⟩,
    ⟨some 28, .call (.c (.one (.fn 29 []))) [(.t 27)], none⟩,
    ⟨some 26, .mov (.t 28), none⟩,
    ⟨some 29, .ext (.t 26) 0, none⟩,
    ⟨some 30, .ext (.t 26) 1, none⟩,
    ⟨some 7, .mov (.t 29), none⟩,
    ⟨some 8, .mov (.t 30), none⟩]
def f7_13 : List AI := [⟨some 32, .mov (.t 0), none⟩,
    ⟨some 33, .bin .add (.t 32) (.c (.one (.str [32]))), none⟩,
    ⟨some 34, .mov (.t 1), none⟩,
    ⟨some 35, .bin .add (.t 33) (.t 34), none⟩,
    ⟨some 36, .call (.c (.one (.fn 29 []))) [(.t 35)], none⟩,
    ⟨some 31, .mov (.t 36), none⟩,
    ⟨some 37, .ext (.t 31) 0, none⟩,
    ⟨some 38, .ext (.t 31) 1, none⟩,
    ⟨some 9, .mov (.t 37), none⟩,
    ⟨some 10, .mov (.t 38), none⟩]
def f7_14 : List AI := [⟨some 39, .mov (.t 6), none⟩,
    ⟨some 40, .bin .neq (.t 39) (.c (.one (.int .i64 0))), none⟩,
    ⟨some 41, .mov (.t 40), none⟩,
    ⟨some 42, .mov (.t 8), some (41, false)⟩,
    ⟨some 43, .bin .neq (.t 42) (.c (.one (.int .i64 0))), some (41, false)⟩,
    ⟨some 44, .pick (.t 41) (.c (.one (.bool true))) (.t 43), none⟩]
def f7_15 : List AI := [⟨some 45, .mov (.t 10), none⟩,
    ⟨some 46, .bin .neq (.t 45) (.c (.one (.int .i64 0))), none⟩,
    ⟨some 4, .mov (.t 46), none⟩]
def f7_16 : AC := .seq (.reg f7_15) .ret
def f7_17 : AC := .cond (.t 44) f7_16 .skip
def f7_18 : AC := .seq (.reg f7_14) f7_17
def f7_19 : List AI := [⟨some 47, .mov (.t 10), none⟩,
    ⟨some 48, .bin .eql (.t 47) (.c (.one (.int .i64 0))), none⟩,
    ⟨some 49, .mov (.t 48), none⟩,
    ⟨some 50, .mov (.t 9), some (49, true)⟩,
    ⟨some 51, .rowLit 1 [(.str [])] 0 [], some (49, true)⟩,
    ⟨some 52, .mov (.t 5), some (49, true)⟩,
    ⟨some 53, .app 1 16 (.t 51) (.t 52), some (49, true)⟩,
    ⟨some 54, .mov (.t 7), some (49, true)⟩,
    ⟨some 55, .app 1 16 (.t 53) (.t 54), some (49, true)⟩,
    ⟨some 56, .call (.c (.one (.fn 32 []))) [(.t 50), (.t 55)], some (49, true)⟩,
    ⟨some 57, .pick (.t 49) (.t 56) (.c (.one (.bool false))), none⟩,
    ⟨some 4, .mov (.t 57), none⟩]
def f7_20 : AC := .seq (.reg f7_19) .ret
def f7_21 : AC := .seq f7_18 f7_20
def f7_22 : AC := .seq (.reg f7_13) f7_21
def f7_23 : AC := .seq (.reg f7_12) f7_22
def f7_24 : AC := .seq (.reg f7_11) f7_23
def f7_25 : AC := .seq f7_10 f7_24
def f7_26 : AC := .seq f7_5 f7_25
def f7_27 : AC := .seq (.reg f7_0) f7_26
def f7B : AC := f7_27
def f7 : AF := ⟨2, 58, [(.t 4)], f7B⟩
def f10_0 : List AI := [⟨some 1, .box (.t 0), none⟩,
    ⟨some 2, .mov (.c (.one (.bool false))), none⟩]
def f10_1 : List AI := [⟨some 14, .call (.c (.one (.fn 26 []))) [], none⟩,
    ⟨some 15, .un .not (.t 14), none⟩]
def f10_2 : List AI := [⟨some 2, .mov (.c (.one (.bool false))), none⟩]
def f10_3 : AC := .seq (.reg f10_2) .ret
def f10_4 : AC := .cond (.t 15) f10_3 .skip
def f10_5 : AC := .seq (.reg f10_1) f10_4
def f10_6 : List AI := [⟨some 16, .faddr 0 (.t 1), none⟩,
    ⟨some 17, .load false 1 (.t 16), none⟩,
    ⟨some 18, .faddr 1 (.t 1), none⟩,
    ⟨some 19, .load false 1 (.t 18), none⟩,
    ⟨some 20, .faddr 2 (.t 1), none⟩,
    ⟨some 21, .load false 1 (.t 20), none⟩,
    ⟨some 22, .faddr 3 (.t 1), none⟩,
    ⟨some 23, .load false 1 (.t 22), none⟩,
    ⟨some 3, .mov (.t 17), none⟩,
    ⟨some 4, .mov (.t 19), none⟩,
    ⟨some 5, .mov (.t 21), none⟩,
    ⟨some 6, .mov (.t 23), none⟩]
def f10_7 : List AI := [⟨some 24, .mov (.t 3), none⟩,
    ⟨some 25, .len .str (.t 24), none⟩,
    ⟨some 7, .mov (.t 25), none⟩]
def f10_8 : List AI := [⟨some 26, .mov (.t 5), none⟩,
    ⟨some 27, .len .slc (.t 26), none⟩,
    ⟨some 28, .mov (.c (.one (.int .i64 0))), none⟩]
def f10_9 : List AI := [⟨some 29, .bin .lss (.t 28) (.t 27), none⟩]
def f10_10 : AC := .cond (.t 29) .skip (.exit 0)
def f10_11 : List AI := [⟨some 30, .iaddr 1 (.t 26) (.t 28), none⟩,
    ⟨some 31, .load false 1 (.t 30), none⟩,
    ⟨some 9, .mov (.t 31), none⟩]
def f10_12 : List AI := [⟨some 32, .mov (.t 7), none⟩,
    ⟨some 33, .mov (.t 9), none⟩,
    ⟨some 34, .len .str (.t 33), none⟩,
    ⟨some 35, .best false [(.t 34), (.c (.one (.int .i64 5000)))], none⟩,
    ⟨some 36, .bin .add (.t 32) (.t 35), none⟩,
    ⟨some 7, .mov (.t 36), none⟩]
def f10_13 : AC := .seq (.reg f10_11) (.reg f10_12)
def f10_14 : AC := .block 1 f10_13
def f10_15 : List AI := [⟨some 37, .bin .add (.t 28) (.c (.one (.int .i64 1))), none⟩,
    ⟨some 28, .mov (.t 37), none⟩]
def f10_16 : AC := .seq f10_14 (.reg f10_15)
def f10_17 : AC := .seq f10_10 f10_16
def f10_18 : AC := .seq (.reg f10_9) f10_17
def f10_19 : AC := .loop f10_18
def f10_20 : AC := .block 0 f10_19
def f10_21 : AC := .seq (.reg f10_8) f10_20
def f10_22 : List AI := [⟨some 38, .mov (.t 7), none⟩,
    ⟨some 39, .bin .gtr (.t 38) (.c (.one (.int .i64 4000))), none⟩,
    ⟨some 40, .mov (.t 39), none⟩,
    ⟨some 41, .mov (.t 4), some (40, false)⟩,
    ⟨some 42, .len .slc (.t 41), some (40, false)⟩,
    ⟨some 43, .bin .gtr (.t 42) (.c (.one (.int .i64 500))), some (40, false)⟩,
    ⟨some 44, .pick (.t 40) (.c (.one (.bool true))) (.t 43), none⟩]
def f10_23 : List AI := [⟨some 2, .mov (.c (.one (.bool true))), none⟩]
def f10_24 : AC := .seq (.reg f10_23) .ret
def f10_25 : AC := .cond (.t 44) f10_24 .skip
def f10_26 : AC := .seq (.reg f10_22) f10_25
def f10_27 : List AI := [⟨some 45, .mov (.t 6), none⟩]
def f10_28 : List AI := [⟨some 47, .mov (.t 3), none⟩,
    ⟨some 48, .call (.c (.one (.fn 28 []))) [(.t 47)], none⟩,
    ⟨some 46, .mov (.t 48), none⟩,
    ⟨some 49, .ext (.t 46) 0, none⟩,
    ⟨some 50, .ext (.t 46) 1, none⟩,
    ⟨some 4, .mov (.t 49), none⟩]
def f10_29 : AC := .cond (.t 45) (.reg f10_28) .skip
def f10_30 : AC := .seq (.reg f10_27) f10_29
def f10_31 : List AI := [⟨some 52, .mov (.t 3), none⟩,
    ⟨some 53, .mov (.t 4), none⟩,
    ⟨some 54, .mov (.t 5), none⟩,
    ⟨some 55, .call (.c (.one (.fn 39 []))) [(.t 52), (.t 53), (.t 54)], none⟩,
    ⟨some 51, .mov (.t 55), none⟩,
    ⟨some 56, .ext (.t 51) 0, none⟩,
    ⟨some 57, .ext (.t 51) 1, none⟩,
    ⟨some 10, .mov (.t 56), none⟩,
    ⟨some 11, .mov (.t 57), none⟩]
def f10_32 : List AI := [⟨some 59, .mov (.t 3), none⟩,
    ⟨some 60, .mov (.t 4), none⟩,
    ⟨some 61, .mov (.t 5), none⟩,
    ⟨some 62, .call (.c (.one (.fn 40 []))) [(.t 59), (.t 60), (.t 61)], none⟩,
    ⟨some 58, .mov (.t 62), none⟩,
    ⟨some 63, .ext (.t 58) 0, none⟩,
    ⟨some 64, .ext (.t 58) 1, none⟩,
    ⟨some 12, .mov (.t 63), none⟩,
    ⟨some 13, .mov (.t 64), none⟩]
def f10_33 : List AI := [⟨some 65, .mov (.t 3), none⟩,
    ⟨some 66, .mov (.t 4), none⟩,
    ⟨some 67, .call (.c (.one (.fn 41 []))) [(.t 65), (.t 66)], none⟩,
    ⟨some 68, .mov (.t 3), none⟩,
    ⟨some 69, .mov (.t 4), none⟩,
    ⟨some 70, .call (.c (.one (.fn 42 []))) [(.t 68), (.t 69)], none⟩,
    ⟨some 71, .eqv .bool false (.t 67) (.t 70), none⟩,
    ⟨some 72, .mov (.t 71), none⟩,
    ⟨some 73, .mov (.t 10), some (72, true)⟩,
    ⟨some 74, .mov (.t 12), some (72, true)⟩,
    ⟨some 75, .bin .eql (.t 73) (.t 74), some (72, true)⟩,
    ⟨some 76, .pick (.t 72) (.t 75) (.c (.one (.bool false))), none⟩,
    ⟨some 77, .mov (.t 76), none⟩,
    ⟨some 78, .mov (.t 11), some (77, true)⟩,
    ⟨some 79, .mov (.t 13), some (77, true)⟩,
    ⟨some 80, .bin .eql (.t 78) (.t 79), some (77, true)⟩,
    ⟨some 81, .pick (.t 77) (.t 80) (.c (.one (.bool false))), none⟩,
    ⟨some 2, .mov (.t 81), none⟩]
def f10_34 : AC := .seq (.reg f10_33) .ret
def f10_35 : AC := .seq (.reg f10_32) f10_34
def f10_36 : AC := .seq (.reg f10_31) f10_35
def f10_37 : AC := .seq f10_30 f10_36
def f10_38 : AC := .seq f10_26 f10_37
def f10_39 : AC := .seq f10_21 f10_38
def f10_40 : AC := .seq (.reg f10_7) f10_39
def f10_41 : AC := .seq (.dreg f10_6) f10_40
def f10_42 : AC := .seq f10_5 f10_41
def f10_43 : AC := .seq (.reg f10_0) f10_42
def f10B : AC := f10_43
def f10 : AF := ⟨1, 82, [(.t 2)], f10B⟩
def f11_0 : List AI := [⟨some 2, .mov (.c (.one (.bool false))), none⟩]
def f11_1 : List AI := [⟨some 14, .call (.c (.one (.fn 26 []))) [], none⟩,
    ⟨some 15, .un .not (.t 14), none⟩]
def f11_2 : List AI := [⟨some 2, .mov (.c (.one (.bool false))), none⟩]
def f11_3 : AC := .seq (.reg f11_2) .ret
def f11_4 : AC := .cond (.t 15) f11_3 .skip
def f11_5 : AC := .seq (.reg f11_1) f11_4
def f11_6 : List AI := [⟨some 16, .mov (.t 0), none⟩,
    ⟨some 17, .len .str (.t 16), none⟩,
    ⟨some 18, .bin .gtr (.t 17) (.c (.one (.int .i64 4000))), none⟩]
def f11_7 : List AI := [⟨some 2, .mov (.c (.one (.bool true))), none⟩]
def f11_8 : AC := .seq (.reg f11_7) .ret
def f11_9 : AC := .cond (.t 18) f11_8 .skip
def f11_10 : AC := .seq (.reg f11_6) f11_9
def f11_11 : List AI := [⟨some 20, .mov (.t 0), none⟩,
    ⟨some 21, .call (.c (.one (.fn 27 []))) [(.t 20)], none⟩,
    ⟨some 19, .mov (.t 21), none⟩,
    ⟨some 22, .ext (.t 19) 0, none⟩,
    ⟨some 23, .ext (.t 19) 1, none⟩,
    ⟨some 3, .mov (.t 22), none⟩,
    ⟨some 4, .mov (.t 23), none⟩]
def f11_12 : List AI := [⟨some 24, .mov (.t 4), none⟩,
    ⟨some 25, .bin .neq (.t 24) (.c (.one (.int .i64 0))), none⟩]
def f11_13 : List AI := [⟨some 27, .mov (.t 0), none⟩,
    ⟨some 28, .call (.c (.one (.fn 17 []))) [(.t 27)], none⟩,
    ⟨some 26, .mov (.t 28), none⟩,
    ⟨some 29, .ext (.t 26) 0, none⟩,
    ⟨some 30, .ext (.t 26) 1, none⟩,
    ⟨some 5, .mov (.t 29), none⟩,
    ⟨some 6, .mov (.t 30), none⟩]
def f11_14 : List AI := [⟨some 31, .mov (.t 3), none⟩,
    ⟨some 32, .len .slc (.t 31), none⟩,
    ⟨some 33, .bin .eql (.t 32) (.c (.one (.int .i64 0))), none⟩,
    ⟨some 34, .mov (.t 33), none⟩,
    ⟨some 35, .mov (.t 6), some (34, true)⟩,
    ⟨some 36, .mov (.t 4), some (34, true)⟩,
    ⟨some 37, .bin .eql (.t 35) (.t 36), some (34, true)⟩,
    ⟨some 38, .pick (.t 34) (.t 37) (.c (.one (.bool false))), none⟩,
    ⟨some 2, .mov (.t 38), none⟩]
def f11_15 : AC := .seq (.reg f11_14) .ret
def f11_16 : AC := .seq (.reg f11_13) f11_15
def f11_17 : AC := .cond (.t 25) f11_16 .skip
def f11_18 : AC := .seq (.reg f11_12) f11_17
def f11_19 : List AI := [⟨some 7, .mov (.c (.one (.int .i64 0))), none⟩]
def f11_20 : List AI := [⟨some 39, .mov (.t 3), none⟩,
    ⟨some 40, .len .slc (.t 39), none⟩,
    ⟨some 41, .mov (.c (.one (.int .i64 0))), none⟩]
def f11_21 : List AI := [⟨some 42, .bin .lss (.t 41) (.t 40), none⟩]
def f11_22 : AC := .cond (.t 42) .skip (.exit 0)
def f11_23 : List AI := [⟨some 43, .mov (.t 41), none⟩,
    ⟨some 44, .iaddr 3 (.t 39) (.t 41), none⟩,
    ⟨some 45, .load true 3 (.t 44), none⟩,
    ⟨some 9, .new [(.int .i64 0), (.int .i64 0), (.bool false)], none⟩,
    ⟨some 8, .mov (.t 43), none⟩,
    ⟨none, .store 3 (.t 9) (.t 45), none⟩]
def f11_24 : List AI := [⟨some 46, .faddr 0 (.t 9), none⟩,
    ⟨some 47, .load false 1 (.t 46), none⟩,
    ⟨some 48, .mov (.t 7), none⟩,
    ⟨some 49, .bin .neq (.t 47) (.t 48), none⟩,
    ⟨some 50, .mov (.t 49), none⟩,
    ⟨some 51, .faddr 1 (.t 9), some (50, false)⟩,
    ⟨some 52, .load false 1 (.t 51), some (50, false)⟩,
    ⟨some 53, .faddr 0 (.t 9), some (50, false)⟩,
    ⟨some 54, .load false 1 (.t 53), some (50, false)⟩,
    ⟨some 55, .bin .leq (.t 52) (.t 54), some (50, false)⟩,
    ⟨some 56, .pick (.t 50) (.c (.one (.bool true))) (.t 55), none⟩,
    ⟨some 57, .mov (.t 56), none⟩,
    ⟨some 58, .faddr 1 (.t 9), some (57, false)⟩,
    ⟨some 59, .load false 1 (.t 58), some (57, false)⟩,
    ⟨some 60, .mov (.t 0), some (57, false)⟩,
    ⟨some 61, .len .str (.t 60), some (57, false)⟩,
    ⟨some 62, .bin .gtr (.t 59) (.t 61), some (57, false)⟩,
    ⟨some 63, .pick (.t 57) (.c (.one (.bool true))) (.t 62), none⟩,
    ⟨some 64, .mov (.t 63), none⟩,
    ⟨some 65, .mov (.t 8), some (64, false)⟩,
    ⟨some 66, .bin .gtr (.t 65) (.c (.one (.int .i64 0))), some (64, false)⟩,
    ⟨some 67, .mov (.t 66), some (64, false)⟩,
    ⟨some 68, .mov (.t 3), some (67, true)⟩,
    ⟨some 69, .mov (.t 8), some (67, true)⟩,
    ⟨some 70, .bin .sub (.t 69) (.c (.one (.int .i64 1))), some (67, true)⟩,
    ⟨some 71, .iaddr 3 (.t 68) (.t 70), some (67, true)⟩,
    ⟨some 72, .faddr 2 (.t 71), some (67, true)⟩,
    ⟨some 73, .load false 1 (.t 72), some (67, true)⟩,
    ⟨some 74, .faddr 2 (.t 9), some (67, true)⟩,
    ⟨some 75, .load false 1 (.t 74), some (67, true)⟩,
    ⟨some 76, .eqv .bool false (.t 73) (.t 75), some (67, true)⟩,
    ⟨some 77, .pick (.t 67) (.t 76) (.c (.one (.bool false))), some (64, false)⟩,
    ⟨some 78, .pick (.t 64) (.c (.one (.bool true))) (.t 77), none⟩]
def f11_25 : List AI := [⟨some 2, .mov (.c (.one (.bool false))), none⟩]
def f11_26 : AC := .seq (.reg f11_25) .ret
def f11_27 : AC := .cond (.t 78) f11_26 .skip
def f11_28 : AC := .seq (.dreg f11_24) f11_27
def f11_29 : List AI := [⟨some 80, .mov (.t 0), none⟩,
    ⟨some 81, .faddr 0 (.t 9), none⟩,
    ⟨some 82, .load false 1 (.t 81), none⟩,
    ⟨some 83, .faddr 1 (.t 9), none⟩,
    ⟨some 84, .load false 1 (.t 83), none⟩,
    ⟨some 85, .slice .str 1 (.t 80) (some (.t 82)) (some (.t 84)) none, none⟩,
    ⟨some 86, .call (.c (.one (.fn 17 []))) [(.t 85)], none⟩,
    ⟨some 79, .mov (.t 86), none⟩,
    ⟨some 87, .ext (.t 79) 0, none⟩,
    ⟨some 88, .ext (.t 79) 1, none⟩,
    ⟨some 10, .mov (.t 87), none⟩,
    ⟨some 11, .mov (.t 88), none⟩]
def f11_30 : List AI := [⟨some 89, .mov (.t 11), none⟩,
    ⟨some 90, .bin .neq (.t 89) (.c (.one (.int .i64 0))), none⟩]
def f11_31 : List AI := [⟨some 2, .mov (.c (.one (.bool false))), none⟩]
def f11_32 : AC := .seq (.reg f11_31) .ret
def f11_33 : AC := .cond (.t 90) f11_32 .skip
def f11_34 : AC := .seq (.reg f11_30) f11_33
def f11_35 : List AI := [⟨some 91, .mov (.t 10), none⟩,
    ⟨some 92, .len .slc (.t 91), none⟩,
    ⟨some 93, .mov (.c (.one (.int .i64 0))), none⟩]
def f11_36 : List AI := [⟨some 94, .bin .lss (.t 93) (.t 92), none⟩]
def f11_37 : AC := .cond (.t 94) .skip (.exit 2)
def f11_38 : List AI := [⟨some 95, .iaddr 1 (.t 91) (.t 93), none⟩,
    ⟨some 96, .load false 1 (.t 95), none⟩,
    ⟨some 13, .mov (.t 96), none⟩]
def f11_39 : List AI := [⟨some 97, .mov (.t 13), none⟩,
    ⟨some 98, .call (.c (.one (.fn 35 []))) [(.t 97)], none⟩,
    ⟨some 99, .faddr 2 (.t 9), none⟩,
    ⟨some 100, .load false 1 (.t 99), none⟩,
    ⟨some 101, .eqv .bool true (.t 98) (.t 100), none⟩]
def f11_40 : List AI := [⟨some 2, .mov (.c (.one (.bool false))), none⟩]
def f11_41 : AC := .seq (.reg f11_40) .ret
def f11_42 : AC := .cond (.t 101) f11_41 .skip
def f11_43 : AC := .seq (.dreg f11_39) f11_42
def f11_44 : AC := .seq (.reg f11_38) f11_43
def f11_45 : AC := .block 3 f11_44
def f11_46 : List AI := [⟨some 102, .bin .add (.t 93) (.c (.one (.int .i64 1))), none⟩,
    ⟨some 93, .mov (.t 102), none⟩]
def f11_47 : AC := .seq f11_45 (.reg f11_46)
def f11_48 : AC := .seq f11_37 f11_47
def f11_49 : AC := .seq (.reg f11_36) f11_48
def f11_50 : AC := .loop f11_49
def f11_51 : AC := .block 2 f11_50
def f11_52 : AC := .seq (.reg f11_35) f11_51
def f11_53 : List AI := [⟨some 103, .faddr 1 (.t 9), none⟩,
    ⟨some 104, .load false 1 (.t 103), none⟩,
    ⟨some 7, .mov (.t 104), none⟩]
def f11_54 : AC := .seq f11_52 (.reg f11_53)
def f11_55 : AC := .seq f11_34 f11_54
def f11_56 : AC := .seq (.reg f11_29) f11_55
def f11_57 : AC := .seq f11_28 f11_56
def f11_58 : AC := .seq (.reg f11_23) f11_57
def f11_59 : AC := .block 1 f11_58
def f11_60 : List AI := [⟨some 105, .bin .add (.t 41) (.c (.one (.int .i64 1))), none⟩,
    ⟨some 41, .mov (.t 105), none⟩]
def f11_61 : AC := .seq f11_59 (.reg f11_60)
def f11_62 : AC := .seq f11_22 f11_61
def f11_63 : AC := .seq (.reg f11_21) f11_62
def f11_64 : AC := .loop f11_63
def f11_65 : AC := .block 0 f11_64
def f11_66 : AC := .seq (.reg f11_20) f11_65
def f11_67 : List AI := [⟨some 106, .mov (.t 7), none⟩,
    ⟨some 107, .mov (.t 0), none⟩,
    ⟨some 108, .len .str (.t 107), none⟩,
    ⟨some 109, .bin .eql (.t 106) (.t 108), none⟩,
    ⟨some 110, .mov (.t 109), none⟩,
    ⟨some 111, .mov (.t 0), some (110, true)⟩,
    ⟨some 112, .mov (.t 3), some (110, true)⟩,
    ⟨some 113, .call (.c (.one (.fn 41 []))) [(.t 111), (.t 112)], some (110, true)⟩,
    ⟨some 114, .pick (.t 110) (.t 113) (.c (.one (.bool false))), none⟩,
    ⟨some 2, .mov (.t 114), none⟩]
def f11_68 : AC := .seq (.reg f11_67) .ret
def f11_69 : AC := .seq f11_66 f11_68
def f11_70 : AC := .seq (.reg f11_19) f11_69
def f11_71 : AC := .seq f11_18 f11_70
def f11_72 : AC := .seq (.reg f11_11) f11_71
def f11_73 : AC := .seq f11_10 f11_72
def f11_74 : AC := .seq f11_5 f11_73
def f11_75 : AC := .seq (.reg f11_0) f11_74
def f11B : AC := f11_75
def f11 : AF := ⟨1, 115, [(.t 2)], f11B⟩
def f13_0 : List AI := [⟨some 4, .mov (.c (.one (.bool false))), none⟩]
def f13_1 : List AI := [⟨some 17, .call (.c (.one (.fn 26 []))) [], none⟩,
    ⟨some 18, .un .not (.t 17), none⟩]
def f13_2 : List AI := [⟨some 4, .mov (.c (.one (.bool false))), none⟩]
def f13_3 : AC := .seq (.reg f13_2) .ret
def f13_4 : AC := .cond (.t 18) f13_3 .skip
def f13_5 : AC := .seq (.reg f13_1) f13_4
def f13_6 : List AI := [⟨some 19, .mov (.t 0), none⟩,
    ⟨some 20, .len .str (.t 19), none⟩,
    ⟨some 21, .bin .gtr (.t 20) (.c (.one (.int .i64 500))), none⟩,
    ⟨some 22, .mov (.t 21), none⟩,
    ⟨some 23, .mov (.t 1), some (22, false)⟩,
    ⟨some 24, .len .str (.t 23), some (22, false)⟩,
    ⟨some 25, .bin .gtr (.t 24) (.c (.one (.int .i64 500))), some (22, false)⟩,
    ⟨some 26, .pick (.t 22) (.c (.one (.bool true))) (.t 25), none⟩,
    ⟨some 27, .mov (.t 26), none⟩,
    ⟨some 28, .mov (.t 0), some (27, false)⟩,
    ⟨some 29, .call (.c (.one (.fn 22 []))) [(.t 28)], some (27, false)⟩,
    ⟨some 30, .un .not (.t 29), some (27, false)⟩,
    ⟨some 31, .pick (.t 27) (.c (.one (.bool true))) (.t 30), none⟩]
def f13_7 : List AI := [⟨some 4, .mov (.c (.one (.bool true))), none⟩]
def f13_8 : AC := .seq (.reg f13_7) .ret
def f13_9 : AC := .cond (.t 31) f13_8 .skip
def f13_10 : AC := .seq (.reg f13_6) f13_9
def f13_11 : List AI := [⟨some 33, .mov (.t 0), none⟩,
    ⟨some 34, .call (.c (.one (.fn 29 []))) [(.t 33)], none⟩,
    ⟨some 32, .mov (.t 34), none⟩,
    ⟨some 35, .ext (.t 32) 0, none⟩,
    ⟨some 36, .ext (.t 32) 1, none⟩,
    ⟨some 5, .mov (.t 35), none⟩,
    ⟨some 6, .mov (.t 36), none⟩]
def f13_12 : List AI := [⟨some 38, .mov (.t 0), none⟩,
    ⟨some 39, .bin .add (.t 38) (.c (.one (.str [55]))), none⟩,
    ⟨some 40, .mov (.t 0), none⟩,
    ⟨some 41, .bin .add (.t 39) (.t 40), none⟩,
    ⟨some 42, .call (.c (.one (.fn 29 []))) [(.t 41)], none⟩,
    ⟨some 37, .mov (.t 42), none⟩,
    ⟨some 43, .ext (.t 37) 0, none⟩,
    ⟨some 44, .ext (.t 37) 1, none⟩,
    ⟨some 7, .mov (.t 43), none⟩,
    ⟨some 8, .mov (.t 44), none⟩]
def f13_13 : List AI := [⟨some 45, .mov (.t 6), none⟩,
    ⟨some 46, .bin .neq (.t 45) (.c (.one (.int .i64 0))), none⟩,
    ⟨some 47, .mov (.t 46), none⟩,
    ⟨some 48, .mov (.t 8), some (47, false)⟩,
    ⟨some 49, .bin .neq (.t 48) (.c (.one (.int .i64 0))), some (47, false)⟩,
    ⟨some 50, .pick (.t 47) (.c (.one (.bool true))) (.t 49), none⟩,
    ⟨some 51, .mov (.t 50), none⟩,
    ⟨some 52, .mov (.t 5), some (51, false)⟩,
    ⟨some 53, .mov (.t 0), some (51, false)⟩,
    ⟨some 54, .rowLit 1 [(.str [])] 1 [(0, (.t 53))], some (51, false)⟩,
    ⟨some 55, .call (.c (.one (.fn 32 []))) [(.t 52), (.t 54)], some (51, false)⟩,
    ⟨some 56, .un .not (.t 55), some (51, false)⟩,
    ⟨some 57, .pick (.t 51) (.c (.one (.bool true))) (.t 56), none⟩,
    ⟨some 58, .mov (.t 57), none⟩,
    ⟨some 59, .mov (.t 7), some (58, false)⟩,
    ⟨some 60, .mov (.t 0), some (58, false)⟩,
    ⟨some 61, .mov (.t 0), some (58, false)⟩,
    ⟨some 62, .rowLit 1 [(.str [])] 2 [(0, (.t 60)), (1, (.t 61))], some (58, false)⟩,
    ⟨some 63, .call (.c (.one (.fn 32 []))) [(.t 59), (.t 62)], some (58, false)⟩,
    ⟨some 64, .un .not (.t 63), some (58, false)⟩,
    ⟨some 65, .pick (.t 58) (.c (.one (.bool true))) (.t 64), none⟩]
def f13_14 : List AI := [⟨some 4, .mov (.c (.one (.bool false))), none⟩]
def f13_15 : AC := .seq (.reg f13_14) .ret
def f13_16 : AC := .cond (.t 65) f13_15 .skip
def f13_17 : AC := .seq (.reg f13_13) f13_16
def f13_18 : List AI := [⟨some 67, .mov (.t 1), none⟩,
    ⟨some 68, .call (.c (.one (.fn 17 []))) [(.t 67)], none⟩,
    ⟨some 66, .mov (.t 68), none⟩,
    ⟨some 69, .ext (.t 66) 0, none⟩,
    ⟨some 70, .ext (.t 66) 1, none⟩,
    ⟨some 9, .mov (.t 69), none⟩,
    ⟨some 10, .mov (.t 70), none⟩]
def f13_19 : List AI := [⟨some 71, .mov (.t 9), none⟩,
    ⟨some 72, .len .slc (.t 71), none⟩,
    ⟨some 73, .mov (.c (.one (.int .i64 0))), none⟩]
def f13_20 : List AI := [⟨some 74, .bin .lss (.t 73) (.t 72), none⟩]
def f13_21 : AC := .cond (.t 74) .skip (.exit 0)
def f13_22 : List AI := [⟨some 75, .iaddr 1 (.t 71) (.t 73), none⟩,
    ⟨some 76, .load false 1 (.t 75), none⟩,
    ⟨some 12, .mov (.t 76), none⟩]
def f13_23 : List AI := [⟨some 77, .mov (.t 12), none⟩,
    ⟨some 78, .call (.c (.one (.fn 35 []))) [(.t 77)], none⟩]
def f13_24 : List AI := [⟨some 4, .mov (.c (.one (.bool true))), none⟩]
def f13_25 : AC := .seq (.reg f13_24) .ret
def f13_26 : AC := .cond (.t 78) f13_25 .skip
def f13_27 : AC := .seq (.reg f13_23) f13_26
def f13_28 : AC := .seq (.reg f13_22) f13_27
def f13_29 : AC := .block 1 f13_28
def f13_30 : List AI := [⟨some 79, .bin .add (.t 73) (.c (.one (.int .i64 1))), none⟩,
    ⟨some 73, .mov (.t 79), none⟩]
def f13_31 : AC := .seq f13_29 (.reg f13_30)
def f13_32 : AC := .seq f13_21 f13_31
def f13_33 : AC := .seq (.reg f13_20) f13_32
def f13_34 : AC := .loop f13_33
def f13_35 : AC := .block 0 f13_34
def f13_36 : AC := .seq (.reg f13_19) f13_35
def f13_37 : List AI := [⟨some 81, .mov (.t 1), none⟩,
    ⟨some 82, .call (.c (.one (.fn 29 []))) [(.t 81)], none⟩,
    ⟨some 80, .mov (.t 82), none⟩,
    ⟨some 83, .ext (.t 80) 0, none⟩,
    ⟨some 84, .ext (.t 80) 1, none⟩,
    ⟨some 13, .mov (.t 83), none⟩,
    ⟨some 14, .mov (.t 84), none⟩]
def f13_38 : List AI := [⟨some 86, .mov (.t 1), none⟩,
    ⟨some 87, .mov (.t 0), none⟩,
    ⟨some 88, .bin .add (.t 86) (.t 87), none⟩,
    ⟨some 89, .mov (.t 1), none⟩,
    ⟨some 90, .bin .add (.t 88) (.t 89), none⟩,
    ⟨some 91, .call (.c (.one (.fn 29 []))) [(.t 90)], none⟩,
    ⟨some 85, .mov (.t 91), none⟩,
    ⟨some 92, .ext (.t 85) 0, none⟩,
    ⟨some 93, .ext (.t 85) 1, none⟩,
    ⟨some 15, .mov (.t 92), none⟩,
    ⟨some 16, .mov (.t 93), none⟩]
def f13_39 : List AI := [⟨some 94, .mov (.t 10), none⟩,
    ⟨some 95, .bin .neq (.t 94) (.c (.one (.int .i64 0))), none⟩]
def f13_40 : List AI := [⟨some 96, .mov (.t 14), none⟩,
    ⟨some 97, .mov (.t 10), none⟩,
    ⟨some 98, .bin .eql (.t 96) (.t 97), none⟩,
    ⟨some 99, .mov (.t 98), none⟩,
    ⟨some 100, .mov (.t 16), some (99, true)⟩,
    ⟨some 101, .mov (.t 10), some (99, true)⟩,
    ⟨some 102, .bin .eql (.t 100) (.t 101), some (99, true)⟩,
    ⟨some 103, .pick (.t 99) (.t 102) (.c (.one (.bool false))), none⟩,
    ⟨some 4, .mov (.t 103), none⟩]
def f13_41 : AC := .seq (.reg f13_40) .ret
def f13_42 : AC := .cond (.t 95) f13_41 .skip
def f13_43 : AC := .seq (.reg f13_39) f13_42
def f13_44 : List AI := [⟨some 104, .mov (.t 14), none⟩,
    ⟨some 105, .bin .eql (.t 104) (.c (.one (.int .i64 0))), none⟩,
    ⟨some 106, .mov (.t 105), none⟩,
    ⟨some 107, .mov (.t 13), some (106, true)⟩,
    ⟨some 108, .len .slc (.t 107), some (106, true)⟩,
    ⟨some 109, .bin .eql (.t 108) (.c (.one (.int .i64 0))), some (106, true)⟩,
    ⟨some 110, .pick (.t 106) (.t 109) (.c (.one (.bool false))), none⟩,
    ⟨some 111, .mov (.t 110), none⟩,
    ⟨some 112, .mov (.t 16), some (111, true)⟩,
    ⟨some 113, .bin .eql (.t 112) (.c (.one (.int .i64 0))), some (111, true)⟩,
    ⟨some 114, .pick (.t 111) (.t 113) (.c (.one (.bool false))), none⟩,
    ⟨some 115, .mov (.t 114), none⟩,
    ⟨some 116, .mov (.t 15), some (115, true)⟩,
    ⟨some 117, .mov (.t 0), some (115, true)⟩,
    ⟨some 118, .rowLit 1 [(.str [])] 1 [(0, (.t 117))], some (115, true)⟩,
    ⟨some 119, .call (.c (.one (.fn 32 []))) [(.t 116), (.t 118)], some (115, true)⟩,
    ⟨some 120, .pick (.t 115) (.t 119) (.c (.one (.bool false))), none⟩,
    ⟨some 4, .mov (.t 120), none⟩]
def f13_45 : AC := .seq (.reg f13_44) .ret
def f13_46 : AC := .seq f13_43 f13_45
def f13_47 : AC := .seq (.reg f13_38) f13_46
def f13_48 : AC := .seq (.reg f13_37) f13_47
def f13_49 : AC := .seq f13_36 f13_48
def f13_50 : AC := .seq (.reg f13_18) f13_49
def f13_51 : AC := .seq f13_17 f13_50
def f13_52 : AC := .seq (.reg f13_12) f13_51
def f13_53 : AC := .seq (.reg f13_11) f13_52
def f13_54 : AC := .seq f13_10 f13_53
def f13_55 : AC := .seq f13_5 f13_54
def f13_56 : AC := .seq (.reg f13_0) f13_55
def f13B : AC := f13_56
def f13 : AF := ⟨2, 121, [(.t 4)], f13B⟩
def f14_0 : List AI := [⟨some 4, .mov (.c (.one (.bool false))), none⟩]
def f14_1 : List AI := [⟨some 18, .call (.c (.one (.fn 26 []))) [], none⟩,
    ⟨some 19, .un .not (.t 18), none⟩]
def f14_2 : List AI := [⟨some 4, .mov (.c (.one (.bool false))), none⟩]
def f14_3 : AC := .seq (.reg f14_2) .ret
def f14_4 : AC := .cond (.t 19) f14_3 .skip
def f14_5 : AC := .seq (.reg f14_1) f14_4
def f14_6 : List AI := [⟨some 20, .mov (.t 0), none⟩,
    ⟨some 21, .len .str (.t 20), none⟩,
    ⟨some 22, .bin .gtr (.t 21) (.c (.one (.int .i64 3000))), none⟩,
    ⟨some 23, .mov (.t 22), none⟩,
    ⟨some 24, .mov (.t 1), some (23, false)⟩,
    ⟨some 25, .len .str (.t 24), some (23, false)⟩,
    ⟨some 26, .bin .gtr (.t 25) (.c (.one (.int .i64 50))), some (23, false)⟩,
    ⟨some 27, .pick (.t 23) (.c (.one (.bool true))) (.t 26), none⟩]
def f14_7 : List AI := [⟨some 4, .mov (.c (.one (.bool true))), none⟩]
def f14_8 : AC := .seq (.reg f14_7) .ret
def f14_9 : AC := .cond (.t 27) f14_8 .skip
def f14_10 : AC := .seq (.reg f14_6) f14_9
def f14_11 : List AI := [⟨some 29, .mov (.t 0), none⟩,
    ⟨some 30, .call (.c (.one (.fn 27 []))) [(.t 29)], none⟩,
    ⟨some 28, .mov (.t 30), none⟩,
    ⟨some 31, .ext (.t 28) 0, none⟩,
    ⟨some 32, .ext (.t 28) 1, none⟩,
    ⟨some 5, .mov (.t 31), none⟩,
    ⟨some 6, .mov (.t 32), none⟩]
def f14_12 : List AI := [⟨some 34, .mov (.t 0), none⟩,
    ⟨some 35, .call (.c (.one (.fn 29 []))) [(.t 34)], none⟩,
    ⟨some 33, .mov (.t 35), none⟩,
    ⟨some 36, .ext (.t 33) 0, none⟩,
    ⟨some 37, .ext (.t 33) 1, none⟩,
    ⟨some 7, .mov (.t 36), none⟩,
    ⟨some 8, .mov (.t 37), none⟩]
def f14_13 : List AI := [⟨some 38, .mov (.t 6), none⟩,
    ⟨some 39, .mov (.t 8), none⟩,
    ⟨some 40, .bin .neq (.t 38) (.t 39), none⟩,
    ⟨some 41, .mov (.t 40), none⟩,
    ⟨some 42, .mov (.t 6), some (41, false)⟩,
    ⟨some 43, .bin .neq (.t 42) (.c (.one (.int .i64 0))), some (41, false)⟩,
    ⟨some 44, .pick (.t 41) (.c (.one (.bool true))) (.t 43), none⟩]
def f14_14 : List AI := [⟨some 45, .mov (.t 6), none⟩,
    ⟨some 46, .mov (.t 8), none⟩,
    ⟨some 47, .bin .eql (.t 45) (.t 46), none⟩,
    ⟨some 4, .mov (.t 47), none⟩]
def f14_15 : AC := .seq (.reg f14_14) .ret
def f14_16 : AC := .cond (.t 44) f14_15 .skip
def f14_17 : AC := .seq (.reg f14_13) f14_16
def f14_18 : List AI := [⟨some 49, .mov (.t 0), none⟩,
    ⟨some 50, .mov (.t 5), none⟩,
    ⟨some 51, .mov (.t 7), none⟩,
    ⟨some 52, .call (.c (.one (.fn 39 []))) [(.t 49), (.t 50), (.t 51)], none⟩,
    ⟨some 48, .mov (.t 52), none⟩,
    ⟨some 53, .ext (.t 48) 0, none⟩,
    ⟨some 54, .ext (.t 48) 1, none⟩,
    ⟨some 9, .mov (.t 53), none⟩,
    ⟨some 10, .mov (.t 54), none⟩]
def f14_19 : List AI := [⟨some 55, .mov (.t 9), none⟩,
    ⟨some 56, .mov (.t 0), none⟩,
    ⟨some 57, .bin .neq (.t 55) (.t 56), none⟩,
    ⟨some 58, .mov (.t 57), none⟩,
    ⟨some 59, .mov (.t 10), some (58, false)⟩,
    ⟨some 60, .bin .neq (.t 59) (.c (.one (.int .i64 0))), some (58, false)⟩,
    ⟨some 61, .pick (.t 58) (.c (.one (.bool true))) (.t 60), none⟩]
def f14_20 : List AI := [⟨some 4, .mov (.c (.one (.bool false))), none⟩]
def f14_21 : AC := .seq (.reg f14_20) .ret
def f14_22 : AC := .cond (.t 61) f14_21 .skip
def f14_23 : AC := .seq (.reg f14_19) f14_22
def f14_24 : List AI := [⟨some 62, .mov (.t 1), none⟩,
    ⟨some 63, .call (.c (.one (.fn 22 []))) [(.t 62)], none⟩,
    ⟨some 64, .un .not (.t 63), none⟩]
def f14_25 : List AI := [⟨some 4, .mov (.c (.one (.bool true))), none⟩]
def f14_26 : AC := .seq (.reg f14_25) .ret
def f14_27 : AC := .cond (.t 64) f14_26 .skip
def f14_28 : AC := .seq (.reg f14_24) f14_27
def f14_29 : List AI := [⟨some 65, .mov (.t 7), none⟩,
    ⟨some 66, .len .slc (.t 65), none⟩,
    ⟨some 67, .mov (.c (.one (.int .i64 0))), none⟩]
def f14_30 : List AI := [⟨some 68, .bin .lss (.t 67) (.t 66), none⟩]
def f14_31 : AC := .cond (.t 68) .skip (.exit 0)
def f14_32 : List AI := [⟨some 69, .mov (.t 67), none⟩,
    ⟨some 11, .mov (.t 69), none⟩]
def f14_33 : List AI := [⟨some 70, .mov (.t 7), none⟩,
    ⟨some 71, .mov (.t 11), none⟩,
    ⟨some 72, .mov (.t 1), none⟩,
    ⟨some 73, .iaddr 1 (.t 70) (.t 71), none⟩,
    ⟨none, .store 1 (.t 73) (.t 72), none⟩]
def f14_34 : AC := .seq (.reg f14_32) (.reg f14_33)
def f14_35 : AC := .block 1 f14_34
def f14_36 : List AI := [⟨some 74, .bin .add (.t 67) (.c (.one (.int .i64 1))), none⟩,
    ⟨some 67, .mov (.t 74), none⟩]
def f14_37 : AC := .seq f14_35 (.reg f14_36)
def f14_38 : AC := .seq f14_31 f14_37
def f14_39 : AC := .seq (.reg f14_30) f14_38
def f14_40 : AC := .loop f14_39
def f14_41 : AC := .block 0 f14_40
def f14_42 : AC := .seq (.reg f14_29) f14_41
def f14_43 : List AI := [⟨some 76, .mov (.t 0), none⟩,
    ⟨some 77, .mov (.t 5), none⟩,
    ⟨some 78, .mov (.t 7), none⟩,
    ⟨some 79, .call (.c (.one (.fn 39 []))) [(.t 76), (.t 77), (.t 78)], none⟩,
    ⟨some 75, .mov (.t 79), none⟩,
    ⟨some 80, .ext (.t 75) 0, none⟩,
    ⟨some 81, .ext (.t 75) 1, none⟩,
    ⟨some 12, .mov (.t 80), none⟩,
    ⟨some 13, .mov (.t 81), none⟩]
def f14_44 : List AI := [⟨some 83, .mov (.t 12), none⟩,
    ⟨some 84, .call (.c (.one (.fn 29 []))) [(.t 83)], none⟩,
    ⟨some 82, .mov (.t 84), none⟩,
    ⟨some 85, .ext (.t 82) 0, none⟩,
    ⟨some 86, .ext (.t 82) 1, none⟩,
    ⟨some 14, .mov (.t 85), none⟩,
    ⟨some 15, .mov (.t 86), none⟩]
def f14_45 : List AI := [⟨some 88, .mov (.t 12), none⟩,
    ⟨some 89, .call (.c (.one (.fn 27 []))) [(.t 88)], none⟩,
    ⟨some 87, .mov (.t 89), none⟩,
    ⟨some 90, .ext (.t 87) 0, none⟩,
    ⟨some 91, .ext (.t 87) 1, none⟩,
    ⟨some 16, .mov (.t 90), none⟩,
    ⟨some 17, .mov (.t 91), none⟩]
def f14_46 : List AI := [⟨some 92, .mov (.t 13), none⟩,
    ⟨some 93, .bin .eql (.t 92) (.c (.one (.int .i64 0))), none⟩,
    ⟨some 94, .mov (.t 93), none⟩,
    ⟨some 95, .mov (.t 15), some (94, true)⟩,
    ⟨some 96, .bin .eql (.t 95) (.c (.one (.int .i64 0))), some (94, true)⟩,
    ⟨some 97, .pick (.t 94) (.t 96) (.c (.one (.bool false))), none⟩,
    ⟨some 98, .mov (.t 97), none⟩,
    ⟨some 99, .mov (.t 17), some (98, true)⟩,
    ⟨some 100, .bin .eql (.t 99) (.c (.one (.int .i64 0))), some (98, true)⟩,
    ⟨some 101, .pick (.t 98) (.t 100) (.c (.one (.bool false))), none⟩,
    ⟨some 102, .mov (.t 101), none⟩,
    ⟨some 103, .mov (.t 14), some (102, true)⟩,
    ⟨some 104, .mov (.t 7), some (102, true)⟩,
    ⟨some 105, .call (.c (.one (.fn 32 []))) [(.t 103), (.t 104)], some (102, true)⟩,
    ⟨some 106, .pick (.t 102) (.t 105) (.c (.one (.bool false))), none⟩,
    ⟨some 107, .mov (.t 106), none⟩,
    ⟨some 108, .mov (.t 16), some (107, true)⟩,
    ⟨some 109, .len .slc (.t 108), some (107, true)⟩,
    ⟨some 110, .mov (.t 5), some (107, true)⟩,
    ⟨some 111, .len .slc (.t 110), some (107, true)⟩,
    ⟨some 112, .bin .eql (.t 109) (.t 111), some (107, true)⟩,
    ⟨some 113, .pick (.t 107) (.t 112) (.c (.one (.bool false))), none⟩,
    ⟨some 4, .mov (.t 113), none⟩]
def f14_47 : AC := .seq (.reg f14_46) .ret
def f14_48 : AC := .seq (.reg f14_45) f14_47
def f14_49 : AC := .seq (.reg f14_44) f14_48
def f14_50 : AC := .seq (.reg f14_43) f14_49
def f14_51 : AC := .seq f14_42 f14_50
def f14_52 : AC := .seq f14_28 f14_51
def f14_53 : AC := .seq f14_23 f14_52
def f14_54 : AC := .seq (.reg f14_18) f14_53
def f14_55 : AC := .seq f14_17 f14_54
def f14_56 : AC := .seq (.reg f14_12) f14_55
def f14_57 : AC := .seq (.reg f14_11) f14_56
def f14_58 : AC := .seq f14_10 f14_57
def f14_59 : AC := .seq f14_5 f14_58
def f14_60 : AC := .seq (.reg f14_0) f14_59
def f14B : AC := f14_60
def f14 : AF := ⟨2, 114, [(.t 4)], f14B⟩
def f15_0 : List AI := [⟨some 6, .mov (.c (.one (.bool false))), none⟩]
def f15_1 : List AI := [⟨some 19, .call (.c (.one (.fn 26 []))) [], none⟩,
    ⟨some 20, .un .not (.t 19), none⟩]
def f15_2 : List AI := [⟨some 6, .mov (.c (.one (.bool false))), none⟩]
def f15_3 : AC := .seq (.reg f15_2) .ret
def f15_4 : AC := .cond (.t 20) f15_3 .skip
def f15_5 : AC := .seq (.reg f15_1) f15_4
def f15_6 : List AI := [⟨some 22, .mov (.t 0), none⟩,
    ⟨some 23, .call (.c (.one (.fn 27 []))) [(.t 22)], none⟩,
    ⟨some 21, .mov (.t 23), none⟩,
    ⟨some 24, .ext (.t 21) 0, none⟩,
    ⟨some 25, .ext (.t 21) 1, none⟩,
    ⟨some 7, .mov (.t 24), none⟩,
    ⟨some 8, .mov (.t 25), none⟩]
def f15_7 : List AI := [⟨some 27, .mov (.t 0), none⟩,
    ⟨some 28, .call (.c (.one (.fn 29 []))) [(.t 27)], none⟩,
    ⟨some 26, .mov (.t 28), none⟩,
    ⟨some 29, .ext (.t 26) 0, none⟩,
    ⟨some 30, .ext (.t 26) 1, none⟩,
    ⟨some 9, .mov (.t 29), none⟩,
    ⟨some 10, .mov (.t 30), none⟩]
def f15_8 : List AI := [⟨some 31, .mov (.t 0), none⟩,
    ⟨some 32, .len .str (.t 31), none⟩,
    ⟨some 33, .bin .gtr (.t 32) (.c (.one (.int .i64 2000))), none⟩,
    ⟨some 34, .mov (.t 33), none⟩,
    ⟨some 35, .mov (.t 8), some (34, false)⟩,
    ⟨some 36, .bin .neq (.t 35) (.c (.one (.int .i64 0))), some (34, false)⟩,
    ⟨some 37, .pick (.t 34) (.c (.one (.bool true))) (.t 36), none⟩,
    ⟨some 38, .mov (.t 37), none⟩,
    ⟨some 39, .mov (.t 7), some (38, false)⟩,
    ⟨some 40, .len .slc (.t 39), some (38, false)⟩,
    ⟨some 41, .bin .eql (.t 40) (.c (.one (.int .i64 0))), some (38, false)⟩,
    ⟨some 42, .pick (.t 38) (.c (.one (.bool true))) (.t 41), none⟩]
def f15_9 : List AI := [⟨some 6, .mov (.c (.one (.bool true))), none⟩]
def f15_10 : AC := .seq (.reg f15_9) .ret
def f15_11 : AC := .cond (.t 42) f15_10 .skip
def f15_12 : AC := .seq (.reg f15_8) f15_11
def f15_13 : List AI := [⟨some 43, .rowLit 3 [(.int .i64 0), (.int .i64 0), (.bool false)] 0 [], none⟩,
    ⟨some 44, .mov (.t 7), none⟩,
    ⟨some 45, .app 3 24 (.t 43) (.t 44), none⟩,
    ⟨some 11, .mov (.t 45), none⟩]
def f15_14 : List AI := [⟨some 46, .mov (.t 1), none⟩,
    ⟨some 47, .wrapI .i64 (.t 46), none⟩,
    ⟨some 48, .mov (.t 11), none⟩,
    ⟨some 49, .len .slc (.t 48), none⟩,
    ⟨some 50, .bin .rem (.t 47) (.t 49), none⟩,
    ⟨some 12, .mov (.t 50), none⟩]
def f15_15 : List AI := [⟨some 51, .mov (.t 2), none⟩,
    ⟨some 52, .bin .rem (.t 51) (.c (.one (.int .u8 4))), none⟩]
def f15_16 : List AI := [⟨some 54, .bin .eql (.t 52) (.c (.one (.int .u8 0))), none⟩,
    ⟨some 53, .mov (.t 54), none⟩]
def f15_17 : List AI := [⟨some 55, .mov (.t 11), none⟩,
    ⟨some 56, .mov (.t 12), none⟩,
    ⟨some 57, .iaddr 3 (.t 55) (.t 56), none⟩,
    ⟨some 58, .faddr 1 (.t 57), none⟩,
    ⟨some 59, .load false 1 (.t 58), none⟩,
    ⟨some 60, .bin .add (.t 59) (.c (.one (.int .i64 1))), none⟩,
    ⟨some 61, .iaddr 3 (.t 55) (.t 56), none⟩,
    ⟨some 62, .faddr 1 (.t 61), none⟩,
    ⟨none, .store 1 (.t 62) (.t 60), none⟩]
def f15_18 : List AI := [⟨some 64, .bin .eql (.t 52) (.c (.one (.int .u8 1))), none⟩,
    ⟨some 63, .mov (.t 64), none⟩]
def f15_19 : List AI := [⟨some 65, .mov (.t 11), none⟩,
    ⟨some 66, .mov (.t 12), none⟩,
    ⟨some 67, .iaddr 3 (.t 65) (.t 66), none⟩,
    ⟨some 68, .faddr 0 (.t 67), none⟩,
    ⟨some 69, .load false 1 (.t 68), none⟩,
    ⟨some 70, .bin .sub (.t 69) (.c (.one (.int .i64 1))), none⟩,
    ⟨some 71, .iaddr 3 (.t 65) (.t 66), none⟩,
    ⟨some 72, .faddr 0 (.t 71), none⟩,
    ⟨none, .store 1 (.t 72) (.t 70), none⟩]
def f15_20 : List AI := [⟨some 74, .bin .eql (.t 52) (.c (.one (.int .u8 2))), none⟩,
    ⟨some 73, .mov (.t 74), none⟩]
def f15_21 : List AI := [⟨some 75, .mov (.t 11), none⟩,
    ⟨some 76, .mov (.t 12), none⟩,
    ⟨some 77, .mov (.t 11), none⟩,
    ⟨some 78, .mov (.t 12), none⟩,
    ⟨some 79, .iaddr 3 (.t 77) (.t 78), none⟩,
    ⟨some 80, .faddr 2 (.t 79), none⟩,
    ⟨some 81, .load false 1 (.t 80), none⟩,
    ⟨some 82, .un .not (.t 81), none⟩,
    ⟨some 83, .iaddr 3 (.t 75) (.t 76), none⟩,
    ⟨some 84, .faddr 2 (.t 83), none⟩,
    ⟨none, .store 1 (.t 84) (.t 82), none⟩]
def f15_22 : List AI := [⟨some 86, .bin .eql (.t 52) (.c (.one (.int .u8 3))), none⟩,
    ⟨some 85, .mov (.t 86), none⟩]
def f15_23 : List AI := [⟨some 87, .mov (.t 11), none⟩,
    ⟨some 88, .mov (.t 12), none⟩,
    ⟨some 89, .slice .slc 3 (.t 87) none (some (.t 88)) none, none⟩,
    ⟨some 90, .mov (.t 11), none⟩,
    ⟨some 91, .mov (.t 12), none⟩,
    ⟨some 92, .bin .add (.t 91) (.c (.one (.int .i64 1))), none⟩,
    ⟨some 93, .slice .slc 3 (.t 90) (some (.t 92)) none none, none⟩,
    ⟨some 94, .app 3 24 (.t 89) (.t 93), none⟩,
    ⟨some 11, .mov (.t 94), none⟩]
def f15_24 : AC := .cond (.t 85) (.dreg f15_23) .skip
def f15_25 : AC := .seq (.reg f15_22) f15_24
def f15_26 : AC := .cond (.t 73) (.reg f15_21) f15_25
def f15_27 : AC := .seq (.reg f15_20) f15_26
def f15_28 : AC := .cond (.t 63) (.reg f15_19) f15_27
def f15_29 : AC := .seq (.reg f15_18) f15_28
def f15_30 : AC := .cond (.t 53) (.reg f15_17) f15_29
def f15_31 : AC := .seq (.reg f15_16) f15_30
def f15_32 : AC := .block 0 f15_31
def f15_33 : AC := .seq (.reg f15_15) f15_32
def f15_34 : List AI := [⟨some 96, .mov (.t 0), none⟩,
    ⟨some 97, .mov (.t 11), none⟩,
    ⟨some 98, .mov (.t 9), none⟩,
    ⟨some 99, .call (.c (.one (.fn 39 []))) [(.t 96), (.t 97), (.t 98)], none⟩,
    ⟨some 95, .mov (.t 99), none⟩,
    ⟨some 100, .ext (.t 95) 0, none⟩,
    ⟨some 101, .ext (.t 95) 1, none⟩,
    ⟨some 13, .mov (.t 100), none⟩,
    ⟨some 14, .mov (.t 101), none⟩]
def f15_35 : List AI := [⟨some 103, .mov (.t 0), none⟩,
    ⟨some 104, .mov (.t 7), none⟩,
    ⟨some 105, .rowLit 1 [(.str [])] 0 [], none⟩,
    ⟨some 106, .mov (.t 9), none⟩,
    ⟨some 107, .app 1 16 (.t 105) (.t 106), none⟩,
    ⟨some 108, .rowLit 1 [(.str [])] 1 [(0, (.c (.one (.str [120]))))], none⟩,
    ⟨some 109, .app 1 16 (.t 107) (.t 108), none⟩,
    ⟨some 110, .call (.c (.one (.fn 39 []))) [(.t 103), (.t 104), (.t 109)], none⟩,
    ⟨some 102, .mov (.t 110), none⟩,
    ⟨some 111, .ext (.t 102) 0, none⟩,
    ⟨some 112, .ext (.t 102) 1, none⟩,
    ⟨some 15, .mov (.t 111), none⟩,
    ⟨some 16, .mov (.t 112), none⟩]
def f15_36 : List AI := [⟨some 114, .call (.c (.one (.fn 44 []))) [(.c (.one (.str [120]))), (.c (.one (.int .i64 3)))], none⟩,
    ⟨some 115, .bin .add (.t 114) (.c (.one (.str [255]))), none⟩,
    ⟨some 116, .mov (.t 7), none⟩,
    ⟨some 117, .mov (.t 9), none⟩,
    ⟨some 118, .call (.c (.one (.fn 39 []))) [(.t 115), (.t 116), (.t 117)], none⟩,
    ⟨some 113, .mov (.t 118), none⟩,
    ⟨some 119, .ext (.t 113) 0, none⟩,
    ⟨some 120, .ext (.t 113) 1, none⟩,
    ⟨some 17, .mov (.t 119), none⟩,
    ⟨some 18, .mov (.t 120), none⟩]
def f15_37 : List AI := [⟨some 121, .mov (.t 0), none⟩,
    ⟨some 122, .mov (.t 11), none⟩,
    ⟨some 123, .call (.c (.one (.fn 41 []))) [(.t 121), (.t 122)], none⟩,
    ⟨some 124, .un .not (.t 123), none⟩,
    ⟨some 125, .mov (.t 124), none⟩,
    ⟨some 126, .mov (.t 13), some (125, true)⟩,
    ⟨some 127, .bin .eql (.t 126) (.c (.one (.str []))), some (125, true)⟩,
    ⟨some 128, .pick (.t 125) (.t 127) (.c (.one (.bool false))), none⟩,
    ⟨some 129, .mov (.t 128), none⟩,
    ⟨some 130, .mov (.t 14), some (129, true)⟩,
    ⟨some 131, .bin .eql (.t 130) (.c (.one (.int .i64 7))), some (129, true)⟩,
    ⟨some 132, .pick (.t 129) (.t 131) (.c (.one (.bool false))), none⟩,
    ⟨some 133, .mov (.t 132), none⟩,
    ⟨some 134, .mov (.t 15), some (133, true)⟩,
    ⟨some 135, .bin .eql (.t 134) (.c (.one (.str []))), some (133, true)⟩,
    ⟨some 136, .pick (.t 133) (.t 135) (.c (.one (.bool false))), none⟩,
    ⟨some 137, .mov (.t 136), none⟩,
    ⟨some 138, .mov (.t 16), some (137, true)⟩,
    ⟨some 139, .bin .eql (.t 138) (.c (.one (.int .i64 2))), some (137, true)⟩,
    ⟨some 140, .pick (.t 137) (.t 139) (.c (.one (.bool false))), none⟩,
    ⟨some 141, .mov (.t 140), none⟩,
    ⟨some 142, .mov (.t 17), some (141, true)⟩,
    ⟨some 143, .bin .eql (.t 142) (.c (.one (.str []))), some (141, true)⟩,
    ⟨some 144, .pick (.t 141) (.t 143) (.c (.one (.bool false))), none⟩,
    ⟨some 145, .mov (.t 144), none⟩,
    ⟨some 146, .mov (.t 18), some (145, true)⟩,
    ⟨some 147, .bin .eql (.t 146) (.c (.one (.int .i64 7))), some (145, true)⟩,
    ⟨some 148, .pick (.t 145) (.t 147) (.c (.one (.bool false))), none⟩,
    ⟨some 6, .mov (.t 148), none⟩]
def f15_38 : AC := .seq (.reg f15_37) .ret
def f15_39 : AC := .seq (.reg f15_36) f15_38
def f15_40 : AC := .seq (.reg f15_35) f15_39
def f15_41 : AC := .seq (.reg f15_34) f15_40
def f15_42 : AC := .seq f15_33 f15_41
def f15_43 : AC := .seq (.reg f15_14) f15_42
def f15_44 : AC := .seq (.reg f15_13) f15_43
def f15_45 : AC := .seq f15_12 f15_44
def f15_46 : AC := .seq (.reg f15_7) f15_45
def f15_47 : AC := .seq (.reg f15_6) f15_46
def f15_48 : AC := .seq f15_5 f15_47
def f15_49 : AC := .seq (.reg f15_0) f15_48
def f15B : AC := f15_49
def f15 : AF := ⟨3, 149, [(.t 6)], f15B⟩
def f26_0 : List AI := [⟨some 0, .mov (.c (.one (.bool false))), none⟩]
def f26_1 : List AI := [⟨some 4, .call (.c (.one (.fn 27 []))) [(.c (.one (.str [97, 98, 32, 49, 99])))], none⟩,
    ⟨some 3, .mov (.t 4), none⟩,
    ⟨some 5, .ext (.t 3) 0, none⟩,
    ⟨some 6, .ext (.t 3) 1, none⟩,
    ⟨some 1, .mov (.t 5), none⟩,
    ⟨some 2, .mov (.t 6), none⟩]
def f26_2 : List AI := [⟨some 7, .mov (.t 1), none⟩,
    ⟨some 8, .len .slc (.t 7), none⟩,
    ⟨some 9, .bin .eql (.t 8) (.c (.one (.int .i64 3))), none⟩,
    ⟨some 10, .mov (.t 9), none⟩,
    ⟨some 11, .mov (.t 1), some (10, true)⟩,
    ⟨some 12, .iaddr 3 (.t 11) (.c (.one (.int .i64 0))), some (10, true)⟩,
    ⟨some 13, .load true 3 (.t 12), some (10, true)⟩,
    ⟨some 14, .build [(.int .i64 0), (.int .i64 0), (.bool false)] [(0, (1, (.c (.one (.int .i64 0))))), (1, (1, (.c (.one (.int .i64 2))))), (2, (1, (.c (.one (.bool true)))))], some (10, true)⟩,
    ⟨some 15, .eqv (.cells [(.int .i64), (.int .i64), .bool]) false (.t 13) (.t 14), some (10, true)⟩,
    ⟨some 16, .pick (.t 10) (.t 15) (.c (.one (.bool false))), none⟩,
    ⟨some 17, .mov (.t 16), none⟩,
    ⟨some 18, .mov (.t 1), some (17, true)⟩,
    ⟨some 19, .iaddr 3 (.t 18) (.c (.one (.int .i64 1))), some (17, true)⟩,
    ⟨some 20, .faddr 1 (.t 19), some (17, true)⟩,
    ⟨some 21, .load false 1 (.t 20), some (17, true)⟩,
    ⟨some 22, .bin .eql (.t 21) (.c (.one (.int .i64 4))), some (17, true)⟩,
    ⟨some 23, .pick (.t 17) (.t 22) (.c (.one (.bool false))), none⟩,
    ⟨some 24, .mov (.t 23), none⟩,
    ⟨some 25, .mov (.t 1), some (24, true)⟩,
    ⟨some 26, .iaddr 3 (.t 25) (.c (.one (.int .i64 2))), some (24, true)⟩,
    ⟨some 27, .faddr 2 (.t 26), some (24, true)⟩,
    ⟨some 28, .load false 1 (.t 27), some (24, true)⟩,
    ⟨some 29, .pick (.t 24) (.t 28) (.c (.one (.bool false))), none⟩,
    ⟨some 30, .mov (.t 29), none⟩,
    ⟨some 31, .mov (.t 2), some (30, true)⟩,
    ⟨some 32, .bin .eql (.t 31) (.c (.one (.int .i64 0))), some (30, true)⟩,
    ⟨some 33, .pick (.t 30) (.t 32) (.c (.one (.bool false))), none⟩,
    ⟨some 0, .mov (.t 33), none⟩]
def f26_3 : AC := .seq (.reg f26_2) .ret
def f26_4 : AC := .seq (.reg f26_1) f26_3
def f26_5 : AC := .seq (.reg f26_0) f26_4
def f26B : AC := f26_5
def f26 : AF := ⟨0, 34, [(.t 0)], f26B⟩
def f27_0 : List AI := [⟨some 2, .mov (.c (.one .nils)), none⟩,
    ⟨some 3, .mov (.c (.one (.int .i64 0))), none⟩]
def f27_1 : List AI := [⟨some 8, .mov (.t 0), none⟩,
    ⟨some 9, .len .str (.t 8), none⟩,
    ⟨some 10, .bin .gtr (.t 9) (.c (.one (.int .i64 1048576))), none⟩,
    ⟨some 7, .mov (.t 10), none⟩]
def f27_2 : List AI := [⟨some 2, .mov (.c (.one .nils)), none⟩,
    ⟨some 3, .mov (.c (.one (.int .i64 5))), none⟩]
def f27_3 : AC := .seq (.reg f27_2) .ret
def f27_4 : List AI := [⟨some 12, .mov (.t 0), none⟩,
    ⟨some 13, .call (.c (.one (.fn 38 []))) [(.t 12)], none⟩,
    ⟨some 14, .un .not (.t 13), none⟩,
    ⟨some 11, .mov (.t 14), none⟩]
def f27_5 : List AI := [⟨some 2, .mov (.c (.one .nils)), none⟩,
    ⟨some 3, .mov (.c (.one (.int .i64 3))), none⟩]
def f27_6 : AC := .seq (.reg f27_5) .ret
def f27_7 : AC := .cond (.t 11) f27_6 .skip
def f27_8 : AC := .seq (.reg f27_4) f27_7
def f27_9 : AC := .cond (.t 7) f27_3 f27_8
def f27_10 : AC := .seq (.reg f27_1) f27_9
def f27_11 : AC := .block 0 f27_10
def f27_12 : List AI := [⟨some 4, .mov (.c (.one (.bool true))), none⟩]
def f27_13 : List AI := [⟨some 5, .mov (.c (.one (.int .i64 0))), none⟩]
def f27_14 : List AI := [⟨some 15, .mov (.t 5), none⟩,
    ⟨some 16, .mov (.t 0), none⟩,
    ⟨some 17, .len .str (.t 16), none⟩,
    ⟨some 18, .bin .lss (.t 15) (.t 17), none⟩]
def f27_15 : AC := .cond (.t 18) .skip (.exit 1)
def f27_16 : AC := .seq (.reg f27_14) f27_15
def f27_17 : List AI := [⟨some 21, .mov (.t 0), none⟩,
    ⟨some 22, .mov (.t 5), none⟩,
    ⟨some 23, .slice .str 1 (.t 21) (some (.t 22)) none none, none⟩,
    ⟨some 24, .mov (.t 4), none⟩,
    ⟨some 25, .call (.c (.one (.fn 50 []))) [(.t 23), (.t 24)], none⟩,
    ⟨some 6, .mov (.t 25), none⟩]
def f27_18 : List AI := [⟨some 26, .mov (.t 6), none⟩,
    ⟨some 27, .bin .gtr (.t 26) (.c (.one (.int .i64 0))), none⟩]
def f27_19 : List AI := [⟨some 28, .mov (.t 2), none⟩,
    ⟨some 29, .mov (.t 5), none⟩,
    ⟨some 30, .mov (.t 5), none⟩,
    ⟨some 31, .mov (.t 6), none⟩,
    ⟨some 32, .bin .add (.t 30) (.t 31), none⟩,
    ⟨some 33, .mov (.t 4), none⟩,
    ⟨some 34, .build [(.int .i64 0), (.int .i64 0), (.bool false)] [(0, (1, (.t 29))), (1, (1, (.t 32))), (2, (1, (.t 33)))], none⟩,
    ⟨some 35, .rowLit 3 [(.int .i64 0), (.int .i64 0), (.bool false)] 1 [(0, (.t 34))], none⟩,
    ⟨some 36, .app 3 24 (.t 28) (.t 35), none⟩,
    ⟨some 2, .mov (.t 36), none⟩]
def f27_20 : List AI := [⟨some 37, .mov (.t 5), none⟩,
    ⟨some 38, .mov (.t 6), none⟩,
    ⟨some 39, .bin .add (.t 37) (.t 38), none⟩,
    ⟨some 5, .mov (.t 39), none⟩]
def f27_21 : AC := .seq (.reg f27_19) (.reg f27_20)
def f27_22 : AC := .cond (.t 27) f27_21 .skip
def f27_23 : AC := .seq (.reg f27_18) f27_22
def f27_24 : AC := .seq (.reg f27_17) f27_23
def f27_25 : AC := .block 2 f27_24
def f27_26 : List AI := [⟨some 19, .mov (.t 4), none⟩,
    ⟨some 20, .un .not (.t 19), none⟩,
    ⟨some 4, .mov (.t 20), none⟩]
def f27_27 : AC := .seq f27_25 (.reg f27_26)
def f27_28 : AC := .seq f27_16 f27_27
def f27_29 : AC := .loop f27_28
def f27_30 : AC := .block 1 f27_29
def f27_31 : AC := .seq (.reg f27_13) f27_30
def f27_32 : List AI := [⟨some 40, .mov (.t 2), none⟩,
    ⟨some 2, .mov (.t 40), none⟩,
    ⟨some 3, .mov (.c (.one (.int .i64 0))), none⟩]
def f27_33 : AC := .seq (.reg f27_32) .ret
def f27_34 : AC := .seq f27_31 f27_33
def f27_35 : AC := .seq (.reg f27_12) f27_34
def f27_36 : AC := .seq f27_11 f27_35
def f27_37 : AC := .seq (.reg f27_0) f27_36
def f27B : AC := f27_37
def f27 : AF := ⟨1, 41, [(.t 2), (.t 3)], f27B⟩
def f28_0 : List AI := [⟨some 2, .mov (.c (.one .nils)), none⟩,
    ⟨some 3, .mov (.c (.one (.int .i64 0))), none⟩]
def f28_1 : List AI := [⟨some 12, .mov (.t 0), none⟩,
    ⟨some 13, .len .str (.t 12), none⟩,
    ⟨some 14, .bin .gtr (.t 13) (.c (.one (.int .i64 1048576))), none⟩]
def f28_2 : List AI := [⟨some 2, .mov (.c (.one .nils)), none⟩,
    ⟨some 3, .mov (.c (.one (.int .i64 5))), none⟩]
def f28_3 : AC := .seq (.reg f28_2) .ret
def f28_4 : AC := .cond (.t 14) f28_3 .skip
def f28_5 : AC := .seq (.reg f28_1) f28_4
def f28_6 : List AI := [⟨some 16, .mov (.t 0), none⟩,
    ⟨some 17, .call (.c (.one (.fn 19 []))) [(.t 16)], none⟩,
    ⟨some 15, .mov (.t 17), none⟩,
    ⟨some 18, .ext (.t 15) 0, none⟩,
    ⟨some 19, .ext (.t 15) 1, none⟩,
    ⟨some 4, .mov (.t 18), none⟩,
    ⟨some 5, .mov (.t 19), none⟩]
def f28_7 : List AI := [⟨some 20, .mov (.t 5), none⟩,
    ⟨some 21, .bin .neq (.t 20) (.c (.one (.int .i64 0))), none⟩]
def f28_8 : List AI := [⟨some 22, .mov (.t 5), none⟩,
    ⟨some 2, .mov (.c (.one .nils)), none⟩,
    ⟨some 3, .mov (.t 22), none⟩]
def f28_9 : AC := .seq (.reg f28_8) .ret
def f28_10 : AC := .cond (.t 21) f28_9 .skip
def f28_11 : AC := .seq (.reg f28_7) f28_10
def f28_12 : List AI := [⟨some 6, .mov (.c (.one .nils)), none⟩]
def f28_13 : List AI := [⟨some 7, .mov (.c (.one (.int .i64 0))), none⟩]
def f28_14 : List AI := [⟨some 23, .mov (.t 4), none⟩,
    ⟨some 24, .len .slc (.t 23), none⟩,
    ⟨some 25, .mov (.c (.one (.int .i64 0))), none⟩]
def f28_15 : List AI := [⟨some 26, .bin .lss (.t 25) (.t 24), none⟩]
def f28_16 : AC := .cond (.t 26) .skip (.exit 0)
def f28_17 : List AI := [⟨some 27, .iaddr 1 (.t 23) (.t 25), none⟩,
    ⟨some 28, .load false 1 (.t 27), none⟩,
    ⟨some 9, .mov (.t 28), none⟩]
def f28_18 : List AI := [⟨some 29, .mov (.t 9), none⟩,
    ⟨some 30, .rowLit 1 [(.int .i32 0)] 1 [(0, (.t 29))], none⟩,
    ⟨some 31, .call (.c (.one (.fn 51 []))) [(.t 30)], none⟩,
    ⟨some 32, .len .str (.t 31), none⟩,
    ⟨some 10, .mov (.t 32), none⟩]
def f28_19 : List AI := [⟨some 33, .mov (.t 9), none⟩,
    ⟨some 34, .call (.c (.one (.fn 36 []))) [(.t 33)], none⟩,
    ⟨some 11, .mov (.t 34), none⟩]
def f28_20 : List AI := [⟨some 35, .mov (.t 6), none⟩,
    ⟨some 36, .len .slc (.t 35), none⟩,
    ⟨some 37, .bin .gtr (.t 36) (.c (.one (.int .i64 0))), none⟩,
    ⟨some 38, .mov (.t 37), none⟩,
    ⟨some 39, .mov (.t 6), some (38, true)⟩,
    ⟨some 40, .mov (.t 6), some (38, true)⟩,
    ⟨some 41, .len .slc (.t 40), some (38, true)⟩,
    ⟨some 42, .bin .sub (.t 41) (.c (.one (.int .i64 1))), some (38, true)⟩,
    ⟨some 43, .iaddr 3 (.t 39) (.t 42), some (38, true)⟩,
    ⟨some 44, .faddr 2 (.t 43), some (38, true)⟩,
    ⟨some 45, .load false 1 (.t 44), some (38, true)⟩,
    ⟨some 46, .mov (.t 11), some (38, true)⟩,
    ⟨some 47, .eqv .bool false (.t 45) (.t 46), some (38, true)⟩,
    ⟨some 48, .pick (.t 38) (.t 47) (.c (.one (.bool false))), none⟩]
def f28_21 : List AI := [⟨some 49, .mov (.t 6), none⟩,
    ⟨some 50, .mov (.t 6), none⟩,
    ⟨some 51, .len .slc (.t 50), none⟩,
    ⟨some 52, .bin .sub (.t 51) (.c (.one (.int .i64 1))), none⟩,
    ⟨some 53, .mov (.t 7), none⟩,
    ⟨some 54, .mov (.t 10), none⟩,
    ⟨some 55, .bin .add (.t 53) (.t 54), none⟩,
    ⟨some 56, .iaddr 3 (.t 49) (.t 52), none⟩,
    ⟨some 57, .faddr 1 (.t 56), none⟩,
    ⟨none, .store 1 (.t 57) (.t 55), none⟩]
def f28_22 : List AI := [⟨some 58, .mov (.t 6), none⟩,
    ⟨some 59, .mov (.t 7), none⟩,
    ⟨some 60, .mov (.t 7), none⟩,
    ⟨some 61, .mov (.t 10), none⟩,
    ⟨some 62, .bin .add (.t 60) (.t 61), none⟩,
    ⟨some 63, .mov (.t 11), none⟩,
    ⟨some 64, .build [(.int .i64 0), (.int .i64 0), (.bool false)] [(0, (1, (.t 59))), (1, (1, (.t 62))), (2, (1, (.t 63)))], none⟩,
    ⟨some 65, .rowLit 3 [(.int .i64 0), (.int .i64 0), (.bool false)] 1 [(0, (.t 64))], none⟩,
    ⟨some 66, .app 3 24 (.t 58) (.t 65), none⟩,
    ⟨some 6, .mov (.t 66), none⟩]
def f28_23 : AC := .cond (.t 48) (.reg f28_21) (.reg f28_22)
def f28_24 : AC := .seq (.reg f28_20) f28_23
def f28_25 : List AI := [⟨some 67, .mov (.t 7), none⟩,
    ⟨some 68, .mov (.t 10), none⟩,
    ⟨some 69, .bin .add (.t 67) (.t 68), none⟩,
    ⟨some 7, .mov (.t 69), none⟩]
def f28_26 : AC := .seq f28_24 (.reg f28_25)
def f28_27 : AC := .seq (.reg f28_19) f28_26
def f28_28 : AC := .seq (.reg f28_18) f28_27
def f28_29 : AC := .seq (.reg f28_17) f28_28
def f28_30 : AC := .block 1 f28_29
def f28_31 : List AI := [⟨some 70, .bin .add (.t 25) (.c (.one (.int .i64 1))), none⟩,
    ⟨some 25, .mov (.t 70), none⟩]
def f28_32 : AC := .seq f28_30 (.reg f28_31)
def f28_33 : AC := .seq f28_16 f28_32
def f28_34 : AC := .seq (.reg f28_15) f28_33
def f28_35 : AC := .loop f28_34
def f28_36 : AC := .block 0 f28_35
def f28_37 : AC := .seq (.reg f28_14) f28_36
def f28_38 : List AI := [⟨some 71, .mov (.t 6), none⟩,
    ⟨some 2, .mov (.t 71), none⟩,
    ⟨some 3, .mov (.c (.one (.int .i64 0))), none⟩]
def f28_39 : AC := .seq (.reg f28_38) .ret
def f28_40 : AC := .seq f28_37 f28_39
def f28_41 : AC := .seq (.reg f28_13) f28_40
def f28_42 : AC := .seq (.reg f28_12) f28_41
def f28_43 : AC := .seq f28_11 f28_42
def f28_44 : AC := .seq (.reg f28_6) f28_43
def f28_45 : AC := .seq f28_5 f28_44
def f28_46 : AC := .seq (.reg f28_0) f28_45
def f28B : AC := f28_46
def f28 : AF := ⟨1, 72, [(.t 2), (.t 3)], f28B⟩
def f29_0 : List AI := [⟨some 1, .box (.t 0), none⟩,
    ⟨some 2, .new [.nils], none⟩,
    ⟨some 3, .mov (.c (.one (.int .i64 0))), none⟩]
def f29_1 : List AI := [⟨some 8, .load false 1 (.t 1), none⟩,
    ⟨some 9, .call (.c (.one (.fn 27 []))) [(.t 8)], none⟩,
    ⟨some 7, .mov (.t 9), none⟩,
    ⟨some 10, .ext (.t 7) 0, none⟩,
    ⟨some 11, .ext (.t 7) 1, none⟩,
    ⟨some 4, .mov (.t 10), none⟩,
    ⟨some 3, .mov (.t 11), none⟩]
def f29_2 : List AI := [⟨some 12, .mov (.t 4), none⟩,
    ⟨some 13, .call (.c (.one (.fn 52 []))) [(.t 12)], none⟩]
def f29_3 : List AI := [⟨some 6, .new [(.int .i64 0), (.int .i64 0), (.bool false)], none⟩,
    ⟨none, .store 3 (.t 6) (.t 15), none⟩]
def f29_4 : List AI := [⟨some 16, .load false 1 (.t 2), none⟩,
    ⟨some 17, .load false 1 (.t 1), none⟩,
    ⟨some 18, .faddr 0 (.t 6), none⟩,
    ⟨some 19, .load false 1 (.t 18), none⟩,
    ⟨some 20, .faddr 1 (.t 6), none⟩,
    ⟨some 21, .load false 1 (.t 20), none⟩,
    ⟨some 22, .slice .str 1 (.t 17) (some (.t 19)) (some (.t 21)) none, none⟩,
    ⟨some 23, .rowLit 1 [(.str [])] 1 [(0, (.t 22))], none⟩,
    ⟨some 24, .app 1 16 (.t 16) (.t 23), none⟩,
    ⟨none, .store 1 (.t 2) (.t 24), none⟩]
def f29_5 : AC := .block 1 (.dreg f29_4)
def f29_6 : AC := .rangeF (.t 13) [14, 15] (.reg f29_3) f29_5
def f29_7 : AC := .block 0 f29_6
def f29_8 : AC := .seq (.reg f29_2) f29_7
def f29_9 : List AI := [⟨some 25, .load false 1 (.t 2), none⟩,
    ⟨some 26, .mov (.t 3), none⟩,
    ⟨none, .store 1 (.t 2) (.t 25), none⟩,
    ⟨some 3, .mov (.t 26), none⟩]
def f29_10 : AC := .seq (.reg f29_9) .ret
def f29_11 : AC := .seq f29_8 f29_10
def f29_12 : AC := .seq (.reg f29_1) f29_11
def f29_13 : AC := .seq (.reg f29_0) f29_12
def f29B : AC := f29_13
def f29 : AF := ⟨1, 27, [(.cell 2 false 1), (.t 3)], f29B⟩
def f30_0 : List AI := [⟨some 2, .mov (.c (.one .nils)), none⟩,
    ⟨some 3, .mov (.c (.one (.int .i64 0))), none⟩]
def f30_1 : List AI := [⟨some 10, .mov (.t 0), none⟩,
    ⟨some 11, .call (.c (.one (.fn 28 []))) [(.t 10)], none⟩,
    ⟨some 9, .mov (.t 11), none⟩,
    ⟨some 12, .ext (.t 9) 0, none⟩,
    ⟨some 13, .ext (.t 9) 1, none⟩,
    ⟨some 4, .mov (.t 12), none⟩,
    ⟨some 5, .mov (.t 13), none⟩]
def f30_2 : List AI := [⟨some 6, .mov (.c (.one .nils)), none⟩]
def f30_3 : List AI := [⟨some 14, .mov (.t 4), none⟩,
    ⟨some 15, .len .slc (.t 14), none⟩,
    ⟨some 16, .mov (.c (.one (.int .i64 0))), none⟩]
def f30_4 : List AI := [⟨some 17, .bin .lss (.t 16) (.t 15), none⟩]
def f30_5 : AC := .cond (.t 17) .skip (.exit 0)
def f30_6 : List AI := [⟨some 18, .iaddr 3 (.t 14) (.t 16), none⟩,
    ⟨some 19, .load true 3 (.t 18), none⟩,
    ⟨some 8, .new [(.int .i64 0), (.int .i64 0), (.bool false)], none⟩,
    ⟨none, .store 3 (.t 8) (.t 19), none⟩]
def f30_7 : List AI := [⟨some 20, .faddr 2 (.t 8), none⟩,
    ⟨some 21, .load false 1 (.t 20), none⟩]
def f30_8 : List AI := [⟨some 22, .mov (.t 6), none⟩,
    ⟨some 23, .mov (.t 0), none⟩,
    ⟨some 24, .faddr 0 (.t 8), none⟩,
    ⟨some 25, .load false 1 (.t 24), none⟩,
    ⟨some 26, .faddr 1 (.t 8), none⟩,
    ⟨some 27, .load false 1 (.t 26), none⟩,
    ⟨some 28, .slice .str 1 (.t 23) (some (.t 25)) (some (.t 27)) none, none⟩,
    ⟨some 29, .rowLit 1 [(.str [])] 1 [(0, (.t 28))], none⟩,
    ⟨some 30, .app 1 16 (.t 22) (.t 29), none⟩,
    ⟨some 6, .mov (.t 30), none⟩]
def f30_9 : AC := .cond (.t 21) (.reg f30_8) .skip
def f30_10 : AC := .seq (.reg f30_7) f30_9
def f30_11 : AC := .seq (.reg f30_6) f30_10
def f30_12 : AC := .block 1 f30_11
def f30_13 : List AI := [⟨some 31, .bin .add (.t 16) (.c (.one (.int .i64 1))), none⟩,
    ⟨some 16, .mov (.t 31), none⟩]
def f30_14 : AC := .seq f30_12 (.reg f30_13)
def f30_15 : AC := .seq f30_5 f30_14
def f30_16 : AC := .seq (.reg f30_4) f30_15
def f30_17 : AC := .loop f30_16
def f30_18 : AC := .block 0 f30_17
def f30_19 : AC := .seq (.reg f30_3) f30_18
def f30_20 : List AI := [⟨some 32, .mov (.t 6), none⟩,
    ⟨some 33, .mov (.t 5), none⟩,
    ⟨some 2, .mov (.t 32), none⟩,
    ⟨some 3, .mov (.t 33), none⟩]
def f30_21 : AC := .seq (.reg f30_20) .ret
def f30_22 : AC := .seq f30_19 f30_21
def f30_23 : AC := .seq (.reg f30_2) f30_22
def f30_24 : AC := .seq (.reg f30_1) f30_23
def f30_25 : AC := .seq (.reg f30_0) f30_24
def f30B : AC := f30_25
def f30 : AF := ⟨1, 34, [(.t 2), (.t 3)], f30B⟩
def f31_0 : List AI := [⟨some 4, .mov (.c (.one (.bool false))), none⟩]
def f31_1 : List AI := [⟨some 6, .mov (.t 0), none⟩,
    ⟨some 7, .len .slc (.t 6), none⟩,
    ⟨some 8, .mov (.t 1), none⟩,
    ⟨some 9, .len .slc (.t 8), none⟩,
    ⟨some 10, .bin .neq (.t 7) (.t 9), none⟩]
def f31_2 : List AI := [⟨some 4, .mov (.c (.one (.bool false))), none⟩]
def f31_3 : AC := .seq (.reg f31_2) .ret
def f31_4 : AC := .cond (.t 10) f31_3 .skip
def f31_5 : AC := .seq (.reg f31_1) f31_4
def f31_6 : List AI := [⟨some 11, .mov (.t 0), none⟩,
    ⟨some 12, .len .slc (.t 11), none⟩,
    ⟨some 13, .mov (.c (.one (.int .i64 0))), none⟩]
def f31_7 : List AI := [⟨some 14, .bin .lss (.t 13) (.t 12), none⟩]
def f31_8 : AC := .cond (.t 14) .skip (.exit 0)
def f31_9 : List AI := [⟨some 15, .mov (.t 13), none⟩,
    ⟨some 5, .mov (.t 15), none⟩]
def f31_10 : List AI := [⟨some 16, .mov (.t 0), none⟩,
    ⟨some 17, .mov (.t 5), none⟩,
    ⟨some 18, .iaddr 3 (.t 16) (.t 17), none⟩,
    ⟨some 19, .load true 3 (.t 18), none⟩,
    ⟨some 20, .mov (.t 1), none⟩,
    ⟨some 21, .mov (.t 5), none⟩,
    ⟨some 22, .iaddr 3 (.t 20) (.t 21), none⟩,
    ⟨some 23, .load true 3 (.t 22), none⟩,
    ⟨some 24, .eqv (.cells [(.int .i64), (.int .i64), .bool]) true (.t 19) (.t 23), none⟩]
def f31_11 : List AI := [⟨some 4, .mov (.c (.one (.bool false))), none⟩]
def f31_12 : AC := .seq (.reg f31_11) .ret
def f31_13 : AC := .cond (.t 24) f31_12 .skip
def f31_14 : AC := .seq (.dreg f31_10) f31_13
def f31_15 : AC := .seq (.reg f31_9) f31_14
def f31_16 : AC := .block 1 f31_15
def f31_17 : List AI := [⟨some 25, .bin .add (.t 13) (.c (.one (.int .i64 1))), none⟩,
    ⟨some 13, .mov (.t 25), none⟩]
def f31_18 : AC := .seq f31_16 (.reg f31_17)
def f31_19 : AC := .seq f31_8 f31_18
def f31_20 : AC := .seq (.reg f31_7) f31_19
def f31_21 : AC := .loop f31_20
def f31_22 : AC := .block 0 f31_21
def f31_23 : AC := .seq (.reg f31_6) f31_22
def f31_24 : List AI := [⟨some 4, .mov (.c (.one (.bool true))), none⟩]
def f31_25 : AC := .seq (.reg f31_24) .ret
def f31_26 : AC := .seq f31_23 f31_25
def f31_27 : AC := .seq f31_5 f31_26
def f31_28 : AC := .seq (.reg f31_0) f31_27
def f31B : AC := f31_28
def f31 : AF := ⟨2, 26, [(.t 4)], f31B⟩
def f32_0 : List AI := [⟨some 4, .mov (.c (.one (.bool false))), none⟩]
def f32_1 : List AI := [⟨some 6, .mov (.t 0), none⟩,
    ⟨some 7, .len .slc (.t 6), none⟩,
    ⟨some 8, .mov (.t 1), none⟩,
    ⟨some 9, .len .slc (.t 8), none⟩,
    ⟨some 10, .bin .neq (.t 7) (.t 9), none⟩]
def f32_2 : List AI := [⟨some 4, .mov (.c (.one (.bool false))), none⟩]
def f32_3 : AC := .seq (.reg f32_2) .ret
def f32_4 : AC := .cond (.t 10) f32_3 .skip
def f32_5 : AC := .seq (.reg f32_1) f32_4
def f32_6 : List AI := [⟨some 11, .mov (.t 0), none⟩,
    ⟨some 12, .len .slc (.t 11), none⟩,
    ⟨some 13, .mov (.c (.one (.int .i64 0))), none⟩]
def f32_7 : List AI := [⟨some 14, .bin .lss (.t 13) (.t 12), none⟩]
def f32_8 : AC := .cond (.t 14) .skip (.exit 0)
def f32_9 : List AI := [⟨some 15, .mov (.t 13), none⟩,
    ⟨some 5, .mov (.t 15), none⟩]
def f32_10 : List AI := [⟨some 16, .mov (.t 0), none⟩,
    ⟨some 17, .mov (.t 5), none⟩,
    ⟨some 18, .iaddr 1 (.t 16) (.t 17), none⟩,
    ⟨some 19, .load false 1 (.t 18), none⟩,
    ⟨some 20, .mov (.t 1), none⟩,
    ⟨some 21, .mov (.t 5), none⟩,
    ⟨some 22, .iaddr 1 (.t 20) (.t 21), none⟩,
    ⟨some 23, .load false 1 (.t 22), none⟩,
    ⟨some 24, .bin .neq (.t 19) (.t 23), none⟩]
def f32_11 : List AI := [⟨some 4, .mov (.c (.one (.bool false))), none⟩]
def f32_12 : AC := .seq (.reg f32_11) .ret
def f32_13 : AC := .cond (.t 24) f32_12 .skip
def f32_14 : AC := .seq (.dreg f32_10) f32_13
def f32_15 : AC := .seq (.reg f32_9) f32_14
def f32_16 : AC := .block 1 f32_15
def f32_17 : List AI := [⟨some 25, .bin .add (.t 13) (.c (.one (.int .i64 1))), none⟩,
    ⟨some 13, .mov (.t 25), none⟩]
def f32_18 : AC := .seq f32_16 (.reg f32_17)
def f32_19 : AC := .seq f32_8 f32_18
def f32_20 : AC := .seq (.reg f32_7) f32_19
def f32_21 : AC := .loop f32_20
def f32_22 : AC := .block 0 f32_21
def f32_23 : AC := .seq (.reg f32_6) f32_22
def f32_24 : List AI := [⟨some 4, .mov (.c (.one (.bool true))), none⟩]
def f32_25 : AC := .seq (.reg f32_24) .ret
def f32_26 : AC := .seq f32_23 f32_25
def f32_27 : AC := .seq f32_5 f32_26
def f32_28 : AC := .seq (.reg f32_0) f32_27
def f32B : AC := f32_28
def f32 : AF := ⟨2, 26, [(.t 4)], f32B⟩
def f39_0 : List AI := [⟨some 3, .box (.t 0), none⟩,
    ⟨some 5, .box (.t 2), none⟩,
    ⟨some 6, .mov (.c (.one (.str []))), none⟩,
    ⟨some 7, .mov (.c (.one (.int .i64 0))), none⟩]
def f39_1 : List AI := [⟨some 14, .load false 1 (.t 3), none⟩,
    ⟨some 15, .mov (.t 1), none⟩,
    ⟨some 16, .call (.c (.one (.fn 41 []))) [(.t 14), (.t 15)], none⟩,
    ⟨some 17, .un .not (.t 16), none⟩]
def f39_2 : List AI := [⟨some 6, .mov (.c (.one (.str []))), none⟩,
    ⟨some 7, .mov (.c (.one (.int .i64 7))), none⟩]
def f39_3 : AC := .seq (.reg f39_2) .ret
def f39_4 : AC := .cond (.t 17) f39_3 .skip
def f39_5 : AC := .seq (.reg f39_1) f39_4
def f39_6 : List AI := [⟨some 8, .new [(.int .i64 0)], none⟩,
    ⟨none, .store 1 (.t 8) (.c (.one (.int .i64 0))), none⟩]
def f39_7 : List AI := [⟨some 18, .mov (.t 1), none⟩,
    ⟨some 19, .call (.c (.one (.fn 52 []))) [(.t 18)], none⟩]
def f39_8 : List AI := [⟨some 9, .mov (.t 20), none⟩]
def f39_9 : List AI := [⟨some 22, .mov (.t 9), none⟩,
    ⟨some 23, .bin .add (.t 22) (.c (.one (.int .i64 1))), none⟩,
    ⟨none, .store 1 (.t 8) (.t 23), none⟩]
def f39_10 : AC := .block 1 (.reg f39_9)
def f39_11 : AC := .rangeF (.t 19) [20, 21] (.reg f39_8) f39_10
def f39_12 : AC := .block 0 f39_11
def f39_13 : AC := .seq (.reg f39_7) f39_12
def f39_14 : List AI := [⟨some 24, .load false 1 (.t 8), none⟩,
    ⟨some 25, .load false 1 (.t 5), none⟩,
    ⟨some 26, .len .slc (.t 25), none⟩,
    ⟨some 27, .bin .neq (.t 24) (.t 26), none⟩]
def f39_15 : List AI := [⟨some 6, .mov (.c (.one (.str []))), none⟩,
    ⟨some 7, .mov (.c (.one (.int .i64 2))), none⟩]
def f39_16 : AC := .seq (.reg f39_15) .ret
def f39_17 : AC := .cond (.t 27) f39_16 .skip
def f39_18 : AC := .seq (.reg f39_14) f39_17
def f39_19 : List AI := [⟨some 10, .new [.nilp, .nils], none⟩]
def f39_20 : List AI := [⟨some 11, .new [(.int .i64 0)], none⟩,
    ⟨none, .store 1 (.t 11) (.c (.one (.int .i64 0))), none⟩]
def f39_21 : List AI := [⟨some 28, .mov (.t 1), none⟩,
    ⟨some 29, .call (.c (.one (.fn 52 []))) [(.t 28)], none⟩]
def f39_22 : List AI := [⟨some 12, .mov (.t 30), none⟩]
def f39_23 : List AI := [⟨some 13, .new [(.int .i64 0), (.int .i64 0), (.bool false)], none⟩,
    ⟨none, .store 3 (.t 13) (.t 31), none⟩]
def f39_24 : AC := .seq (.reg f39_22) (.reg f39_23)
def f39_25 : List AI := [⟨some 32, .load false 1 (.t 3), none⟩,
    ⟨some 33, .load false 1 (.t 11), none⟩,
    ⟨some 34, .faddr 0 (.t 13), none⟩,
    ⟨some 35, .load false 1 (.t 34), none⟩,
    ⟨some 36, .slice .str 1 (.t 32) (some (.t 33)) (some (.t 35)) none, none⟩,
    ⟨some 37, .call (.c (.one (.fn 61 []))) [(.t 10), (.t 36)], none⟩]
def f39_26 : List AI := [⟨some 38, .load false 1 (.t 5), none⟩,
    ⟨some 39, .mov (.t 12), none⟩,
    ⟨some 40, .iaddr 1 (.t 38) (.t 39), none⟩,
    ⟨some 41, .load false 1 (.t 40), none⟩,
    ⟨some 42, .call (.c (.one (.fn 61 []))) [(.t 10), (.t 41)], none⟩]
def f39_27 : List AI := [⟨some 43, .faddr 1 (.t 13), none⟩,
    ⟨some 44, .load false 1 (.t 43), none⟩,
    ⟨none, .store 1 (.t 11) (.t 44), none⟩]
def f39_28 : AC := .seq (.reg f39_26) (.reg f39_27)
def f39_29 : AC := .seq (.reg f39_25) f39_28
def f39_30 : AC := .block 3 f39_29
def f39_31 : AC := .rangeF (.t 29) [30, 31] f39_24 f39_30
def f39_32 : AC := .block 2 f39_31
def f39_33 : AC := .seq (.reg f39_21) f39_32
def f39_34 : List AI := [⟨some 45, .load false 1 (.t 3), none⟩,
    ⟨some 46, .load false 1 (.t 11), none⟩,
    ⟨some 47, .slice .str 1 (.t 45) (some (.t 46)) none none, none⟩,
    ⟨some 48, .call (.c (.one (.fn 61 []))) [(.t 10), (.t 47)], none⟩]
def f39_35 : List AI := [⟨some 49, .call (.c (.one (.fn 62 []))) [(.t 10)], none⟩,
    ⟨some 6, .mov (.t 49), none⟩,
    ⟨some 7, .mov (.c (.one (.int .i64 0))), none⟩]
def f39_36 : AC := .seq (.reg f39_35) .ret
def f39_37 : AC := .seq (.reg f39_34) f39_36
def f39_38 : AC := .seq f39_33 f39_37
def f39_39 : AC := .seq (.reg f39_20) f39_38
def f39_40 : AC := .seq (.reg f39_19) f39_39
def f39_41 : AC := .seq f39_18 f39_40
def f39_42 : AC := .seq f39_13 f39_41
def f39_43 : AC := .seq (.reg f39_6) f39_42
def f39_44 : AC := .seq f39_5 f39_43
def f39_45 : AC := .seq (.reg f39_0) f39_44
def f39B : AC := f39_45
def f39 : AF := ⟨3, 50, [(.t 6), (.t 7)], f39B⟩
def f40_0 : List AI := [⟨some 6, .mov (.c (.one (.str []))), none⟩,
    ⟨some 7, .mov (.c (.one (.int .i64 0))), none⟩]
def f40_1 : List AI := [⟨some 12, .mov (.t 0), none⟩,
    ⟨some 13, .mov (.t 1), none⟩,
    ⟨some 14, .call (.c (.one (.fn 42 []))) [(.t 12), (.t 13)], none⟩,
    ⟨some 15, .un .not (.t 14), none⟩]
def f40_2 : List AI := [⟨some 6, .mov (.c (.one (.str []))), none⟩,
    ⟨some 7, .mov (.c (.one (.int .i64 7))), none⟩]
def f40_3 : AC := .seq (.reg f40_2) .ret
def f40_4 : AC := .cond (.t 15) f40_3 .skip
def f40_5 : AC := .seq (.reg f40_1) f40_4
def f40_6 : List AI := [⟨some 8, .mov (.c (.one (.str []))), none⟩]
def f40_7 : List AI := [⟨some 9, .mov (.c (.one (.int .i64 0))), none⟩]
def f40_8 : List AI := [⟨some 16, .mov (.t 1), none⟩,
    ⟨some 17, .len .slc (.t 16), none⟩,
    ⟨some 18, .mov (.c (.one (.int .i64 0))), none⟩]
def f40_9 : List AI := [⟨some 19, .bin .lss (.t 18) (.t 17), none⟩]
def f40_10 : AC := .cond (.t 19) .skip (.exit 0)
def f40_11 : List AI := [⟨some 20, .iaddr 3 (.t 16) (.t 18), none⟩,
    ⟨some 21, .load true 3 (.t 20), none⟩,
    ⟨some 11, .new [(.int .i64 0), (.int .i64 0), (.bool false)], none⟩,
    ⟨none, .store 3 (.t 11) (.t 21), none⟩]
def f40_12 : List AI := [⟨some 22, .faddr 2 (.t 11), none⟩,
    ⟨some 23, .load false 1 (.t 22), none⟩,
    ⟨some 24, .un .not (.t 23), none⟩]
def f40_13 : List AI := [⟨some 25, .mov (.t 8), none⟩,
    ⟨some 26, .mov (.t 0), none⟩,
    ⟨some 27, .faddr 0 (.t 11), none⟩,
    ⟨some 28, .load false 1 (.t 27), none⟩,
    ⟨some 29, .faddr 1 (.t 11), none⟩,
    ⟨some 30, .load false 1 (.t 29), none⟩,
    ⟨some 31, .slice .str 1 (.t 26) (some (.t 28)) (some (.t 30)) none, none⟩,
    ⟨some 32, .bin .add (.t 25) (.t 31), none⟩,
    ⟨some 8, .mov (.t 32), none⟩]
def f40_14 : AC := .seq (.reg f40_13) (.exit 1)
def f40_15 : AC := .cond (.t 24) f40_14 .skip
def f40_16 : AC := .seq (.reg f40_12) f40_15
def f40_17 : List AI := [⟨some 33, .mov (.t 9), none⟩,
    ⟨some 34, .mov (.t 2), none⟩,
    ⟨some 35, .len .slc (.t 34), none⟩,
    ⟨some 36, .bin .lss (.t 33) (.t 35), none⟩]
def f40_18 : List AI := [⟨some 37, .mov (.t 8), none⟩,
    ⟨some 38, .mov (.t 2), none⟩,
    ⟨some 39, .mov (.t 9), none⟩,
    ⟨some 40, .iaddr 1 (.t 38) (.t 39), none⟩,
    ⟨some 41, .load false 1 (.t 40), none⟩,
    ⟨some 42, .bin .add (.t 37) (.t 41), none⟩,
    ⟨some 8, .mov (.t 42), none⟩]
def f40_19 : AC := .cond (.t 36) (.reg f40_18) .skip
def f40_20 : AC := .seq (.reg f40_17) f40_19
def f40_21 : List AI := [⟨some 43, .mov (.t 9), none⟩,
    ⟨some 44, .bin .add (.t 43) (.c (.one (.int .i64 1))), none⟩,
    ⟨some 9, .mov (.t 44), none⟩]
def f40_22 : AC := .seq f40_20 (.reg f40_21)
def f40_23 : AC := .seq f40_16 f40_22
def f40_24 : AC := .seq (.reg f40_11) f40_23
def f40_25 : AC := .block 1 f40_24
def f40_26 : List AI := [⟨some 45, .bin .add (.t 18) (.c (.one (.int .i64 1))), none⟩,
    ⟨some 18, .mov (.t 45), none⟩]
def f40_27 : AC := .seq f40_25 (.reg f40_26)
def f40_28 : AC := .seq f40_10 f40_27
def f40_29 : AC := .seq (.reg f40_9) f40_28
def f40_30 : AC := .loop f40_29
def f40_31 : AC := .block 0 f40_30
def f40_32 : AC := .seq (.reg f40_8) f40_31
def f40_33 : List AI := [⟨some 46, .mov (.t 9), none⟩,
    ⟨some 47, .mov (.t 2), none⟩,
    ⟨some 48, .len .slc (.t 47), none⟩,
    ⟨some 49, .bin .neq (.t 46) (.t 48), none⟩]
def f40_34 : List AI := [⟨some 6, .mov (.c (.one (.str []))), none⟩,
    ⟨some 7, .mov (.c (.one (.int .i64 2))), none⟩]
def f40_35 : AC := .seq (.reg f40_34) .ret
def f40_36 : AC := .cond (.t 49) f40_35 .skip
def f40_37 : AC := .seq (.reg f40_33) f40_36
def f40_38 : List AI := [⟨some 50, .mov (.t 8), none⟩,
    ⟨some 6, .mov (.t 50), none⟩,
    ⟨some 7, .mov (.c (.one (.int .i64 0))), none⟩]
def f40_39 : AC := .seq (.reg f40_38) .ret
def f40_40 : AC := .seq f40_37 f40_39
def f40_41 : AC := .seq f40_32 f40_40
def f40_42 : AC := .seq (.reg f40_7) f40_41
def f40_43 : AC := .seq (.reg f40_6) f40_42
def f40_44 : AC := .seq f40_5 f40_43
def f40_45 : AC := .seq (.reg f40_0) f40_44
def f40B : AC := f40_45
def f40 : AF := ⟨3, 51, [(.t 6), (.t 7)], f40B⟩
def f41_0 : List AI := [⟨some 4, .mov (.c (.one (.bool false))), none⟩]
def f41_1 : List AI := [⟨some 8, .mov (.t 0), none⟩,
    ⟨some 9, .call (.c (.one (.fn 27 []))) [(.t 8)], none⟩,
    ⟨some 7, .mov (.t 9), none⟩,
    ⟨some 10, .ext (.t 7) 0, none⟩,
    ⟨some 11, .ext (.t 7) 1, none⟩,
    ⟨some 5, .mov (.t 10), none⟩,
    ⟨some 6, .mov (.t 11), none⟩]
def f41_2 : List AI := [⟨some 12, .mov (.t 6), none⟩,
    ⟨some 13, .bin .eql (.t 12) (.c (.one (.int .i64 0))), none⟩,
    ⟨some 14, .mov (.t 13), none⟩,
    ⟨some 15, .mov (.t 5), some (14, true)⟩,
    ⟨some 16, .mov (.t 1), some (14, true)⟩,
    ⟨some 17, .call (.c (.one (.fn 63 []))) [(.t 15), (.t 16)], some (14, true)⟩,
    ⟨some 18, .pick (.t 14) (.t 17) (.c (.one (.bool false))), none⟩,
    ⟨some 4, .mov (.t 18), none⟩]
def f41_3 : AC := .seq (.reg f41_2) .ret
def f41_4 : AC := .seq (.reg f41_1) f41_3
def f41_5 : AC := .seq (.reg f41_0) f41_4
def f41B : AC := f41_5
def f41 : AF := ⟨2, 19, [(.t 4)], f41B⟩
def f42_0 : List AI := [⟨some 4, .mov (.c (.one (.bool false))), none⟩]
def f42_1 : List AI := [⟨some 8, .mov (.t 0), none⟩,
    ⟨some 9, .call (.c (.one (.fn 28 []))) [(.t 8)], none⟩,
    ⟨some 7, .mov (.t 9), none⟩,
    ⟨some 10, .ext (.t 7) 0, none⟩,
    ⟨some 11, .ext (.t 7) 1, none⟩,
    ⟨some 5, .mov (.t 10), none⟩,
    ⟨some 6, .mov (.t 11), none⟩]
def f42_2 : List AI := [⟨some 12, .mov (.t 6), none⟩,
    ⟨some 13, .bin .eql (.t 12) (.c (.one (.int .i64 0))), none⟩,
    ⟨some 14, .mov (.t 13), none⟩,
    ⟨some 15, .mov (.t 5), some (14, true)⟩,
    ⟨some 16, .mov (.t 1), some (14, true)⟩,
    ⟨some 17, .call (.c (.one (.fn 31 []))) [(.t 15), (.t 16)], some (14, true)⟩,
    ⟨some 18, .pick (.t 14) (.t 17) (.c (.one (.bool false))), none⟩,
    ⟨some 4, .mov (.t 18), none⟩]
def f42_3 : AC := .seq (.reg f42_2) .ret
def f42_4 : AC := .seq (.reg f42_1) f42_3
def f42_5 : AC := .seq (.reg f42_0) f42_4
def f42B : AC := f42_5
def f42 : AF := ⟨2, 19, [(.t 4)], f42B⟩
def f50_0 : List AI := [⟨some 4, .mov (.c (.one (.int .i64 0))), none⟩]
def f50_1 : List AI := [⟨some 7, .mov (.t 0), none⟩,
    ⟨some 8, .rng (.t 7), none⟩]
def f50_2 : List AI := [⟨some 9, .nxt (.t 8), none⟩,
    ⟨some 10, .ext (.t 9) 0, none⟩]
def f50_3 : AC := .cond (.t 10) .skip (.exit 0)
def f50_4 : List AI := [⟨some 11, .ext (.t 9) 1, none⟩,
    ⟨some 12, .ext (.t 9) 2, none⟩,
    ⟨some 5, .mov (.t 11), none⟩,
    ⟨some 6, .mov (.t 12), none⟩]
def f50_5 : List AI := [⟨some 13, .mov (.t 6), none⟩,
    ⟨some 14, .call (.c (.one (.fn 35 []))) [(.t 13)], none⟩,
    ⟨some 15, .mov (.t 1), none⟩,
    ⟨some 16, .eqv .bool true (.t 14) (.t 15), none⟩]
def f50_6 : AC := .cond (.t 16) (.exit 0) .skip
def f50_7 : AC := .seq (.reg f50_5) f50_6
def f50_8 : List AI := [⟨some 17, .mov (.t 5), none⟩,
    ⟨some 18, .mov (.t 6), none⟩,
    ⟨some 19, .call (.c (.one (.fn 72 []))) [(.t 18)], none⟩,
    ⟨some 20, .bin .add (.t 17) (.t 19), none⟩,
    ⟨some 4, .mov (.t 20), none⟩]
def f50_9 : AC := .seq f50_7 (.reg f50_8)
def f50_10 : AC := .seq (.reg f50_4) f50_9
def f50_11 : AC := .block 1 f50_10
def f50_12 : AC := .seq f50_3 f50_11
def f50_13 : AC := .seq (.reg f50_2) f50_12
def f50_14 : AC := .loop f50_13
def f50_15 : AC := .block 0 f50_14
def f50_16 : AC := .seq (.reg f50_1) f50_15
def f50_17 : List AI := [⟨some 21, .mov (.t 4), none⟩,
    ⟨some 4, .mov (.t 21), none⟩]
def f50_18 : AC := .seq (.reg f50_17) .ret
def f50_19 : AC := .seq f50_16 f50_18
def f50_20 : AC := .seq .skip f50_19
def f50_21 : AC := .seq .skip f50_20
def f50_22 : AC := .seq (.reg f50_0) f50_21
def f50B : AC := f50_22
def f50 : AF := ⟨2, 22, [(.t 4)], f50B⟩
def f52_0 : List AI := [⟨some 1, .box (.t 0), none⟩,
    ⟨some 2, .mov (.c (.one .nilf)), none⟩]
def f52_1 : List AI := [⟨some 3, .mkfn 73 [(.t 1)], none⟩,
    ⟨some 2, .mov (.t 3), none⟩]
def f52_2 : AC := .seq (.reg f52_1) .ret
def f52_3 : AC := .seq (.reg f52_0) f52_2
def f52B : AC := f52_3
def f52 : AF := ⟨1, 4, [(.t 2)], f52B⟩
def f63_0 : List AI := [⟨some 4, .mov (.c (.one (.bool false))), none⟩]
def f63_1 : List AI := [⟨some 6, .mov (.t 0), none⟩,
    ⟨some 7, .len .slc (.t 6), none⟩,
    ⟨some 8, .mov (.t 1), none⟩,
    ⟨some 9, .len .slc (.t 8), none⟩,
    ⟨some 10, .bin .neq (.t 7) (.t 9), none⟩]
def f63_2 : List AI := [⟨some 4, .mov (.c (.one (.bool false))), none⟩]
def f63_3 : AC := .seq (.reg f63_2) .ret
def f63_4 : AC := .cond (.t 10) f63_3 .skip
def f63_5 : AC := .seq (.reg f63_1) f63_4
def f63_6 : List AI := [⟨some 11, .mov (.t 0), none⟩,
    ⟨some 12, .len .slc (.t 11), none⟩,
    ⟨some 13, .mov (.c (.one (.int .i64 0))), none⟩]
def f63_7 : List AI := [⟨some 14, .bin .lss (.t 13) (.t 12), none⟩]
def f63_8 : AC := .cond (.t 14) .skip (.exit 0)
def f63_9 : List AI := [⟨some 15, .mov (.t 13), none⟩,
    ⟨some 5, .mov (.t 15), none⟩]
def f63_10 : List AI := [⟨some 16, .mov (.t 0), none⟩,
    ⟨some 17, .mov (.t 5), none⟩,
    ⟨some 18, .iaddr 3 (.t 16) (.t 17), none⟩,
    ⟨some 19, .load true 3 (.t 18), none⟩,
    ⟨some 20, .mov (.t 1), none⟩,
    ⟨some 21, .mov (.t 5), none⟩,
    ⟨some 22, .iaddr 3 (.t 20) (.t 21), none⟩,
    ⟨some 23, .load true 3 (.t 22), none⟩,
    ⟨some 24, .eqv (.cells [(.int .i64), (.int .i64), .bool]) true (.t 19) (.t 23), none⟩]
def f63_11 : List AI := [⟨some 4, .mov (.c (.one (.bool false))), none⟩]
def f63_12 : AC := .seq (.reg f63_11) .ret
def f63_13 : AC := .cond (.t 24) f63_12 .skip
def f63_14 : AC := .seq (.dreg f63_10) f63_13
def f63_15 : AC := .seq (.reg f63_9) f63_14
def f63_16 : AC := .block 1 f63_15
def f63_17 : List AI := [⟨some 25, .bin .add (.t 13) (.c (.one (.int .i64 1))), none⟩,
    ⟨some 13, .mov (.t 25), none⟩]
def f63_18 : AC := .seq f63_16 (.reg f63_17)
def f63_19 : AC := .seq f63_8 f63_18
def f63_20 : AC := .seq (.reg f63_7) f63_19
def f63_21 : AC := .loop f63_20
def f63_22 : AC := .block 0 f63_21
def f63_23 : AC := .seq (.reg f63_6) f63_22
def f63_24 : List AI := [⟨some 4, .mov (.c (.one (.bool true))), none⟩]
def f63_25 : AC := .seq (.reg f63_24) .ret
def f63_26 : AC := .seq f63_23 f63_25
def f63_27 : AC := .seq f63_5 f63_26
def f63_28 : AC := .seq (.reg f63_0) f63_27
def f63B : AC := f63_28
def f63 : AF := ⟨2, 26, [(.t 4)], f63B⟩
def f72_0 : List AI := [⟨some 2, .mov (.c (.one (.int .i64 0))), none⟩]
def f72_1 : List AI := [⟨some 4, .mov (.t 0), none⟩,
    ⟨some 5, .bin .lss (.t 4) (.c (.one (.int .i32 0))), none⟩,
    ⟨some 3, .mov (.t 5), none⟩]
def f72_2 : List AI := [⟨some 2, .mov (.c (.one (.int .i64 (-1)))), none⟩]
def f72_3 : AC := .seq (.reg f72_2) .ret
def f72_4 : List AI := [⟨some 7, .mov (.t 0), none⟩,
    ⟨some 8, .bin .leq (.t 7) (.c (.one (.int .i32 127))), none⟩,
    ⟨some 6, .mov (.t 8), none⟩]
def f72_5 : List AI := [⟨some 2, .mov (.c (.one (.int .i64 1))), none⟩]
def f72_6 : AC := .seq (.reg f72_5) .ret
def f72_7 : List AI := [⟨some 10, .mov (.t 0), none⟩,
    ⟨some 11, .bin .leq (.t 10) (.c (.one (.int .i32 2047))), none⟩,
    ⟨some 9, .mov (.t 11), none⟩]
def f72_8 : List AI := [⟨some 2, .mov (.c (.one (.int .i64 2))), none⟩]
def f72_9 : AC := .seq (.reg f72_8) .ret
def f72_10 : List AI := [⟨some 13, .mov (.t 0), none⟩,
    ⟨some 14, .bin .leq (.c (.one (.int .i32 55296))) (.t 13), none⟩,
    ⟨some 15, .mov (.t 14), none⟩,
    ⟨some 16, .mov (.t 0), some (15, true)⟩,
    ⟨some 17, .bin .leq (.t 16) (.c (.one (.int .i32 57343))), some (15, true)⟩,
    ⟨some 18, .pick (.t 15) (.t 17) (.c (.one (.bool false))), none⟩,
    ⟨some 12, .mov (.t 18), none⟩]
def f72_11 : List AI := [⟨some 2, .mov (.c (.one (.int .i64 (-1)))), none⟩]
def f72_12 : AC := .seq (.reg f72_11) .ret
def f72_13 : List AI := [⟨some 20, .mov (.t 0), none⟩,
    ⟨some 21, .bin .leq (.t 20) (.c (.one (.int .i32 65535))), none⟩,
    ⟨some 19, .mov (.t 21), none⟩]
def f72_14 : List AI := [⟨some 2, .mov (.c (.one (.int .i64 3))), none⟩]
def f72_15 : AC := .seq (.reg f72_14) .ret
def f72_16 : List AI := [⟨some 23, .mov (.t 0), none⟩,
    ⟨some 24, .bin .leq (.t 23) (.c (.one (.int .i32 1114111))), none⟩,
    ⟨some 22, .mov (.t 24), none⟩]
def f72_17 : List AI := [⟨some 2, .mov (.c (.one (.int .i64 4))), none⟩]
def f72_18 : AC := .seq (.reg f72_17) .ret
def f72_19 : AC := .cond (.t 22) f72_18 .skip
def f72_20 : AC := .seq (.reg f72_16) f72_19
def f72_21 : AC := .cond (.t 19) f72_15 f72_20
def f72_22 : AC := .seq (.reg f72_13) f72_21
def f72_23 : AC := .cond (.t 12) f72_12 f72_22
def f72_24 : AC := .seq (.reg f72_10) f72_23
def f72_25 : AC := .cond (.t 9) f72_9 f72_24
def f72_26 : AC := .seq (.reg f72_7) f72_25
def f72_27 : AC := .cond (.t 6) f72_6 f72_26
def f72_28 : AC := .seq (.reg f72_4) f72_27
def f72_29 : AC := .cond (.t 3) f72_3 f72_28
def f72_30 : AC := .seq (.reg f72_1) f72_29
def f72_31 : AC := .block 0 f72_30
def f72_32 : List AI := [⟨some 2, .mov (.c (.one (.int .i64 (-1)))), none⟩]
def f72_33 : AC := .seq (.reg f72_32) .ret
def f72_34 : AC := .seq f72_31 f72_33
def f72_35 : AC := .seq (.reg f72_0) f72_34
def f72B : AC := f72_35
def f72 : AF := ⟨1, 25, [(.t 2)], f72B⟩
def f73_0 : List AI := [⟨some 3, .mov (.c (.one (.int .i64 0))), none⟩]
def f73_1 : List AI := [⟨some 6, .load false 1 (.t 1), none⟩,
    ⟨some 7, .len .slc (.t 6), none⟩,
    ⟨some 8, .mov (.c (.one (.int .i64 0))), none⟩]
def f73_2 : List AI := [⟨some 9, .bin .lss (.t 8) (.t 7), none⟩]
def f73_3 : AC := .cond (.t 9) .skip (.exit 0)
def f73_4 : List AI := [⟨some 10, .iaddr 3 (.t 6) (.t 8), none⟩,
    ⟨some 11, .load true 3 (.t 10), none⟩,
    ⟨some 5, .new [(.int .i64 0), (.int .i64 0), (.bool false)], none⟩,
    ⟨none, .store 3 (.t 5) (.t 11), none⟩]
def f73_5 : List AI := [⟨some 12, .faddr 2 (.t 5), none⟩,
    ⟨some 13, .load false 1 (.t 12), none⟩,
    ⟨some 14, .un .not (.t 13), none⟩]
def f73_6 : AC := .cond (.t 14) (.exit 1) .skip
def f73_7 : AC := .seq (.reg f73_5) f73_6
def f73_8 : List AI := [⟨some 15, .mov (.t 0), none⟩,
    ⟨some 16, .mov (.t 3), none⟩,
    ⟨some 17, .load true 3 (.t 5), none⟩,
    ⟨some 18, .call (.t 15) [(.t 16), (.t 17)], none⟩,
    ⟨some 19, .un .not (.t 18), none⟩]
def f73_9 : AC := .cond (.t 19) .ret .skip
def f73_10 : AC := .seq (.reg f73_8) f73_9
def f73_11 : List AI := [⟨some 20, .mov (.t 3), none⟩,
    ⟨some 21, .bin .add (.t 20) (.c (.one (.int .i64 1))), none⟩,
    ⟨some 3, .mov (.t 21), none⟩]
def f73_12 : AC := .seq f73_10 (.reg f73_11)
def f73_13 : AC := .seq f73_7 f73_12
def f73_14 : AC := .seq (.reg f73_4) f73_13
def f73_15 : AC := .block 1 f73_14
def f73_16 : List AI := [⟨some 22, .bin .add (.t 8) (.c (.one (.int .i64 1))), none⟩,
    ⟨some 8, .mov (.t 22), none⟩]
def f73_17 : AC := .seq f73_15 (.reg f73_16)
def f73_18 : AC := .seq f73_3 f73_17
def f73_19 : AC := .seq (.reg f73_2) f73_18
def f73_20 : AC := .loop f73_19
def f73_21 : AC := .block 0 f73_20
def f73_22 : AC := .seq (.reg f73_1) f73_21
def f73_23 : AC := .seq (.reg f73_0) f73_22
def f73B : AC := f73_23
def f73 : AF := ⟨2, 23, [], f73B⟩
end Go.EA.F
