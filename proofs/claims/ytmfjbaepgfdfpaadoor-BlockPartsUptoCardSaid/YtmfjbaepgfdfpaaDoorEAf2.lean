/- Functions of the program, as abstract code (printed by a program). Conditions: none (definitions). -/
import Derived.Test.YtmfjbaepgfdfpaaDoorEK1
namespace Go.EA.F
def f10_0 : List AI := [⟨some 1, .box (.t 0), none⟩,
    ⟨some 2, .mov (.c (.one (.bool false))), none⟩]
def f10_1 : List AI := [⟨some 14, .call (.c (.one (.fn 26 []))) [], none⟩,
    ⟨some 15, .un .not (.t 14), none⟩]
def f10_2 : List AI := [⟨some 2, .mov (.c (.one (.bool false))), none⟩]
def f10_3 : AC := .seq (.reg f10_2) .ret
def f10_4 : AC := .cond (.t 15) f10_3 .skip
def f10_5 : AC := .seq (.reg f10_1) f10_4
def f10_6 : List AI := [⟨some 16, .faddr 0 (.t 1), none⟩,
    ⟨some 17, .load false 1 (.t 16), none⟩,
    ⟨some 18, .faddr 1 (.t 1), none⟩,
    ⟨some 19, .load false 1 (.t 18), none⟩,
    ⟨some 20, .faddr 2 (.t 1), none⟩,
    ⟨some 21, .load false 1 (.t 20), none⟩,
    ⟨some 22, .faddr 3 (.t 1), none⟩,
    ⟨some 23, .load false 1 (.t 22), none⟩,
    ⟨some 3, .mov (.t 17), none⟩,
    ⟨some 4, .mov (.t 19), none⟩,
    ⟨some 5, .mov (.t 21), none⟩,
    ⟨some 6, .mov (.t 23), none⟩]
def f10_7 : List AI := [⟨some 24, .mov (.t 3), none⟩,
    ⟨some 25, .len .str (.t 24), none⟩,
    ⟨some 7, .mov (.t 25), none⟩]
def f10_8 : List AI := [⟨some 26, .mov (.t 5), none⟩,
    ⟨some 27, .len .slc (.t 26), none⟩,
    ⟨some 28, .mov (.c (.one (.int .i64 0))), none⟩]
def f10_9 : List AI := [⟨some 29, .bin .lss (.t 28) (.t 27), none⟩]
def f10_10 : AC := .cond (.t 29) .skip (.exit 0)
def f10_11 : List AI := [⟨some 30, .iaddr 1 (.t 26) (.t 28), none⟩,
    ⟨some 31, .load false 1 (.t 30), none⟩,
    ⟨some 9, .mov (.t 31), none⟩]
def f10_12 : List AI := [⟨some 32, .mov (.t 7), none⟩,
    ⟨some 33, .mov (.t 9), none⟩,
    ⟨some 34, .len .str (.t 33), none⟩,
    ⟨some 35, .best false [(.t 34), (.c (.one (.int .i64 5000)))], none⟩,
    ⟨some 36, .bin .add (.t 32) (.t 35), none⟩,
    ⟨some 7, .mov (.t 36), none⟩]
def f10_13 : AC := .seq (.reg f10_11) (.reg f10_12)
def f10_14 : AC := .block 1 f10_13
def f10_15 : List AI := [⟨some 37, .bin .add (.t 28) (.c (.one (.int .i64 1))), none⟩,
    ⟨some 28, .mov (.t 37), none⟩]
def f10_16 : AC := .seq f10_14 (.reg f10_15)
def f10_17 : AC := .seq f10_10 f10_16
def f10_18 : AC := .seq (.reg f10_9) f10_17
def f10_19 : AC := .loop f10_18
def f10_20 : AC := .block 0 f10_19
def f10_21 : AC := .seq (.reg f10_8) f10_20
def f10_22 : List AI := [⟨some 38, .mov (.t 7), none⟩,
    ⟨some 39, .bin .gtr (.t 38) (.c (.one (.int .i64 4000))), none⟩,
    ⟨some 40, .mov (.t 39), none⟩,
    ⟨some 41, .mov (.t 4), some (40, false)⟩,
    ⟨some 42, .len .slc (.t 41), some (40, false)⟩,
    ⟨some 43, .bin .gtr (.t 42) (.c (.one (.int .i64 500))), some (40, false)⟩,
    ⟨some 44, .pick (.t 40) (.c (.one (.bool true))) (.t 43), none⟩]
def f10_23 : List AI := [⟨some 2, .mov (.c (.one (.bool true))), none⟩]
def f10_24 : AC := .seq (.reg f10_23) .ret
def f10_25 : AC := .cond (.t 44) f10_24 .skip
def f10_26 : AC := .seq (.reg f10_22) f10_25
def f10_27 : List AI := [⟨some 45, .mov (.t 6), none⟩]
def f10_28 : List AI := [⟨some 47, .mov (.t 3), none⟩,
    ⟨some 48, .call (.c (.one (.fn 28 []))) [(.t 47)], none⟩,
    ⟨some 46, .mov (.t 48), none⟩,
    ⟨some 49, .ext (.t 46) 0, none⟩,
    ⟨some 50, .ext (.t 46) 1, none⟩,
    ⟨some 4, .mov (.t 49), none⟩]
def f10_29 : AC := .cond (.t 45) (.reg f10_28) .skip
def f10_30 : AC := .seq (.reg f10_27) f10_29
def f10_31 : List AI := [⟨some 52, .mov (.t 3), none⟩,
    ⟨some 53, .mov (.t 4), none⟩,
    ⟨some 54, .mov (.t 5), none⟩,
    ⟨some 55, .call (.c (.one (.fn 39 []))) [(.t 52), (.t 53), (.t 54)], none⟩,
    ⟨some 51, .mov (.t 55), none⟩,
    ⟨some 56, .ext (.t 51) 0, none⟩,
    ⟨some 57, .ext (.t 51) 1, none⟩,
    ⟨some 10, .mov (.t 56), none⟩,
    ⟨some 11, .mov (.t 57), none⟩]
def f10_32 : List AI := [⟨some 59, .mov (.t 3), none⟩,
    ⟨some 60, .mov (.t 4), none⟩,
    ⟨some 61, .mov (.t 5), none⟩,
    ⟨some 62, .call (.c (.one (.fn 40 []))) [(.t 59), (.t 60), (.t 61)], none⟩,
    ⟨some 58, .mov (.t 62), none⟩,
    ⟨some 63, .ext (.t 58) 0, none⟩,
    ⟨some 64, .ext (.t 58) 1, none⟩,
    ⟨some 12, .mov (.t 63), none⟩,
    ⟨some 13, .mov (.t 64), none⟩]
def f10_33 : List AI := [⟨some 65, .mov (.t 3), none⟩,
    ⟨some 66, .mov (.t 4), none⟩,
    ⟨some 67, .call (.c (.one (.fn 41 []))) [(.t 65), (.t 66)], none⟩,
    ⟨some 68, .mov (.t 3), none⟩,
    ⟨some 69, .mov (.t 4), none⟩,
    ⟨some 70, .call (.c (.one (.fn 42 []))) [(.t 68), (.t 69)], none⟩,
    ⟨some 71, .eqv .bool false (.t 67) (.t 70), none⟩,
    ⟨some 72, .mov (.t 71), none⟩,
    ⟨some 73, .mov (.t 10), some (72, true)⟩,
    ⟨some 74, .mov (.t 12), some (72, true)⟩,
    ⟨some 75, .bin .eql (.t 73) (.t 74), some (72, true)⟩,
    ⟨some 76, .pick (.t 72) (.t 75) (.c (.one (.bool false))), none⟩,
    ⟨some 77, .mov (.t 76), none⟩,
    ⟨some 78, .mov (.t 11), some (77, true)⟩,
    ⟨some 79, .mov (.t 13), some (77, true)⟩,
    ⟨some 80, .bin .eql (.t 78) (.t 79), some (77, true)⟩,
    ⟨some 81, .pick (.t 77) (.t 80) (.c (.one (.bool false))), none⟩,
    ⟨some 2, .mov (.t 81), none⟩]
def f10_34 : AC := .seq (.reg f10_33) .ret
def f10_35 : AC := .seq (.reg f10_32) f10_34
def f10_36 : AC := .seq (.reg f10_31) f10_35
def f10_37 : AC := .seq f10_30 f10_36
def f10_38 : AC := .seq f10_26 f10_37
def f10_39 : AC := .seq f10_21 f10_38
def f10_40 : AC := .seq (.reg f10_7) f10_39
def f10_41 : AC := .seq (.dreg f10_6) f10_40
def f10_42 : AC := .seq f10_5 f10_41
def f10_43 : AC := .seq (.reg f10_0) f10_42
def f10B : AC := f10_43
def f10 : AF := ⟨1, 82, [(.t 2)], f10B⟩
def f27_0 : List AI := [⟨some 2, .mov (.c (.one .nils)), none⟩,
    ⟨some 3, .mov (.c (.one (.int .i64 0))), none⟩]
def f27_1 : List AI := [⟨some 8, .mov (.t 0), none⟩,
    ⟨some 9, .len .str (.t 8), none⟩,
    ⟨some 10, .bin .gtr (.t 9) (.c (.one (.int .i64 1048576))), none⟩,
    ⟨some 7, .mov (.t 10), none⟩]
def f27_2 : List AI := [⟨some 2, .mov (.c (.one .nils)), none⟩,
    ⟨some 3, .mov (.c (.one (.int .i64 5))), none⟩]
def f27_3 : AC := .seq (.reg f27_2) .ret
def f27_4 : List AI := [⟨some 12, .mov (.t 0), none⟩,
    ⟨some 13, .call (.c (.one (.fn 38 []))) [(.t 12)], none⟩,
    ⟨some 14, .un .not (.t 13), none⟩,
    ⟨some 11, .mov (.t 14), none⟩]
def f27_5 : List AI := [⟨some 2, .mov (.c (.one .nils)), none⟩,
    ⟨some 3, .mov (.c (.one (.int .i64 3))), none⟩]
def f27_6 : AC := .seq (.reg f27_5) .ret
def f27_7 : AC := .cond (.t 11) f27_6 .skip
def f27_8 : AC := .seq (.reg f27_4) f27_7
def f27_9 : AC := .cond (.t 7) f27_3 f27_8
def f27_10 : AC := .seq (.reg f27_1) f27_9
def f27_11 : AC := .block 0 f27_10
def f27_12 : List AI := [⟨some 4, .mov (.c (.one (.bool true))), none⟩]
def f27_13 : List AI := [⟨some 5, .mov (.c (.one (.int .i64 0))), none⟩]
def f27_14 : List AI := [⟨some 15, .mov (.t 5), none⟩,
    ⟨some 16, .mov (.t 0), none⟩,
    ⟨some 17, .len .str (.t 16), none⟩,
    ⟨some 18, .bin .lss (.t 15) (.t 17), none⟩]
def f27_15 : AC := .cond (.t 18) .skip (.exit 1)
def f27_16 : AC := .seq (.reg f27_14) f27_15
def f27_17 : List AI := [⟨some 21, .mov (.t 0), none⟩,
    ⟨some 22, .mov (.t 5), none⟩,
    ⟨some 23, .slice .str 1 (.t 21) (some (.t 22)) none none, none⟩,
    ⟨some 24, .mov (.t 4), none⟩,
    ⟨some 25, .call (.c (.one (.fn 50 []))) [(.t 23), (.t 24)], none⟩,
    ⟨some 6, .mov (.t 25), none⟩]
def f27_18 : List AI := [⟨some 26, .mov (.t 6), none⟩,
    ⟨some 27, .bin .gtr (.t 26) (.c (.one (.int .i64 0))), none⟩]
def f27_19 : List AI := [⟨some 28, .mov (.t 2), none⟩,
    ⟨some 29, .mov (.t 5), none⟩,
    ⟨some 30, .mov (.t 5), none⟩,
    ⟨some 31, .mov (.t 6), none⟩,
    ⟨some 32, .bin .add (.t 30) (.t 31), none⟩,
    ⟨some 33, .mov (.t 4), none⟩,
    ⟨some 34, .build [(.int .i64 0), (.int .i64 0), (.bool false)] [(0, (1, (.t 29))), (1, (1, (.t 32))), (2, (1, (.t 33)))], none⟩,
    ⟨some 35, .rowLit 3 [(.int .i64 0), (.int .i64 0), (.bool false)] 1 [(0, (.t 34))], none⟩,
    ⟨some 36, .app 3 24 (.t 28) (.t 35), none⟩,
    ⟨some 2, .mov (.t 36), none⟩]
def f27_20 : List AI := [⟨some 37, .mov (.t 5), none⟩,
    ⟨some 38, .mov (.t 6), none⟩,
    ⟨some 39, .bin .add (.t 37) (.t 38), none⟩,
    ⟨some 5, .mov (.t 39), none⟩]
def f27_21 : AC := .seq (.reg f27_19) (.reg f27_20)
def f27_22 : AC := .cond (.t 27) f27_21 .skip
def f27_23 : AC := .seq (.reg f27_18) f27_22
def f27_24 : AC := .seq (.reg f27_17) f27_23
def f27_25 : AC := .block 2 f27_24
def f27_26 : List AI := [⟨some 19, .mov (.t 4), none⟩,
    ⟨some 20, .un .not (.t 19), none⟩,
    ⟨some 4, .mov (.t 20), none⟩]
def f27_27 : AC := .seq f27_25 (.reg f27_26)
def f27_28 : AC := .seq f27_16 f27_27
def f27_29 : AC := .loop f27_28
def f27_30 : AC := .block 1 f27_29
def f27_31 : AC := .seq (.reg f27_13) f27_30
def f27_32 : List AI := [⟨some 40, .mov (.t 2), none⟩,
    ⟨some 2, .mov (.t 40), none⟩,
    ⟨some 3, .mov (.c (.one (.int .i64 0))), none⟩]
def f27_33 : AC := .seq (.reg f27_32) .ret
def f27_34 : AC := .seq f27_31 f27_33
def f27_35 : AC := .seq (.reg f27_12) f27_34
def f27_36 : AC := .seq f27_11 f27_35
def f27_37 : AC := .seq (.reg f27_0) f27_36
def f27B : AC := f27_37
def f27 : AF := ⟨1, 41, [(.t 2), (.t 3)], f27B⟩
def f30_0 : List AI := [⟨some 2, .mov (.c (.one .nils)), none⟩,
    ⟨some 3, .mov (.c (.one (.int .i64 0))), none⟩]
def f30_1 : List AI := [⟨some 10, .mov (.t 0), none⟩,
    ⟨some 11, .call (.c (.one (.fn 28 []))) [(.t 10)], none⟩,
    ⟨some 9, .mov (.t 11), none⟩,
    ⟨some 12, .ext (.t 9) 0, none⟩,
    ⟨some 13, .ext (.t 9) 1, none⟩,
    ⟨some 4, .mov (.t 12), none⟩,
    ⟨some 5, .mov (.t 13), none⟩]
def f30_2 : List AI := [⟨some 6, .mov (.c (.one .nils)), none⟩]
def f30_3 : List AI := [⟨some 14, .mov (.t 4), none⟩,
    ⟨some 15, .len .slc (.t 14), none⟩,
    ⟨some 16, .mov (.c (.one (.int .i64 0))), none⟩]
def f30_4 : List AI := [⟨some 17, .bin .lss (.t 16) (.t 15), none⟩]
def f30_5 : AC := .cond (.t 17) .skip (.exit 0)
def f30_6 : List AI := [⟨some 18, .iaddr 3 (.t 14) (.t 16), none⟩,
    ⟨some 19, .load true 3 (.t 18), none⟩,
    ⟨some 8, .new [(.int .i64 0), (.int .i64 0), (.bool false)], none⟩,
    ⟨none, .store 3 (.t 8) (.t 19), none⟩]
def f30_7 : List AI := [⟨some 20, .faddr 2 (.t 8), none⟩,
    ⟨some 21, .load false 1 (.t 20), none⟩]
def f30_8 : List AI := [⟨some 22, .mov (.t 6), none⟩,
    ⟨some 23, .mov (.t 0), none⟩,
    ⟨some 24, .faddr 0 (.t 8), none⟩,
    ⟨some 25, .load false 1 (.t 24), none⟩,
    ⟨some 26, .faddr 1 (.t 8), none⟩,
    ⟨some 27, .load false 1 (.t 26), none⟩,
    ⟨some 28, .slice .str 1 (.t 23) (some (.t 25)) (some (.t 27)) none, none⟩,
    ⟨some 29, .rowLit 1 [(.str [])] 1 [(0, (.t 28))], none⟩,
    ⟨some 30, .app 1 16 (.t 22) (.t 29), none⟩,
    ⟨some 6, .mov (.t 30), none⟩]
def f30_9 : AC := .cond (.t 21) (.reg f30_8) .skip
def f30_10 : AC := .seq (.reg f30_7) f30_9
def f30_11 : AC := .seq (.reg f30_6) f30_10
def f30_12 : AC := .block 1 f30_11
def f30_13 : List AI := [⟨some 31, .bin .add (.t 16) (.c (.one (.int .i64 1))), none⟩,
    ⟨some 16, .mov (.t 31), none⟩]
def f30_14 : AC := .seq f30_12 (.reg f30_13)
def f30_15 : AC := .seq f30_5 f30_14
def f30_16 : AC := .seq (.reg f30_4) f30_15
def f30_17 : AC := .loop f30_16
def f30_18 : AC := .block 0 f30_17
def f30_19 : AC := .seq (.reg f30_3) f30_18
def f30_20 : List AI := [⟨some 32, .mov (.t 6), none⟩,
    ⟨some 33, .mov (.t 5), none⟩,
    ⟨some 2, .mov (.t 32), none⟩,
    ⟨some 3, .mov (.t 33), none⟩]
def f30_21 : AC := .seq (.reg f30_20) .ret
def f30_22 : AC := .seq f30_19 f30_21
def f30_23 : AC := .seq (.reg f30_2) f30_22
def f30_24 : AC := .seq (.reg f30_1) f30_23
def f30_25 : AC := .seq (.reg f30_0) f30_24
def f30B : AC := f30_25
def f30 : AF := ⟨1, 34, [(.t 2), (.t 3)], f30B⟩
def f31_0 : List AI := [⟨some 4, .mov (.c (.one (.bool false))), none⟩]
def f31_1 : List AI := [⟨some 6, .mov (.t 0), none⟩,
    ⟨some 7, .len .slc (.t 6), none⟩,
    ⟨some 8, .mov (.t 1), none⟩,
    ⟨some 9, .len .slc (.t 8), none⟩,
    ⟨some 10, .bin .neq (.t 7) (.t 9), none⟩]
def f31_2 : List AI := [⟨some 4, .mov (.c (.one (.bool false))), none⟩]
def f31_3 : AC := .seq (.reg f31_2) .ret
def f31_4 : AC := .cond (.t 10) f31_3 .skip
def f31_5 : AC := .seq (.reg f31_1) f31_4
def f31_6 : List AI := [⟨some 11, .mov (.t 0), none⟩,
    ⟨some 12, .len .slc (.t 11), none⟩,
    ⟨some 13, .mov (.c (.one (.int .i64 0))), none⟩]
def f31_7 : List AI := [⟨some 14, .bin .lss (.t 13) (.t 12), none⟩]
def f31_8 : AC := .cond (.t 14) .skip (.exit 0)
def f31_9 : List AI := [⟨some 15, .mov (.t 13), none⟩,
    ⟨some 5, .mov (.t 15), none⟩]
def f31_10 : List AI := [⟨some 16, .mov (.t 0), none⟩,
    ⟨some 17, .mov (.t 5), none⟩,
    ⟨some 18, .iaddr 3 (.t 16) (.t 17), none⟩,
    ⟨some 19, .load true 3 (.t 18), none⟩,
    ⟨some 20, .mov (.t 1), none⟩,
    ⟨some 21, .mov (.t 5), none⟩,
    ⟨some 22, .iaddr 3 (.t 20) (.t 21), none⟩,
    ⟨some 23, .load true 3 (.t 22), none⟩,
    ⟨some 24, .eqv (.cells [(.int .i64), (.int .i64), .bool]) true (.t 19) (.t 23), none⟩]
def f31_11 : List AI := [⟨some 4, .mov (.c (.one (.bool false))), none⟩]
def f31_12 : AC := .seq (.reg f31_11) .ret
def f31_13 : AC := .cond (.t 24) f31_12 .skip
def f31_14 : AC := .seq (.dreg f31_10) f31_13
def f31_15 : AC := .seq (.reg f31_9) f31_14
def f31_16 : AC := .block 1 f31_15
def f31_17 : List AI := [⟨some 25, .bin .add (.t 13) (.c (.one (.int .i64 1))), none⟩,
    ⟨some 13, .mov (.t 25), none⟩]
def f31_18 : AC := .seq f31_16 (.reg f31_17)
def f31_19 : AC := .seq f31_8 f31_18
def f31_20 : AC := .seq (.reg f31_7) f31_19
def f31_21 : AC := .loop f31_20
def f31_22 : AC := .block 0 f31_21
def f31_23 : AC := .seq (.reg f31_6) f31_22
def f31_24 : List AI := [⟨some 4, .mov (.c (.one (.bool true))), none⟩]
def f31_25 : AC := .seq (.reg f31_24) .ret
def f31_26 : AC := .seq f31_23 f31_25
def f31_27 : AC := .seq f31_5 f31_26
def f31_28 : AC := .seq (.reg f31_0) f31_27
def f31B : AC := f31_28
def f31 : AF := ⟨2, 26, [(.t 4)], f31B⟩
def f42_0 : List AI := [⟨some 4, .mov (.c (.one (.bool false))), none⟩]
def f42_1 : List AI := [⟨some 8, .mov (.t 0), none⟩,
    ⟨some 9, .call (.c (.one (.fn 28 []))) [(.t 8)], none⟩,
    ⟨some 7, .mov (.t 9), none⟩,
    ⟨some 10, .ext (.t 7) 0, none⟩,
    ⟨some 11, .ext (.t 7) 1, none⟩,
    ⟨some 5, .mov (.t 10), none⟩,
    ⟨some 6, .mov (.t 11), none⟩]
def f42_2 : List AI := [⟨some 12, .mov (.t 6), none⟩,
    ⟨some 13, .bin .eql (.t 12) (.c (.one (.int .i64 0))), none⟩,
    ⟨some 14, .mov (.t 13), none⟩,
    ⟨some 15, .mov (.t 5), some (14, true)⟩,
    ⟨some 16, .mov (.t 1), some (14, true)⟩,
    ⟨some 17, .call (.c (.one (.fn 31 []))) [(.t 15), (.t 16)], some (14, true)⟩,
    ⟨some 18, .pick (.t 14) (.t 17) (.c (.one (.bool false))), none⟩,
    ⟨some 4, .mov (.t 18), none⟩]
def f42_3 : AC := .seq (.reg f42_2) .ret
def f42_4 : AC := .seq (.reg f42_1) f42_3
def f42_5 : AC := .seq (.reg f42_0) f42_4
def f42B : AC := f42_5
def f42 : AF := ⟨2, 19, [(.t 4)], f42B⟩
def f52_0 : List AI := [⟨some 1, .box (.t 0), none⟩,
    ⟨some 2, .mov (.c (.one .nilf)), none⟩]
def f52_1 : List AI := [⟨some 3, .mkfn 73 [(.t 1)], none⟩,
    ⟨some 2, .mov (.t 3), none⟩]
def f52_2 : AC := .seq (.reg f52_1) .ret
def f52_3 : AC := .seq (.reg f52_0) f52_2
def f52B : AC := f52_3
def f52 : AF := ⟨1, 4, [(.t 2)], f52B⟩
def f72_0 : List AI := [⟨some 2, .mov (.c (.one (.int .i64 0))), none⟩]
def f72_1 : List AI := [⟨some 4, .mov (.t 0), none⟩,
    ⟨some 5, .bin .lss (.t 4) (.c (.one (.int .i32 0))), none⟩,
    ⟨some 3, .mov (.t 5), none⟩]
def f72_2 : List AI := [⟨some 2, .mov (.c (.one (.int .i64 (-1)))), none⟩]
def f72_3 : AC := .seq (.reg f72_2) .ret
def f72_4 : List AI := [⟨some 7, .mov (.t 0), none⟩,
    ⟨some 8, .bin .leq (.t 7) (.c (.one (.int .i32 127))), none⟩,
    ⟨some 6, .mov (.t 8), none⟩]
def f72_5 : List AI := [⟨some 2, .mov (.c (.one (.int .i64 1))), none⟩]
def f72_6 : AC := .seq (.reg f72_5) .ret
def f72_7 : List AI := [⟨some 10, .mov (.t 0), none⟩,
    ⟨some 11, .bin .leq (.t 10) (.c (.one (.int .i32 2047))), none⟩,
    ⟨some 9, .mov (.t 11), none⟩]
def f72_8 : List AI := [⟨some 2, .mov (.c (.one (.int .i64 2))), none⟩]
def f72_9 : AC := .seq (.reg f72_8) .ret
def f72_10 : List AI := [⟨some 13, .mov (.t 0), none⟩,
    ⟨some 14, .bin .leq (.c (.one (.int .i32 55296))) (.t 13), none⟩,
    ⟨some 15, .mov (.t 14), none⟩,
    ⟨some 16, .mov (.t 0), some (15, true)⟩,
    ⟨some 17, .bin .leq (.t 16) (.c (.one (.int .i32 57343))), some (15, true)⟩,
    ⟨some 18, .pick (.t 15) (.t 17) (.c (.one (.bool false))), none⟩,
    ⟨some 12, .mov (.t 18), none⟩]
def f72_11 : List AI := [⟨some 2, .mov (.c (.one (.int .i64 (-1)))), none⟩]
def f72_12 : AC := .seq (.reg f72_11) .ret
def f72_13 : List AI := [⟨some 20, .mov (.t 0), none⟩,
    ⟨some 21, .bin .leq (.t 20) (.c (.one (.int .i32 65535))), none⟩,
    ⟨some 19, .mov (.t 21), none⟩]
def f72_14 : List AI := [⟨some 2, .mov (.c (.one (.int .i64 3))), none⟩]
def f72_15 : AC := .seq (.reg f72_14) .ret
def f72_16 : List AI := [⟨some 23, .mov (.t 0), none⟩,
    ⟨some 24, .bin .leq (.t 23) (.c (.one (.int .i32 1114111))), none⟩,
    ⟨some 22, .mov (.t 24), none⟩]
def f72_17 : List AI := [⟨some 2, .mov (.c (.one (.int .i64 4))), none⟩]
def f72_18 : AC := .seq (.reg f72_17) .ret
def f72_19 : AC := .cond (.t 22) f72_18 .skip
def f72_20 : AC := .seq (.reg f72_16) f72_19
def f72_21 : AC := .cond (.t 19) f72_15 f72_20
def f72_22 : AC := .seq (.reg f72_13) f72_21
def f72_23 : AC := .cond (.t 12) f72_12 f72_22
def f72_24 : AC := .seq (.reg f72_10) f72_23
def f72_25 : AC := .cond (.t 9) f72_9 f72_24
def f72_26 : AC := .seq (.reg f72_7) f72_25
def f72_27 : AC := .cond (.t 6) f72_6 f72_26
def f72_28 : AC := .seq (.reg f72_4) f72_27
def f72_29 : AC := .cond (.t 3) f72_3 f72_28
def f72_30 : AC := .seq (.reg f72_1) f72_29
def f72_31 : AC := .block 0 f72_30
def f72_32 : List AI := [⟨some 2, .mov (.c (.one (.int .i64 (-1)))), none⟩]
def f72_33 : AC := .seq (.reg f72_32) .ret
def f72_34 : AC := .seq f72_31 f72_33
def f72_35 : AC := .seq (.reg f72_0) f72_34
def f72B : AC := f72_35
def f72 : AF := ⟨1, 25, [(.t 2)], f72B⟩
end Go.EA.F

