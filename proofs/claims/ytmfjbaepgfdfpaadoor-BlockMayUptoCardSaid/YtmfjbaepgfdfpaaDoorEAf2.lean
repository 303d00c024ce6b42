/- Functions of the program, as abstract code (printed by a program). Conditions: none (definitions). -/
import Derived.Test.YtmfjbaepgfdfpaaDoorEK1
namespace Go.EA.F
def f15_0 : List AI := [⟨some 6, .mov (.c (.one (.bool false))), none⟩]
def f15_1 : List AI := [⟨some 19, .call (.c (.one (.fn 26 []))) [], none⟩,
    ⟨some 20, .un .not (.t 19), none⟩]
def f15_2 : List AI := [⟨some 6, .mov (.c (.one (.bool false))), none⟩]
def f15_3 : AC := .seq (.reg f15_2) .ret
def f15_4 : AC := .cond (.t 20) f15_3 .skip
def f15_5 : AC := .seq (.reg f15_1) f15_4
def f15_6 : List AI := [⟨some 22, .mov (.t 0), none⟩,
    ⟨some 23, .call (.c (.one (.fn 27 []))) [(.t 22)], none⟩,
    ⟨some 21, .mov (.t 23), none⟩,
    ⟨some 24, .ext (.t 21) 0, none⟩,
    ⟨some 25, .ext (.t 21) 1, none⟩,
    ⟨some 7, .mov (.t 24), none⟩,
    ⟨some 8, .mov (.t 25), none⟩]
def f15_7 : List AI := [⟨some 27, .mov (.t 0), none⟩,
    ⟨some 28, .call (.c (.one (.fn 29 []))) [(.t 27)], none⟩,
    ⟨some 26, .mov (.t 28), none⟩,
    ⟨some 29, .ext (.t 26) 0, none⟩,
    ⟨some 30, .ext (.t 26) 1, none⟩,
    ⟨some 9, .mov (.t 29), none⟩,
    ⟨some 10, .mov (.t 30), none⟩]
def f15_8 : List AI := [⟨some 31, .mov (.t 0), none⟩,
    ⟨some 32, .len .str (.t 31), none⟩,
    ⟨some 33, .bin .gtr (.t 32) (.c (.one (.int .i64 2000))), none⟩,
    ⟨some 34, .mov (.t 33), none⟩,
    ⟨some 35, .mov (.t 8), some (34, false)⟩,
    ⟨some 36, .bin .neq (.t 35) (.c (.one (.int .i64 0))), some (34, false)⟩,
    ⟨some 37, .pick (.t 34) (.c (.one (.bool true))) (.t 36), none⟩,
    ⟨some 38, .mov (.t 37), none⟩,
    ⟨some 39, .mov (.t 7), some (38, false)⟩,
    ⟨some 40, .len .slc (.t 39), some (38, false)⟩,
    ⟨some 41, .bin .eql (.t 40) (.c (.one (.int .i64 0))), some (38, false)⟩,
    ⟨some 42, .pick (.t 38) (.c (.one (.bool true))) (.t 41), none⟩]
def f15_9 : List AI := [⟨some 6, .mov (.c (.one (.bool true))), none⟩]
def f15_10 : AC := .seq (.reg f15_9) .ret
def f15_11 : AC := .cond (.t 42) f15_10 .skip
def f15_12 : AC := .seq (.reg f15_8) f15_11
def f15_13 : List AI := [⟨some 43, .rowLit 3 [(.int .i64 0), (.int .i64 0), (.bool false)] 0 [], none⟩,
    ⟨some 44, .mov (.t 7), none⟩,
    ⟨some 45, .app 3 24 (.t 43) (.t 44), none⟩,
    ⟨some 11, .mov (.t 45), none⟩]
def f15_14 : List AI := [⟨some 46, .mov (.t 1), none⟩,
    ⟨some 47, .wrapI .i64 (.t 46), none⟩,
    ⟨some 48, .mov (.t 11), none⟩,
    ⟨some 49, .len .slc (.t 48), none⟩,
    ⟨some 50, .bin .rem (.t 47) (.t 49), none⟩,
    ⟨some 12, .mov (.t 50), none⟩]
def f15_15 : List AI := [⟨some 51, .mov (.t 2), none⟩,
    ⟨some 52, .bin .rem (.t 51) (.c (.one (.int .u8 4))), none⟩]
def f15_16 : List AI := [⟨some 54, .bin .eql (.t 52) (.c (.one (.int .u8 0))), none⟩,
    ⟨some 53, .mov (.t 54), none⟩]
def f15_17 : List AI := [⟨some 55, .mov (.t 11), none⟩,
    ⟨some 56, .mov (.t 12), none⟩,
    ⟨some 57, .iaddr 3 (.t 55) (.t 56), none⟩,
    ⟨some 58, .faddr 1 (.t 57), none⟩,
    ⟨some 59, .load false 1 (.t 58), none⟩,
    ⟨some 60, .bin .add (.t 59) (.c (.one (.int .i64 1))), none⟩,
    ⟨some 61, .iaddr 3 (.t 55) (.t 56), none⟩,
    ⟨some 62, .faddr 1 (.t 61), none⟩,
    ⟨none, .store 1 (.t 62) (.t 60), none⟩]
def f15_18 : List AI := [⟨some 64, .bin .eql (.t 52) (.c (.one (.int .u8 1))), none⟩,
    ⟨some 63, .mov (.t 64), none⟩]
def f15_19 : List AI := [⟨some 65, .mov (.t 11), none⟩,
    ⟨some 66, .mov (.t 12), none⟩,
    ⟨some 67, .iaddr 3 (.t 65) (.t 66), none⟩,
    ⟨some 68, .faddr 0 (.t 67), none⟩,
    ⟨some 69, .load false 1 (.t 68), none⟩,
    ⟨some 70, .bin .sub (.t 69) (.c (.one (.int .i64 1))), none⟩,
    ⟨some 71, .iaddr 3 (.t 65) (.t 66), none⟩,
    ⟨some 72, .faddr 0 (.t 71), none⟩,
    ⟨none, .store 1 (.t 72) (.t 70), none⟩]
def f15_20 : List AI := [⟨some 74, .bin .eql (.t 52) (.c (.one (.int .u8 2))), none⟩,
    ⟨some 73, .mov (.t 74), none⟩]
def f15_21 : List AI := [⟨some 75, .mov (.t 11), none⟩,
    ⟨some 76, .mov (.t 12), none⟩,
    ⟨some 77, .mov (.t 11), none⟩,
    ⟨some 78, .mov (.t 12), none⟩,
    ⟨some 79, .iaddr 3 (.t 77) (.t 78), none⟩,
    ⟨some 80, .faddr 2 (.t 79), none⟩,
    ⟨some 81, .load false 1 (.t 80), none⟩,
    ⟨some 82, .un .not (.t 81), none⟩,
    ⟨some 83, .iaddr 3 (.t 75) (.t 76), none⟩,
    ⟨some 84, .faddr 2 (.t 83), none⟩,
    ⟨none, .store 1 (.t 84) (.t 82), none⟩]
def f15_22 : List AI := [⟨some 86, .bin .eql (.t 52) (.c (.one (.int .u8 3))), none⟩,
    ⟨some 85, .mov (.t 86), none⟩]
def f15_23 : List AI := [⟨some 87, .mov (.t 11), none⟩,
    ⟨some 88, .mov (.t 12), none⟩,
    ⟨some 89, .slice .slc 3 (.t 87) none (some (.t 88)) none, none⟩,
    ⟨some 90, .mov (.t 11), none⟩,
    ⟨some 91, .mov (.t 12), none⟩,
    ⟨some 92, .bin .add (.t 91) (.c (.one (.int .i64 1))), none⟩,
    ⟨some 93, .slice .slc 3 (.t 90) (some (.t 92)) none none, none⟩,
    ⟨some 94, .app 3 24 (.t 89) (.t 93), none⟩,
    ⟨some 11, .mov (.t 94), none⟩]
def f15_24 : AC := .cond (.t 85) (.dreg f15_23) .skip
def f15_25 : AC := .seq (.reg f15_22) f15_24
def f15_26 : AC := .cond (.t 73) (.reg f15_21) f15_25
def f15_27 : AC := .seq (.reg f15_20) f15_26
def f15_28 : AC := .cond (.t 63) (.reg f15_19) f15_27
def f15_29 : AC := .seq (.reg f15_18) f15_28
def f15_30 : AC := .cond (.t 53) (.reg f15_17) f15_29
def f15_31 : AC := .seq (.reg f15_16) f15_30
def f15_32 : AC := .block 0 f15_31
def f15_33 : AC := .seq (.reg f15_15) f15_32
def f15_34 : List AI := [⟨some 96, .mov (.t 0), none⟩,
    ⟨some 97, .mov (.t 11), none⟩,
    ⟨some 98, .mov (.t 9), none⟩,
    ⟨some 99, .call (.c (.one (.fn 39 []))) [(.t 96), (.t 97), (.t 98)], none⟩,
    ⟨some 95, .mov (.t 99), none⟩,
    ⟨some 100, .ext (.t 95) 0, none⟩,
    ⟨some 101, .ext (.t 95) 1, none⟩,
    ⟨some 13, .mov (.t 100), none⟩,
    ⟨some 14, .mov (.t 101), none⟩]
def f15_35 : List AI := [⟨some 103, .mov (.t 0), none⟩,
    ⟨some 104, .mov (.t 7), none⟩,
    ⟨some 105, .rowLit 1 [(.str [])] 0 [], none⟩,
    ⟨some 106, .mov (.t 9), none⟩,
    ⟨some 107, .app 1 16 (.t 105) (.t 106), none⟩,
    ⟨some 108, .rowLit 1 [(.str [])] 1 [(0, (.c (.one (.str [120]))))], none⟩,
    ⟨some 109, .app 1 16 (.t 107) (.t 108), none⟩,
    ⟨some 110, .call (.c (.one (.fn 39 []))) [(.t 103), (.t 104), (.t 109)], none⟩,
    ⟨some 102, .mov (.t 110), none⟩,
    ⟨some 111, .ext (.t 102) 0, none⟩,
    ⟨some 112, .ext (.t 102) 1, none⟩,
    ⟨some 15, .mov (.t 111), none⟩,
    ⟨some 16, .mov (.t 112), none⟩]
def f15_36 : List AI := [⟨some 114, .call (.c (.one (.fn 44 []))) [(.c (.one (.str [120]))), (.c (.one (.int .i64 3)))], none⟩,
    ⟨some 115, .bin .add (.t 114) (.c (.one (.str [255]))), none⟩,
    ⟨some 116, .mov (.t 7), none⟩,
    ⟨some 117, .mov (.t 9), none⟩,
    ⟨some 118, .call (.c (.one (.fn 39 []))) [(.t 115), (.t 116), (.t 117)], none⟩,
    ⟨some 113, .mov (.t 118), none⟩,
    ⟨some 119, .ext (.t 113) 0, none⟩,
    ⟨some 120, .ext (.t 113) 1, none⟩,
    ⟨some 17, .mov (.t 119), none⟩,
    ⟨some 18, .mov (.t 120), none⟩]
def f15_37 : List AI := [⟨some 121, .mov (.t 0), none⟩,
    ⟨some 122, .mov (.t 11), none⟩,
    ⟨some 123, .call (.c (.one (.fn 41 []))) [(.t 121), (.t 122)], none⟩,
    ⟨some 124, .un .not (.t 123), none⟩,
    ⟨some 125, .mov (.t 124), none⟩,
    ⟨some 126, .mov (.t 13), some (125, true)⟩,
    ⟨some 127, .bin .eql (.t 126) (.c (.one (.str []))), some (125, true)⟩,
    ⟨some 128, .pick (.t 125) (.t 127) (.c (.one (.bool false))), none⟩,
    ⟨some 129, .mov (.t 128), none⟩,
    ⟨some 130, .mov (.t 14), some (129, true)⟩,
    ⟨some 131, .bin .eql (.t 130) (.c (.one (.int .i64 7))), some (129, true)⟩,
    ⟨some 132, .pick (.t 129) (.t 131) (.c (.one (.bool false))), none⟩,
    ⟨some 133, .mov (.t 132), none⟩,
    ⟨some 134, .mov (.t 15), some (133, true)⟩,
    ⟨some 135, .bin .eql (.t 134) (.c (.one (.str []))), some (133, true)⟩,
    ⟨some 136, .pick (.t 133) (.t 135) (.c (.one (.bool false))), none⟩,
    ⟨some 137, .mov (.t 136), none⟩,
    ⟨some 138, .mov (.t 16), some (137, true)⟩,
    ⟨some 139, .bin .eql (.t 138) (.c (.one (.int .i64 2))), some (137, true)⟩,
    ⟨some 140, .pick (.t 137) (.t 139) (.c (.one (.bool false))), none⟩,
    ⟨some 141, .mov (.t 140), none⟩,
    ⟨some 142, .mov (.t 17), some (141, true)⟩,
    ⟨some 143, .bin .eql (.t 142) (.c (.one (.str []))), some (141, true)⟩,
    ⟨some 144, .pick (.t 141) (.t 143) (.c (.one (.bool false))), none⟩,
    ⟨some 145, .mov (.t 144), none⟩,
    ⟨some 146, .mov (.t 18), some (145, true)⟩,
    ⟨some 147, .bin .eql (.t 146) (.c (.one (.int .i64 7))), some (145, true)⟩,
    ⟨some 148, .pick (.t 145) (.t 147) (.c (.one (.bool false))), none⟩,
    ⟨some 6, .mov (.t 148), none⟩]
def f15_38 : AC := .seq (.reg f15_37) .ret
def f15_39 : AC := .seq (.reg f15_36) f15_38
def f15_40 : AC := .seq (.reg f15_35) f15_39
def f15_41 : AC := .seq (.reg f15_34) f15_40
def f15_42 : AC := .seq f15_33 f15_41
def f15_43 : AC := .seq (.reg f15_14) f15_42
def f15_44 : AC := .seq (.reg f15_13) f15_43
def f15_45 : AC := .seq f15_12 f15_44
def f15_46 : AC := .seq (.reg f15_7) f15_45
def f15_47 : AC := .seq (.reg f15_6) f15_46
def f15_48 : AC := .seq f15_5 f15_47
def f15_49 : AC := .seq (.reg f15_0) f15_48
def f15B : AC := f15_49
def f15 : AF := ⟨3, 149, [(.t 6)], f15B⟩
def f27_0 : List AI := [⟨some 2, .mov (.c (.one .nils)), none⟩,
    ⟨some 3, .mov (.c (.one (.int .i64 0))), none⟩]
def f27_1 : List AI := [⟨some 8, .mov (.t 0), none⟩,
    ⟨some 9, .len .str (.t 8), none⟩,
    ⟨some 10, .bin .gtr (.t 9) (.c (.one (.int .i64 1048576))), none⟩,
    ⟨some 7, .mov (.t 10), none⟩]
def f27_2 : List AI := [⟨some 2, .mov (.c (.one .nils)), none⟩,
    ⟨some 3, .mov (.c (.one (.int .i64 5))), none⟩]
def f27_3 : AC := .seq (.reg f27_2) .ret
def f27_4 : List AI := [⟨some 12, .mov (.t 0), none⟩,
    ⟨some 13, .call (.c (.one (.fn 38 []))) [(.t 12)], none⟩,
    ⟨some 14, .un .not (.t 13), none⟩,
    ⟨some 11, .mov (.t 14), none⟩]
def f27_5 : List AI := [⟨some 2, .mov (.c (.one .nils)), none⟩,
    ⟨some 3, .mov (.c (.one (.int .i64 3))), none⟩]
def f27_6 : AC := .seq (.reg f27_5) .ret
def f27_7 : AC := .cond (.t 11) f27_6 .skip
def f27_8 : AC := .seq (.reg f27_4) f27_7
def f27_9 : AC := .cond (.t 7) f27_3 f27_8
def f27_10 : AC := .seq (.reg f27_1) f27_9
def f27_11 : AC := .block 0 f27_10
def f27_12 : List AI := [⟨some 4, .mov (.c (.one (.bool true))), none⟩]
def f27_13 : List AI := [⟨some 5, .mov (.c (.one (.int .i64 0))), none⟩]
def f27_14 : List AI := [⟨some 15, .mov (.t 5), none⟩,
    ⟨some 16, .mov (.t 0), none⟩,
    ⟨some 17, .len .str (.t 16), none⟩,
    ⟨some 18, .bin .lss (.t 15) (.t 17), none⟩]
def f27_15 : AC := .cond (.t 18) .skip (.exit 1)
def f27_16 : AC := .seq (.reg f27_14) f27_15
def f27_17 : List AI := [⟨some 21, .mov (.t 0), none⟩,
    ⟨some 22, .mov (.t 5), none⟩,
    ⟨some 23, .slice .str 1 (.t 21) (some (.t 22)) none none, none⟩,
    ⟨some 24, .mov (.t 4), none⟩,
    ⟨some 25, .call (.c (.one (.fn 50 []))) [(.t 23), (.t 24)], none⟩,
    ⟨some 6, .mov (.t 25), none⟩]
def f27_18 : List AI := [⟨some 26, .mov (.t 6), none⟩,
    ⟨some 27, .bin .gtr (.t 26) (.c (.one (.int .i64 0))), none⟩]
def f27_19 : List AI := [⟨some 28, .mov (.t 2), none⟩,
    ⟨some 29, .mov (.t 5), none⟩,
    ⟨some 30, .mov (.t 5), none⟩,
    ⟨some 31, .mov (.t 6), none⟩,
    ⟨some 32, .bin .add (.t 30) (.t 31), none⟩,
    ⟨some 33, .mov (.t 4), none⟩,
    ⟨some 34, .build [(.int .i64 0), (.int .i64 0), (.bool false)] [(0, (1, (.t 29))), (1, (1, (.t 32))), (2, (1, (.t 33)))], none⟩,
    ⟨some 35, .rowLit 3 [(.int .i64 0), (.int .i64 0), (.bool false)] 1 [(0, (.t 34))], none⟩,
    ⟨some 36, .app 3 24 (.t 28) (.t 35), none⟩,
    ⟨some 2, .mov (.t 36), none⟩]
def f27_20 : List AI := [⟨some 37, .mov (.t 5), none⟩,
    ⟨some 38, .mov (.t 6), none⟩,
    ⟨some 39, .bin .add (.t 37) (.t 38), none⟩,
    ⟨some 5, .mov (.t 39), none⟩]
def f27_21 : AC := .seq (.reg f27_19) (.reg f27_20)
def f27_22 : AC := .cond (.t 27) f27_21 .skip
def f27_23 : AC := .seq (.reg f27_18) f27_22
def f27_24 : AC := .seq (.reg f27_17) f27_23
def f27_25 : AC := .block 2 f27_24
def f27_26 : List AI := [⟨some 19, .mov (.t 4), none⟩,
    ⟨some 20, .un .not (.t 19), none⟩,
    ⟨some 4, .mov (.t 20), none⟩]
def f27_27 : AC := .seq f27_25 (.reg f27_26)
def f27_28 : AC := .seq f27_16 f27_27
def f27_29 : AC := .loop f27_28
def f27_30 : AC := .block 1 f27_29
def f27_31 : AC := .seq (.reg f27_13) f27_30
def f27_32 : List AI := [⟨some 40, .mov (.t 2), none⟩,
    ⟨some 2, .mov (.t 40), none⟩,
    ⟨some 3, .mov (.c (.one (.int .i64 0))), none⟩]
def f27_33 : AC := .seq (.reg f27_32) .ret
def f27_34 : AC := .seq f27_31 f27_33
def f27_35 : AC := .seq (.reg f27_12) f27_34
def f27_36 : AC := .seq f27_11 f27_35
def f27_37 : AC := .seq (.reg f27_0) f27_36
def f27B : AC := f27_37
def f27 : AF := ⟨1, 41, [(.t 2), (.t 3)], f27B⟩
def f30_0 : List AI := [⟨some 2, .mov (.c (.one .nils)), none⟩,
    ⟨some 3, .mov (.c (.one (.int .i64 0))), none⟩]
def f30_1 : List AI := [⟨some 10, .mov (.t 0), none⟩,
    ⟨some 11, .call (.c (.one (.fn 28 []))) [(.t 10)], none⟩,
    ⟨some 9, .mov (.t 11), none⟩,
    ⟨some 12, .ext (.t 9) 0, none⟩,
    ⟨some 13, .ext (.t 9) 1, none⟩,
    ⟨some 4, .mov (.t 12), none⟩,
    ⟨some 5, .mov (.t 13), none⟩]
def f30_2 : List AI := [⟨some 6, .mov (.c (.one .nils)), none⟩]
def f30_3 : List AI := [⟨some 14, .mov (.t 4), none⟩,
    ⟨some 15, .len .slc (.t 14), none⟩,
    ⟨some 16, .mov (.c (.one (.int .i64 0))), none⟩]
def f30_4 : List AI := [⟨some 17, .bin .lss (.t 16) (.t 15), none⟩]
def f30_5 : AC := .cond (.t 17) .skip (.exit 0)
def f30_6 : List AI := [⟨some 18, .iaddr 3 (.t 14) (.t 16), none⟩,
    ⟨some 19, .load true 3 (.t 18), none⟩,
    ⟨some 8, .new [(.int .i64 0), (.int .i64 0), (.bool false)], none⟩,
    ⟨none, .store 3 (.t 8) (.t 19), none⟩]
def f30_7 : List AI := [⟨some 20, .faddr 2 (.t 8), none⟩,
    ⟨some 21, .load false 1 (.t 20), none⟩]
def f30_8 : List AI := [⟨some 22, .mov (.t 6), none⟩,
    ⟨some 23, .mov (.t 0), none⟩,
    ⟨some 24, .faddr 0 (.t 8), none⟩,
    ⟨some 25, .load false 1 (.t 24), none⟩,
    ⟨some 26, .faddr 1 (.t 8), none⟩,
    ⟨some 27, .load false 1 (.t 26), none⟩,
    ⟨some 28, .slice .str 1 (.t 23) (some (.t 25)) (some (.t 27)) none, none⟩,
    ⟨some 29, .rowLit 1 [(.str [])] 1 [(0, (.t 28))], none⟩,
    ⟨some 30, .app 1 16 (.t 22) (.t 29), none⟩,
    ⟨some 6, .mov (.t 30), none⟩]
def f30_9 : AC := .cond (.t 21) (.reg f30_8) .skip
def f30_10 : AC := .seq (.reg f30_7) f30_9
def f30_11 : AC := .seq (.reg f30_6) f30_10
def f30_12 : AC := .block 1 f30_11
def f30_13 : List AI := [⟨some 31, .bin .add (.t 16) (.c (.one (.int .i64 1))), none⟩,
    ⟨some 16, .mov (.t 31), none⟩]
def f30_14 : AC := .seq f30_12 (.reg f30_13)
def f30_15 : AC := .seq f30_5 f30_14
def f30_16 : AC := .seq (.reg f30_4) f30_15
def f30_17 : AC := .loop f30_16
def f30_18 : AC := .block 0 f30_17
def f30_19 : AC := .seq (.reg f30_3) f30_18
def f30_20 : List AI := [⟨some 32, .mov (.t 6), none⟩,
    ⟨some 33, .mov (.t 5), none⟩,
    ⟨some 2, .mov (.t 32), none⟩,
    ⟨some 3, .mov (.t 33), none⟩]
def f30_21 : AC := .seq (.reg f30_20) .ret
def f30_22 : AC := .seq f30_19 f30_21
def f30_23 : AC := .seq (.reg f30_2) f30_22
def f30_24 : AC := .seq (.reg f30_1) f30_23
def f30_25 : AC := .seq (.reg f30_0) f30_24
def f30B : AC := f30_25
def f30 : AF := ⟨1, 34, [(.t 2), (.t 3)], f30B⟩
def f31_0 : List AI := [⟨some 4, .mov (.c (.one (.bool false))), none⟩]
def f31_1 : List AI := [⟨some 6, .mov (.t 0), none⟩,
    ⟨some 7, .len .slc (.t 6), none⟩,
    ⟨some 8, .mov (.t 1), none⟩,
    ⟨some 9, .len .slc (.t 8), none⟩,
    ⟨some 10, .bin .neq (.t 7) (.t 9), none⟩]
def f31_2 : List AI := [⟨some 4, .mov (.c (.one (.bool false))), none⟩]
def f31_3 : AC := .seq (.reg f31_2) .ret
def f31_4 : AC := .cond (.t 10) f31_3 .skip
def f31_5 : AC := .seq (.reg f31_1) f31_4
def f31_6 : List AI := [⟨some 11, .mov (.t 0), none⟩,
    ⟨some 12, .len .slc (.t 11), none⟩,
    ⟨some 13, .mov (.c (.one (.int .i64 0))), none⟩]
def f31_7 : List AI := [⟨some 14, .bin .lss (.t 13) (.t 12), none⟩]
def f31_8 : AC := .cond (.t 14) .skip (.exit 0)
def f31_9 : List AI := [⟨some 15, .mov (.t 13), none⟩,
    ⟨some 5, .mov (.t 15), none⟩]
def f31_10 : List AI := [⟨some 16, .mov (.t 0), none⟩,
    ⟨some 17, .mov (.t 5), none⟩,
    ⟨some 18, .iaddr 3 (.t 16) (.t 17), none⟩,
    ⟨some 19, .load true 3 (.t 18), none⟩,
    ⟨some 20, .mov (.t 1), none⟩,
    ⟨some 21, .mov (.t 5), none⟩,
    ⟨some 22, .iaddr 3 (.t 20) (.t 21), none⟩,
    ⟨some 23, .load true 3 (.t 22), none⟩,
    ⟨some 24, .eqv (.cells [(.int .i64), (.int .i64), .bool]) true (.t 19) (.t 23), none⟩]
def f31_11 : List AI := [⟨some 4, .mov (.c (.one (.bool false))), none⟩]
def f31_12 : AC := .seq (.reg f31_11) .ret
def f31_13 : AC := .cond (.t 24) f31_12 .skip
def f31_14 : AC := .seq (.dreg f31_10) f31_13
def f31_15 : AC := .seq (.reg f31_9) f31_14
def f31_16 : AC := .block 1 f31_15
def f31_17 : List AI := [⟨some 25, .bin .add (.t 13) (.c (.one (.int .i64 1))), none⟩,
    ⟨some 13, .mov (.t 25), none⟩]
def f31_18 : AC := .seq f31_16 (.reg f31_17)
def f31_19 : AC := .seq f31_8 f31_18
def f31_20 : AC := .seq (.reg f31_7) f31_19
def f31_21 : AC := .loop f31_20
def f31_22 : AC := .block 0 f31_21
def f31_23 : AC := .seq (.reg f31_6) f31_22
def f31_24 : List AI := [⟨some 4, .mov (.c (.one (.bool true))), none⟩]
def f31_25 : AC := .seq (.reg f31_24) .ret
def f31_26 : AC := .seq f31_23 f31_25
def f31_27 : AC := .seq f31_5 f31_26
def f31_28 : AC := .seq (.reg f31_0) f31_27
def f31B : AC := f31_28
def f31 : AF := ⟨2, 26, [(.t 4)], f31B⟩
def f39_0 : List AI := [⟨some 3, .box (.t 0), none⟩,
    ⟨some 5, .box (.t 2), none⟩,
    ⟨some 6, .mov (.c (.one (.str []))), none⟩,
    ⟨some 7, .mov (.c (.one (.int .i64 0))), none⟩]
def f39_1 : List AI := [⟨some 14, .load false 1 (.t 3), none⟩,
    ⟨some 15, .mov (.t 1), none⟩,
    ⟨some 16, .call (.c (.one (.fn 41 []))) [(.t 14), (.t 15)], none⟩,
    ⟨some 17, .un .not (.t 16), none⟩]
def f39_2 : List AI := [⟨some 6, .mov (.c (.one (.str []))), none⟩,
    ⟨some 7, .mov (.c (.one (.int .i64 7))), none⟩]
def f39_3 : AC := .seq (.reg f39_2) .ret
def f39_4 : AC := .cond (.t 17) f39_3 .skip
def f39_5 : AC := .seq (.reg f39_1) f39_4
def f39_6 : List AI := [⟨some 8, .new [(.int .i64 0)], none⟩,
    ⟨none, .store 1 (.t 8) (.c (.one (.int .i64 0))), none⟩]
def f39_7 : List AI := [⟨some 18, .mov (.t 1), none⟩,
    ⟨some 19, .call (.c (.one (.fn 52 []))) [(.t 18)], none⟩]
def f39_8 : List AI := [⟨some 9, .mov (.t 20), none⟩]
def f39_9 : List AI := [⟨some 22, .mov (.t 9), none⟩,
    ⟨some 23, .bin .add (.t 22) (.c (.one (.int .i64 1))), none⟩,
    ⟨none, .store 1 (.t 8) (.t 23), none⟩]
def f39_10 : AC := .block 1 (.reg f39_9)
def f39_11 : AC := .rangeF (.t 19) [20, 21] (.reg f39_8) f39_10
def f39_12 : AC := .block 0 f39_11
def f39_13 : AC := .seq (.reg f39_7) f39_12
def f39_14 : List AI := [⟨some 24, .load false 1 (.t 8), none⟩,
    ⟨some 25, .load false 1 (.t 5), none⟩,
    ⟨some 26, .len .slc (.t 25), none⟩,
    ⟨some 27, .bin .neq (.t 24) (.t 26), none⟩]
def f39_15 : List AI := [⟨some 6, .mov (.c (.one (.str []))), none⟩,
    ⟨some 7, .mov (.c (.one (.int .i64 2))), none⟩]
def f39_16 : AC := .seq (.reg f39_15) .ret
def f39_17 : AC := .cond (.t 27) f39_16 .skip
def f39_18 : AC := .seq (.reg f39_14) f39_17
def f39_19 : List AI := [⟨some 10, .new [.nilp, .nils], none⟩]
def f39_20 : List AI := [⟨some 11, .new [(.int .i64 0)], none⟩,
    ⟨none, .store 1 (.t 11) (.c (.one (.int .i64 0))), none⟩]
def f39_21 : List AI := [⟨some 28, .mov (.t 1), none⟩,
    ⟨some 29, .call (.c (.one (.fn 52 []))) [(.t 28)], none⟩]
def f39_22 : List AI := [⟨some 12, .mov (.t 30), none⟩]
def f39_23 : List AI := [⟨some 13, .new [(.int .i64 0), (.int .i64 0), (.bool false)], none⟩,
    ⟨none, .store 3 (.t 13) (.t 31), none⟩]
def f39_24 : AC := .seq (.reg f39_22) (.reg f39_23)
def f39_25 : List AI := [⟨some 32, .load false 1 (.t 3), none⟩,
    ⟨some 33, .load false 1 (.t 11), none⟩,
    ⟨some 34, .faddr 0 (.t 13), none⟩,
    ⟨some 35, .load false 1 (.t 34), none⟩,
    ⟨some 36, .slice .str 1 (.t 32) (some (.t 33)) (some (.t 35)) none, none⟩,
    ⟨some 37, .call (.c (.one (.fn 61 []))) [(.t 10), (.t 36)], none⟩]
def f39_26 : List AI := [⟨some 38, .load false 1 (.t 5), none⟩,
    ⟨some 39, .mov (.t 12), none⟩,
    ⟨some 40, .iaddr 1 (.t 38) (.t 39), none⟩,
    ⟨some 41, .load false 1 (.t 40), none⟩,
    ⟨some 42, .call (.c (.one (.fn 61 []))) [(.t 10), (.t 41)], none⟩]
def f39_27 : List AI := [⟨some 43, .faddr 1 (.t 13), none⟩,
    ⟨some 44, .load false 1 (.t 43), none⟩,
    ⟨none, .store 1 (.t 11) (.t 44), none⟩]
def f39_28 : AC := .seq (.reg f39_26) (.reg f39_27)
def f39_29 : AC := .seq (.reg f39_25) f39_28
def f39_30 : AC := .block 3 f39_29
def f39_31 : AC := .rangeF (.t 29) [30, 31] f39_24 f39_30
def f39_32 : AC := .block 2 f39_31
def f39_33 : AC := .seq (.reg f39_21) f39_32
def f39_34 : List AI := [⟨some 45, .load false 1 (.t 3), none⟩,
    ⟨some 46, .load false 1 (.t 11), none⟩,
    ⟨some 47, .slice .str 1 (.t 45) (some (.t 46)) none none, none⟩,
    ⟨some 48, .call (.c (.one (.fn 61 []))) [(.t 10), (.t 47)], none⟩]
def f39_35 : List AI := [⟨some 49, .call (.c (.one (.fn 62 []))) [(.t 10)], none⟩,
    ⟨some 6, .mov (.t 49), none⟩,
    ⟨some 7, .mov (.c (.one (.int .i64 0))), none⟩]
def f39_36 : AC := .seq (.reg f39_35) .ret
def f39_37 : AC := .seq (.reg f39_34) f39_36
def f39_38 : AC := .seq f39_33 f39_37
def f39_39 : AC := .seq (.reg f39_20) f39_38
def f39_40 : AC := .seq (.reg f39_19) f39_39
def f39_41 : AC := .seq f39_18 f39_40
def f39_42 : AC := .seq f39_13 f39_41
def f39_43 : AC := .seq (.reg f39_6) f39_42
def f39_44 : AC := .seq f39_5 f39_43
def f39_45 : AC := .seq (.reg f39_0) f39_44
def f39B : AC := f39_45
def f39 : AF := ⟨3, 50, [(.t 6), (.t 7)], f39B⟩
def f42_0 : List AI := [⟨some 4, .mov (.c (.one (.bool false))), none⟩]
def f42_1 : List AI := [⟨some 8, .mov (.t 0), none⟩,
    ⟨some 9, .call (.c (.one (.fn 28 []))) [(.t 8)], none⟩,
    ⟨some 7, .mov (.t 9), none⟩,
    ⟨some 10, .ext (.t 7) 0, none⟩,
    ⟨some 11, .ext (.t 7) 1, none⟩,
    ⟨some 5, .mov (.t 10), none⟩,
    ⟨some 6, .mov (.t 11), none⟩]
def f42_2 : List AI := [⟨some 12, .mov (.t 6), none⟩,
    ⟨some 13, .bin .eql (.t 12) (.c (.one (.int .i64 0))), none⟩,
    ⟨some 14, .mov (.t 13), none⟩,
    ⟨some 15, .mov (.t 5), some (14, true)⟩,
    ⟨some 16, .mov (.t 1), some (14, true)⟩,
    ⟨some 17, .call (.c (.one (.fn 31 []))) [(.t 15), (.t 16)], some (14, true)⟩,
    ⟨some 18, .pick (.t 14) (.t 17) (.c (.one (.bool false))), none⟩,
    ⟨some 4, .mov (.t 18), none⟩]
def f42_3 : AC := .seq (.reg f42_2) .ret
def f42_4 : AC := .seq (.reg f42_1) f42_3
def f42_5 : AC := .seq (.reg f42_0) f42_4
def f42B : AC := f42_5
def f42 : AF := ⟨2, 19, [(.t 4)], f42B⟩
def f50_0 : List AI := [⟨some 4, .mov (.c (.one (.int .i64 0))), none⟩]
def f50_1 : List AI := [⟨some 7, .mov (.t 0), none⟩,
    ⟨some 8, .rng (.t 7), none⟩]
def f50_2 : List AI := [⟨some 9, .nxt (.t 8), none⟩,
    ⟨some 10, .ext (.t 9) 0, none⟩]
def f50_3 : AC := .cond (.t 10) .skip (.exit 0)
def f50_4 : List AI := [⟨some 11, .ext (.t 9) 1, none⟩,
    ⟨some 12, .ext (.t 9) 2, none⟩,
    ⟨some 5, .mov (.t 11), none⟩,
    ⟨some 6, .mov (.t 12), none⟩]
def f50_5 : List AI := [⟨some 13, .mov (.t 6), none⟩,
    ⟨some 14, .call (.c (.one (.fn 35 []))) [(.t 13)], none⟩,
    ⟨some 15, .mov (.t 1), none⟩,
    ⟨some 16, .eqv .bool true (.t 14) (.t 15), none⟩]
def f50_6 : AC := .cond (.t 16) (.exit 0) .skip
def f50_7 : AC := .seq (.reg f50_5) f50_6
def f50_8 : List AI := [⟨some 17, .mov (.t 5), none⟩,
    ⟨some 18, .mov (.t 6), none⟩,
    ⟨some 19, .call (.c (.one (.fn 72 []))) [(.t 18)], none⟩,
    ⟨some 20, .bin .add (.t 17) (.t 19), none⟩,
    ⟨some 4, .mov (.t 20), none⟩]
def f50_9 : AC := .seq f50_7 (.reg f50_8)
def f50_10 : AC := .seq (.reg f50_4) f50_9
def f50_11 : AC := .block 1 f50_10
def f50_12 : AC := .seq f50_3 f50_11
def f50_13 : AC := .seq (.reg f50_2) f50_12
def f50_14 : AC := .loop f50_13
def f50_15 : AC := .block 0 f50_14
def f50_16 : AC := .seq (.reg f50_1) f50_15
def f50_17 : List AI := [⟨some 21, .mov (.t 4), none⟩,
    ⟨some 4, .mov (.t 21), none⟩]
def f50_18 : AC := .seq (.reg f50_17) .ret
def f50_19 : AC := .seq f50_16 f50_18
def f50_20 : AC := .seq .skip f50_19
def f50_21 : AC := .seq .skip f50_20
def f50_22 : AC := .seq (.reg f50_0) f50_21
def f50B : AC := f50_22
def f50 : AF := ⟨2, 22, [(.t 4)], f50B⟩
def f52_0 : List AI := [⟨some 1, .box (.t 0), none⟩,
    ⟨some 2, .mov (.c (.one .nilf)), none⟩]
def f52_1 : List AI := [⟨some 3, .mkfn 73 [(.t 1)], none⟩,
    ⟨some 2, .mov (.t 3), none⟩]
def f52_2 : AC := .seq (.reg f52_1) .ret
def f52_3 : AC := .seq (.reg f52_0) f52_2
def f52B : AC := f52_3
def f52 : AF := ⟨1, 4, [(.t 2)], f52B⟩
def f72_0 : List AI := [⟨some 2, .mov (.c (.one (.int .i64 0))), none⟩]
def f72_1 : List AI := [⟨some 4, .mov (.t 0), none⟩,
    ⟨some 5, .bin .lss (.t 4) (.c (.one (.int .i32 0))), none⟩,
    ⟨some 3, .mov (.t 5), none⟩]
def f72_2 : List AI := [⟨some 2, .mov (.c (.one (.int .i64 (-1)))), none⟩]
def f72_3 : AC := .seq (.reg f72_2) .ret
def f72_4 : List AI := [⟨some 7, .mov (.t 0), none⟩,
    ⟨some 8, .bin .leq (.t 7) (.c (.one (.int .i32 127))), none⟩,
    ⟨some 6, .mov (.t 8), none⟩]
def f72_5 : List AI := [⟨some 2, .mov (.c (.one (.int .i64 1))), none⟩]
def f72_6 : AC := .seq (.reg f72_5) .ret
def f72_7 : List AI := [⟨some 10, .mov (.t 0), none⟩,
    ⟨some 11, .bin .leq (.t 10) (.c (.one (.int .i32 2047))), none⟩,
    ⟨some 9, .mov (.t 11), none⟩]
def f72_8 : List AI := [⟨some 2, .mov (.c (.one (.int .i64 2))), none⟩]
def f72_9 : AC := .seq (.reg f72_8) .ret
def f72_10 : List AI := [⟨some 13, .mov (.t 0), none⟩,
    ⟨some 14, .bin .leq (.c (.one (.int .i32 55296))) (.t 13), none⟩,
    ⟨some 15, .mov (.t 14), none⟩,
    ⟨some 16, .mov (.t 0), some (15, true)⟩,
    ⟨some 17, .bin .leq (.t 16) (.c (.one (.int .i32 57343))), some (15, true)⟩,
    ⟨some 18, .pick (.t 15) (.t 17) (.c (.one (.bool false))), none⟩,
    ⟨some 12, .mov (.t 18), none⟩]
def f72_11 : List AI := [⟨some 2, .mov (.c (.one (.int .i64 (-1)))), none⟩]
def f72_12 : AC := .seq (.reg f72_11) .ret
def f72_13 : List AI := [⟨some 20, .mov (.t 0), none⟩,
    ⟨some 21, .bin .leq (.t 20) (.c (.one (.int .i32 65535))), none⟩,
    ⟨some 19, .mov (.t 21), none⟩]
def f72_14 : List AI := [⟨some 2, .mov (.c (.one (.int .i64 3))), none⟩]
def f72_15 : AC := .seq (.reg f72_14) .ret
def f72_16 : List AI := [⟨some 23, .mov (.t 0), none⟩,
    ⟨some 24, .bin .leq (.t 23) (.c (.one (.int .i32 1114111))), none⟩,
    ⟨some 22, .mov (.t 24), none⟩]
def f72_17 : List AI := [⟨some 2, .mov (.c (.one (.int .i64 4))), none⟩]
def f72_18 : AC := .seq (.reg f72_17) .ret
def f72_19 : AC := .cond (.t 22) f72_18 .skip
def f72_20 : AC := .seq (.reg f72_16) f72_19
def f72_21 : AC := .cond (.t 19) f72_15 f72_20
def f72_22 : AC := .seq (.reg f72_13) f72_21
def f72_23 : AC := .cond (.t 12) f72_12 f72_22
def f72_24 : AC := .seq (.reg f72_10) f72_23
def f72_25 : AC := .cond (.t 9) f72_9 f72_24
def f72_26 : AC := .seq (.reg f72_7) f72_25
def f72_27 : AC := .cond (.t 6) f72_6 f72_26
def f72_28 : AC := .seq (.reg f72_4) f72_27
def f72_29 : AC := .cond (.t 3) f72_3 f72_28
def f72_30 : AC := .seq (.reg f72_1) f72_29
def f72_31 : AC := .block 0 f72_30
def f72_32 : List AI := [⟨some 2, .mov (.c (.one (.int .i64 (-1)))), none⟩]
def f72_33 : AC := .seq (.reg f72_32) .ret
def f72_34 : AC := .seq f72_31 f72_33
def f72_35 : AC := .seq (.reg f72_0) f72_34
def f72B : AC := f72_35
def f72 : AF := ⟨1, 25, [(.t 2)], f72B⟩
end Go.EA.F

