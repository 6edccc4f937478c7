/- Part 3 of the means of the proof: a verified abstract evaluator, the prepared functions, and contracts of functions. It states nothing of the claim by itself. -/
import Derived.Test.YtnkkhniiddjibaaGreatB2
import Derived.KernelRfl
import Derived.Test.YtnkkhniiddjibaaGreatProg
set_option linter.unusedSimpArgs false
set_option linter.unusedVariables false
namespace Go.Proofs
open Go Go.Abs
set_option maxRecDepth 100000
abbrev oo (t : Nat) (op : AOp) : AOper := ⟨some t, op, none⟩
def tf6 : TFn := ⟨134, [.tmp 6],.seq (.region false [oo 6 (.mov (.c (.bool false)))]) [0, 1, 2] (.seq (.seq (.region false [oo 17 (.mov (.s 1)),oo 18 (.len (.s 17)),oo 19 (.bin .gtr false (.s 18) (.c (.int .i64 40))),oo 20 (.mov (.s 19)),⟨some 21, .mov (.s 2), (some (20, false))⟩,
 ⟨some 22, .len (.s 21), (some (20, false))⟩,⟨some 23, .bin .gtr false (.s 22) (.c (.int .i64 20)), (some (20, false))⟩,oo 24 (.pick (.s 20) (.c (.bool true)) (.s 23))]) [0, 1, 2, 24] (.cond (.s 24) (.seq (.region false [oo 25 (.call 9 []),oo 6 (.mov (.s 25))]) [6] (.ret)) (.skip))) [0, 1, 2] (
 .seq (.region false [oo 26 (.mov (.s 0)),oo 27 (.call 10 [(.s 26), (.c (.int .i64 4))]),oo 7 (.alloc 26 [(.fsl [])]),⟨none, .store 1 (.s 7) (.s 27), none⟩]) [1, 2, 7] (.seq (.region false [oo 28 (.load true 1 (.s 7)),oo 29 (.mov (.s 1)),oo 30 (.call 11 [(.s 28), (.s 29)]),
 oo 8 (.mov (.s 30))]) [2, 7, 8] (.seq (.region false [oo 32 (.load true 1 (.s 7)),oo 33 (.mov (.s 8)),oo 34 (.mov (.s 2)),oo 35 (.call 12 [(.s 32), (.s 33), (.s 34)]),oo 31 (.mov (.s 35)),oo 36 (.extract 0 (.s 31)),oo 37 (.extract 1 (.s 31)),oo 9 (.mov (.s 36)),oo 10 (.mov (.s 37))]) [7, 8, 9] (
 .seq (.region false [oo 39 (.load true 1 (.s 7)),oo 40 (.mov (.s 8)),oo 41 (.mov (.s 9)),oo 42 (.call 14 [(.s 39), (.s 40), (.s 41)]),oo 38 (.mov (.s 42)),oo 43 (.extract 0 (.s 38)),oo 44 (.extract 1 (.s 38)),oo 11 (.mov (.s 43)),oo 12 (.mov (.s 44))]) [7, 8, 9, 11] (.seq (.seq (
 .region false [oo 45 (.mov (.s 9)),oo 46 (.len (.s 45)),oo 13 (.mov (.s 46))]) [7, 8, 9, 11, 13] (.block 0 (.loop (.seq (.seq (.region false [oo 47 (.mov (.s 13)),oo 48 (.mov (.s 11)),oo 49 (.len (.s 48)),oo 50 (.bin .lss false (.s 47) (.s 49))]) [7, 8, 9, 11, 13, 50] (.cond (.s 50) (.skip) (
 .exit 0))) [7, 8, 9, 11, 13] (.seq (.block 1 (.seq (.region false [oo 53 (.mov (.s 11)),oo 54 (.mov (.s 13)),oo 55 (.indexAddr 4 (.s 53) (.s 54)),oo 56 (.load true 4 (.s 55)),oo 14 (.alloc 50 [(.int .i64 0), (.int .i64 0), (.int .i64 0), (.int .i64 0)]),
 ⟨none, .store 4 (.s 14) (.s 56), none⟩]) [7, 8, 9, 11, 13, 14] (.seq (.seq (.region true [oo 57 (.fieldAddr 3 (.s 14)),oo 58 (.load false 1 (.s 57)),oo 59 (.bin .lss false (.s 58) (.c (.int .i64 0))),oo 60 (.mov (.s 59)),⟨some 61, .fieldAddr 3 (.s 14), (some (60, false))⟩,
 ⟨some 62, .load false 1 (.s 61), (some (60, false))⟩,⟨some 63, .mov (.s 8), (some (60, false))⟩,⟨some 64, .len (.s 63), (some (60, false))⟩,⟨some 65, .bin .geq false (.s 62) (.s 64), (some (60, false))⟩,oo 66 (.pick (.s 60) (.c (.bool true)) (.s 65)),oo 67 (.mov (.s 66)),
 ⟨some 68, .fieldAddr 2 (.s 14), (some (67, false))⟩,⟨some 69, .load false 1 (.s 68), (some (67, false))⟩,⟨some 70, .mov (.s 9), (some (67, false))⟩,⟨some 71, .call 25 [(.s 70)], (some (67, false))⟩,⟨some 72, .bin .neq false (.s 69) (.s 71), (some (67, false))⟩,
 oo 73 (.pick (.s 67) (.c (.bool true)) (.s 72))]) [7, 8, 9, 11, 13, 14, 73] (.cond (.s 73) (.seq (.region false [oo 6 (.mov (.c (.bool false)))]) [6] (.ret)) (.skip))) [7, 8, 9, 11, 13, 14] (.seq (.region false [oo 74 (.mov (.s 8)),oo 75 (.fieldAddr 3 (.s 14)),oo 76 (.load false 1 (.s 75)),
 oo 77 (.indexAddr 1 (.s 74) (.s 76)),oo 78 (.load false 1 (.s 77)),oo 15 (.mov (.s 78))]) [7, 8, 9, 11, 13, 14, 15] (.seq (.seq (.region true [oo 79 (.fieldAddr 1 (.s 14)),oo 80 (.load false 1 (.s 79)),oo 81 (.load true 1 (.s 7)),oo 82 (.mov (.s 11)),oo 83 (.mov (.s 13)),
 oo 84 (.slice 4 (.s 82) none (some (.s 83)) none),oo 85 (.fieldAddr 0 (.s 14)),oo 86 (.load false 1 (.s 85)),oo 87 (.call 26 [(.s 81), (.s 84), (.s 86)]),oo 88 (.load true 1 (.s 7)),oo 89 (.fieldAddr 0 (.s 14)),oo 90 (.load false 1 (.s 89)),oo 91 (.call 27 [(.s 88), (.s 90)]),
 oo 92 (.load true 1 (.s 7)),oo 93 (.mov (.s 15)),oo 94 (.fieldAddr 0 (.s 14)),oo 95 (.load false 1 (.s 94)),oo 96 (.call 28 [(.s 92), (.s 93), (.s 95)]),oo 97 (.bin .sub false (.s 91) (.s 96)),oo 98 (.bin .and false (.s 87) (.s 97)),
 oo 99 (.bin .neq false (.s 80) (.s 98))]) [7, 8, 9, 11, 13, 14, 15, 99] (.cond (.s 99) (.seq (.region false [oo 6 (.mov (.c (.bool false)))]) [6] (.ret)) (.skip))) [7, 8, 9, 11, 13, 14, 15] (.seq (.region false [oo 16 (.mov (.c (.int .i64 0)))]) [7, 8, 9, 11, 13, 14, 15, 16] (.block 2 (.loop (
 .seq (.seq (.region false [oo 100 (.mov (.s 16)),oo 101 (.mov (.s 15)),oo 102 (.len (.s 101)),oo 103 (.bin .lss false (.s 100) (.s 102))]) [7, 8, 9, 11, 13, 14, 15, 16, 103] (.cond (.s 103) (.skip) (.exit 2))) [7, 8, 9, 11, 13, 14, 15, 16] (.seq (.block 3 (.seq (
 .region true [oo 106 (.mov (.s 15)),oo 107 (.mov (.s 16)),oo 108 (.indexAddr 2 (.s 106) (.s 107)),oo 109 (.fieldAddr 0 (.s 108)),oo 110 (.load false 1 (.s 109)),oo 111 (.fieldAddr 0 (.s 14)),oo 112 (.load false 1 (.s 111)),oo 113 (.bin .neq false (.s 110) (.s 112)),oo 114 (.mov (.s 113)),
 ⟨some 115, .load true 1 (.s 7), (some (114, true))⟩,⟨some 116, .mov (.s 11), (some (114, true))⟩,⟨some 117, .mov (.s 13), (some (114, true))⟩,⟨some 118, .slice 4 (.s 116) none (some (.s 117)) none, (some (114, true))⟩,⟨some 119, .mov (.s 15), (some (114, true))⟩,
 ⟨some 120, .mov (.s 16), (some (114, true))⟩,⟨some 121, .indexAddr 2 (.s 119) (.s 120), (some (114, true))⟩,⟨some 122, .fieldAddr 0 (.s 121), (some (114, true))⟩,⟨some 123, .load false 1 (.s 122), (some (114, true))⟩,⟨some 124, .call 26 [(.s 115), (.s 118), (.s 123)], (some (114, true))⟩,
 ⟨some 125, .mov (.s 15), (some (114, true))⟩,⟨some 126, .mov (.s 16), (some (114, true))⟩,⟨some 127, .indexAddr 2 (.s 125) (.s 126), (some (114, true))⟩,⟨some 128, .fieldAddr 1 (.s 127), (some (114, true))⟩,⟨some 129, .load false 1 (.s 128), (some (114, true))⟩,
 ⟨some 130, .call 29 [(.s 124), (.s 129)], (some (114, true))⟩,⟨some 131, .bin .neq false (.s 130) (.c (.int .i64 2)), (some (114, true))⟩,oo 132 (.pick (.s 114) (.s 131) (.c (.bool false)))]) [7, 8, 9, 11, 13, 14, 15, 16, 132] (.cond (.s 132) (.seq (
 .region false [oo 6 (.mov (.c (.bool false)))]) [6] (.ret)) (.skip)))) [7, 8, 9, 11, 13, 14, 15, 16] (.region false [oo 104 (.mov (.s 16)),oo 105 (.bin .add false (.s 104) (.c (.int .i64 1))),oo 16 (.mov (.s 105))]))))))))))) [7, 8, 9, 11, 13] (.region false [oo 51 (.mov (.s 13)),
 oo 52 (.bin .add false (.s 51) (.c (.int .i64 1))),oo 13 (.mov (.s 52))])))))) [] (.seq (.region false [oo 133 (.call 9 []),oo 6 (.mov (.s 133))]) [6] (.ret))))))))⟩
def tf9 : TFn := ⟨50, [.tmp 0],.seq (.region false [oo 0 (.mov (.c (.bool false)))]) [] (.seq (.region false [oo 6 (.call 32 []),oo 1 (.alloc 26 [(.fsl [])]),⟨none, .store 1 (.s 1) (.s 6), none⟩]) [1] (.seq (.region true [oo 8 (.load true 1 (.s 1)),oo 9 (.load true 1 (.s 1)),
 oo 10 (.call 30 [(.s 9), (.c (.fsl []))]),oo 11 (.call 14 [(.s 8), (.s 10), (.c (.fsl []))]),oo 7 (.mov (.s 11)),oo 12 (.extract 0 (.s 7)),oo 13 (.extract 1 (.s 7)),oo 2 (.mov (.s 12)),oo 3 (.mov (.s 13))]) [1, 2, 3] (.seq (.region true [oo 15 (.load true 1 (.s 1)),oo 16 (.load true 1 (.s 1)),
 oo 17 (.call 30 [(.s 16), (.c (.fsl []))]),oo 18 (.call 16 [(.s 15), (.s 17), (.c (.fsl []))]),oo 14 (.mov (.s 18)),oo 19 (.extract 0 (.s 14)),oo 20 (.extract 1 (.s 14)),oo 4 (.mov (.s 19)),oo 5 (.mov (.s 20))]) [2, 3, 4, 5] (.seq (.region false [oo 21 (.mov (.s 3)),
 oo 22 (.bin .eql false (.s 21) (.c (.int .i64 (-1)))),oo 23 (.mov (.s 22)),⟨some 24, .mov (.s 2), (some (23, true))⟩,⟨some 25, .len (.s 24), (some (23, true))⟩,⟨some 26, .bin .eql false (.s 25) (.c (.int .i64 2)), (some (23, true))⟩,oo 27 (.pick (.s 23) (.s 26) (.c (.bool false))),
 oo 28 (.mov (.s 27)),⟨some 29, .mov (.s 2), (some (28, true))⟩,⟨some 30, .indexAddr 4 (.s 29) (.c (.int .i64 0)), (some (28, true))⟩,⟨some 31, .fieldAddr 0 (.s 30), (some (28, true))⟩,⟨some 32, .load false 1 (.s 31), (some (28, true))⟩,
 ⟨some 33, .bin .eql false (.s 32) (.c (.int .i64 0)), (some (28, true))⟩,oo 34 (.pick (.s 28) (.s 33) (.c (.bool false))),oo 35 (.mov (.s 34)),⟨some 36, .mov (.s 2), (some (35, true))⟩,⟨some 37, .indexAddr 4 (.s 36) (.c (.int .i64 1)), (some (35, true))⟩,
 ⟨some 38, .load true 4 (.s 37), (some (35, true))⟩,⟨some 39, .build [(.int .i64 0), (.int .i64 0), (.int .i64 0), (.int .i64 0)] [(0, 1, (.c (.int .i64 1))), (1, 1, (.c (.int .i64 2))), (2, 1, (.c (.int .i64 0))), (3, 1, (.c (.int .i64 1)))], (some (35, true))⟩,
 ⟨some 40, .eqs false [0, 0, 0, 0] (.s 38) (.s 39), (some (35, true))⟩,oo 41 (.pick (.s 35) (.s 40) (.c (.bool false))),oo 42 (.mov (.s 41)),⟨some 43, .mov (.s 4), (some (42, true))⟩,⟨some 44, .bin .eql false (.s 43) (.c (.int .i64 0)), (some (42, true))⟩,
 oo 45 (.pick (.s 42) (.s 44) (.c (.bool false))),oo 46 (.mov (.s 45)),⟨some 47, .mov (.s 5), (some (46, true))⟩,⟨some 48, .bin .eql false (.s 47) (.c (.int .i64 0)), (some (46, true))⟩,oo 49 (.pick (.s 46) (.s 48) (.c (.bool false))),oo 0 (.mov (.s 49))]) [0] (.ret)))))⟩
def tf10 : TFn := ⟨90, [.cell 4 true 1],.seq (.region false [oo 4 (.alloc 26 [(.fsl [])])]) [0, 1, 4] (.seq (.region false [oo 10 (.mov (.s 0)),oo 11 (.build [(.fsl []), (.int .i64 0)] [(0, 1, (.s 10))]),oo 12 (.box 62 (.s 11)),oo 5 (.mov (.s 12))]) [1, 4, 5] (.seq (
 .region false [oo 13 (.mov (.s 5)),oo 14 (.mov (.s 1)),oo 15 (.call 33 [(.s 13), (.s 14)]),oo 6 (.mov (.s 15))]) [4, 5, 6] (.seq (.region true [oo 16 (.mov (.s 6)),oo 17 (.indexAddr 3 (.s 16) (.c (.int .i64 0))),oo 18 (.fieldAddr 2 (.s 17)),oo 19 (.load false 1 (.s 18)),oo 20 (.mov (.s 5)),
 oo 21 (.mov (.s 6)),oo 22 (.call 34 [(.s 20), (.s 21), (.c (.int .i64 3))]),oo 23 (.indexAddr 8 (.s 19) (.c (.int .i64 0))),oo 24 (.fieldAddr 6 (.s 23)),⟨none, .store 1 (.s 24) (.s 22), none⟩]) [4, 5, 6] (.seq (.seq (.region false [oo 7 (.mov (.c (.int .i64 1)))]) [4, 5, 6, 7] (.block 0 (.loop (
 .seq (.seq (.region false [oo 25 (.mov (.s 7)),oo 26 (.mov (.s 6)),oo 27 (.len (.s 26)),oo 28 (.bin .lss false (.s 25) (.s 27))]) [4, 5, 6, 7, 28] (.cond (.s 28) (.skip) (.exit 0))) [4, 5, 6, 7] (.seq (.block 1 (.seq (.region false [oo 8 (.mov (.c (.int .i64 0)))]) [4, 5, 6, 7, 8] (.block 2 (
 .loop (.seq (.seq (.region false [oo 31 (.mov (.s 8)),oo 32 (.mov (.s 6)),oo 33 (.mov (.s 7)),oo 34 (.indexAddr 3 (.s 32) (.s 33)),oo 35 (.fieldAddr 2 (.s 34)),oo 36 (.load false 1 (.s 35)),oo 37 (.len (.s 36)),oo 38 (.bin .lss false (.s 31) (.s 37))]) [4, 5, 6, 7, 8, 38] (.cond (.s 38) (.skip) (
 .exit 2))) [4, 5, 6, 7, 8] (.seq (.block 3 (.seq (.region false [oo 41 (.mov (.s 6)),oo 42 (.mov (.s 7)),oo 43 (.indexAddr 3 (.s 41) (.s 42)),oo 44 (.fieldAddr 2 (.s 43)),oo 45 (.load false 1 (.s 44)),oo 46 (.mov (.s 8)),oo 47 (.indexAddr 8 (.s 45) (.s 46)),
 oo 9 (.mov (.s 47))]) [4, 5, 6, 7, 8, 9] (.seq (.seq (.region false [oo 48 (.mov (.s 6)),oo 49 (.mov (.s 7)),oo 50 (.indexAddr 3 (.s 48) (.s 49)),oo 51 (.fieldAddr 1 (.s 50)),oo 52 (.load false 1 (.s 51)),oo 53 (.bin .neq false (.s 52) (.c (.str [])))]) [4, 5, 6, 7, 8, 9, 53] (.cond (.s 53) (
 .region false [oo 54 (.mov (.s 9)),oo 55 (.mov (.s 7)),oo 56 (.bin .sub false (.s 55) (.c (.int .i64 1))),oo 57 (.mov (.s 9)),oo 58 (.nilCheck (.s 57)),oo 59 (.fieldAddr 0 (.s 58)),oo 60 (.load true 5 (.s 59)),oo 61 (.call 35 [(.s 60)]),
 oo 62 (.build [(.int .i64 0), (.fsl []), (.fsl [])] [(0, 1, (.s 56)), (1, 2, (.s 61))]),oo 63 (.buildSlice 3 77 [(.s 62)]),oo 64 (.buildSlice 1 68 [(.s 63)]),oo 65 (.nilCheck (.s 54)),oo 66 (.fieldAddr 6 (.s 65)),⟨none, .store 1 (.s 66) (.s 64), none⟩]) (.skip))) [4, 5, 6, 7, 8, 9] (.seq (
 .region true [oo 67 (.mov (.s 9)),oo 68 (.mov (.s 9)),oo 69 (.nilCheck (.s 68)),oo 70 (.fieldAddr 6 (.s 69)),oo 71 (.load false 1 (.s 70)),oo 72 (.mov (.s 5)),oo 73 (.mov (.s 6)),oo 74 (.call 34 [(.s 72), (.s 73), (.c (.int .i64 2))]),oo 75 (.append 1 68 24 (.s 71) (.s 74)),
 oo 76 (.nilCheck (.s 67)),oo 77 (.fieldAddr 6 (.s 76)),⟨none, .store 1 (.s 77) (.s 75), none⟩]) [4, 5, 6, 7, 8, 9] (.seq (.region false [oo 78 (.mov (.s 5)),oo 79 (.call 36 [(.s 78), (.c (.int .i64 4))]),oo 80 (.bin .eql false (.s 79) (.c (.int .i64 0)))]) [4, 5, 6, 7, 8, 9, 80] (.cond (.s 80) (
 .region false [oo 81 (.mov (.s 9)),oo 82 (.mov (.s 5)),oo 83 (.mov (.s 6)),oo 84 (.call 37 [(.s 82), (.s 83)]),oo 85 (.buildSlice 3 77 [(.s 84)]),oo 86 (.nilCheck (.s 81)),oo 87 (.fieldAddr 7 (.s 86)),⟨none, .store 1 (.s 87) (.s 85), none⟩]) (.skip))))))) [4, 5, 6, 7, 8] (
 .region false [oo 39 (.mov (.s 8)),oo 40 (.bin .add false (.s 39) (.c (.int .i64 1))),oo 8 (.mov (.s 40))]))))))) [4, 5, 6, 7] (.region false [oo 29 (.mov (.s 7)),oo 30 (.bin .add false (.s 29) (.c (.int .i64 1))),oo 7 (.mov (.s 30))])))))) [4, 6] (.seq (.region false [oo 88 (.mov (.s 6)),
 oo 89 (.build [(.fsl [])] [(0, 1, (.s 88))]),⟨none, .store 1 (.s 4) (.s 89), none⟩]) [4] (.ret))))))⟩
def tf11 : TFn := ⟨36, [.tmp 4],.seq (.region false [oo 2 (.box 26 (.s 0)),oo 4 (.mov (.c (.fsl [])))]) [1, 2] (.seq (.region false [oo 8 (.load true 1 (.s 2)),oo 9 (.call 30 [(.s 8), (.c (.fsl []))]),oo 5 (.mov (.s 9))]) [1, 2, 5] (.seq (.seq (
 .region false [oo 6 (.mov (.c (.int .i64 0)))]) [1, 2, 5, 6] (.block 0 (.loop (.seq (.seq (.region false [oo 10 (.mov (.s 6)),oo 11 (.bin .add false (.s 10) (.c (.int .i64 4))),oo 12 (.mov (.s 1)),oo 13 (.len (.s 12)),oo 14 (.bin .leq false (.s 11) (.s 13)),oo 15 (.mov (.s 14)),
 ⟨some 16, .mov (.s 6), (some (15, true))⟩,⟨some 17, .bin .lss false (.s 16) (.c (.int .i64 24)), (some (15, true))⟩,oo 18 (.pick (.s 15) (.s 17) (.c (.bool false)))]) [1, 2, 5, 6, 18] (.cond (.s 18) (.skip) (.exit 0))) [1, 2, 5, 6] (.seq (.block 1 (.seq (.region true [oo 21 (.load true 1 (.s 2)),
 oo 22 (.mov (.s 1)),oo 23 (.mov (.s 6)),oo 24 (.mov (.s 6)),oo 25 (.bin .add false (.s 24) (.c (.int .i64 4))),oo 26 (.slice 1 (.s 22) (some (.s 23)) (some (.s 25)) none),oo 27 (.call 38 [(.s 21), (.s 26)]),oo 7 (.mov (.s 27))]) [1, 2, 5, 6, 7] (.seq (.region false [oo 28 (.mov (.s 7)),
 oo 29 (.len (.s 28)),oo 30 (.bin .gtr false (.s 29) (.c (.int .i64 0)))]) [1, 2, 5, 6, 7, 30] (.cond (.s 30) (.region false [oo 31 (.mov (.s 5)),oo 32 (.mov (.s 7)),oo 33 (.buildSlice 1 39 [(.s 32)]),oo 34 (.append 1 39 24 (.s 31) (.s 33)),oo 5 (.mov (.s 34))]) (.skip))))) [1, 2, 5, 6] (
 .region false [oo 19 (.mov (.s 6)),oo 20 (.bin .add false (.s 19) (.c (.int .i64 4))),oo 6 (.mov (.s 20))])))))) [5] (.seq (.region false [oo 35 (.mov (.s 5)),oo 4 (.mov (.s 35))]) [4] (.ret))))⟩
def tf12 : TFn := ⟨87, [.tmp 6, .tmp 7],.seq (.region false [oo 3 (.box 26 (.s 0)),oo 6 (.mov (.c (.fsl []))),oo 7 (.mov (.c (.int .i64 0)))]) [1, 2, 3] (.seq (.region false [oo 8 (.mov (.c (.fsl [])))]) [1, 2, 3, 8] (.seq (.seq (.region false [oo 9 (.mov (.c (.int .i64 0)))]) [1, 2, 3, 8, 9] (
 .block 0 (.loop (.seq (.seq (.region false [oo 17 (.mov (.s 9)),oo 18 (.mov (.s 2)),oo 19 (.len (.s 18)),oo 20 (.bin .leq false (.s 17) (.s 19)),oo 21 (.mov (.s 20)),⟨some 22, .mov (.s 9), (some (21, true))⟩,⟨some 23, .bin .lss false (.s 22) (.c (.int .i64 12)), (some (21, true))⟩,
 oo 24 (.pick (.s 21) (.s 23) (.c (.bool false)))]) [1, 2, 3, 8, 9, 24] (.cond (.s 24) (.skip) (.exit 0))) [1, 2, 3, 8, 9] (.seq (.block 1 (.seq (.region false [oo 28 (.load true 1 (.s 3)),oo 29 (.mov (.s 1)),oo 30 (.mov (.s 8)),oo 31 (.call 15 [(.s 28), (.s 29), (.s 30)]),oo 27 (.mov (.s 31)),
 oo 32 (.extract 0 (.s 27)),oo 33 (.extract 1 (.s 27)),oo 10 (.mov (.s 32)),oo 11 (.mov (.s 33))]) [1, 2, 3, 9, 10, 11] (.seq (.region false [oo 34 (.mov (.s 10)),oo 8 (.mov (.s 34))]) [1, 2, 3, 8, 9, 11] (.seq (.seq (.region false [oo 35 (.mov (.s 11)),
 oo 36 (.bin .geq false (.s 35) (.c (.int .i64 0))),oo 37 (.mov (.s 36)),⟨some 38, .mov (.s 9), (some (37, false))⟩,⟨some 39, .mov (.s 2), (some (37, false))⟩,⟨some 40, .len (.s 39), (some (37, false))⟩,⟨some 41, .bin .eql false (.s 38) (.s 40), (some (37, false))⟩,
 oo 42 (.pick (.s 37) (.c (.bool true)) (.s 41))]) [1, 2, 3, 8, 9, 11, 42] (.cond (.s 42) (.seq (.region false [oo 43 (.mov (.s 8)),oo 44 (.mov (.s 11)),oo 6 (.mov (.s 43)),oo 7 (.mov (.s 44))]) [6, 7] (.ret)) (.skip))) [1, 2, 3, 8, 9] (.seq (.region true [oo 45 (.mov (.s 2)),oo 46 (.mov (.s 9)),
 oo 47 (.indexAddr 1 (.s 45) (.s 46)),oo 48 (.load false 1 (.s 47)),oo 49 (.fieldAddr 0 (.s 3)),oo 50 (.load false 1 (.s 49)),oo 51 (.len (.s 50)),oo 52 (.call 31 [(.s 48), (.s 51)]),oo 12 (.mov (.s 52))]) [1, 2, 3, 8, 9, 12] (.seq (.region false [oo 53 (.load true 1 (.s 3)),oo 54 (.mov (.s 8)),
 oo 55 (.mov (.s 12)),oo 56 (.call 26 [(.s 53), (.s 54), (.s 55)]),oo 57 (.call 39 [(.s 56)]),oo 13 (.mov (.s 57))]) [1, 2, 3, 8, 9, 12, 13] (.seq (.region false [oo 14 (.mov (.c (.int .i64 0)))]) [1, 2, 3, 8, 9, 12, 13, 14] (.block 2 (.loop (.seq (.seq (.region false [oo 58 (.mov (.s 14)),
 oo 59 (.mov (.s 13)),oo 60 (.len (.s 59)),oo 61 (.bin .lss false (.s 58) (.s 60))]) [1, 2, 3, 8, 9, 12, 13, 14, 61] (.cond (.s 61) (.skip) (.exit 2))) [1, 2, 3, 8, 9, 12, 13, 14] (.seq (.block 3 (.seq (.region true [oo 65 (.load true 1 (.s 3)),oo 66 (.mov (.s 8)),oo 67 (.mov (.s 12)),
 oo 68 (.mov (.s 13)),oo 69 (.mov (.s 14)),oo 70 (.mov (.s 2)),oo 71 (.mov (.s 9)),oo 72 (.indexAddr 1 (.s 70) (.s 71)),oo 73 (.load false 1 (.s 72)),oo 74 (.call 31 [(.s 73), (.c (.int .i64 7))]),oo 75 (.bin .add false (.s 69) (.s 74)),oo 76 (.mov (.s 13)),oo 77 (.len (.s 76)),
 oo 78 (.bin .rem false (.s 75) (.s 77)),oo 79 (.indexAddr 1 (.s 68) (.s 78)),oo 80 (.load false 1 (.s 79)),oo 81 (.call 40 [(.s 65), (.s 66), (.s 67), (.s 80)]),oo 64 (.mov (.s 81)),oo 82 (.extract 0 (.s 64)),oo 83 (.extract 1 (.s 64)),oo 15 (.mov (.s 82)),
 oo 16 (.mov (.s 83))]) [1, 2, 3, 8, 9, 12, 13, 14, 15, 16] (.seq (.region false [oo 84 (.mov (.s 16))]) [1, 2, 3, 8, 9, 12, 13, 14, 15, 84] (.cond (.s 84) (.seq (.region false [oo 85 (.mov (.s 15)),oo 8 (.mov (.s 85))]) [1, 2, 3, 8, 9] (.exit 2)) (.skip))))) [1, 2, 3, 8, 9, 12, 13, 14] (
 .region false [oo 62 (.mov (.s 14)),oo 63 (.bin .add false (.s 62) (.c (.int .i64 1))),oo 14 (.mov (.s 63))])))))))))))) [1, 2, 3, 8, 9] (.region false [oo 25 (.mov (.s 9)),oo 26 (.bin .add false (.s 25) (.c (.int .i64 1))),oo 9 (.mov (.s 26))])))))) [8] (.seq (.region false [oo 86 (.mov (.s 8)),
 oo 6 (.mov (.s 86)),oo 7 (.mov (.c (.int .i64 (-1))))]) [6, 7] (.ret))))⟩
def tf14 : TFn := ⟨72, [.tmp 6, .tmp 7],.seq (.region false [oo 3 (.box 26 (.s 0)),oo 6 (.mov (.c (.fsl []))),oo 7 (.mov (.c (.int .i64 0)))]) [1, 2, 3] (.scope (.seq (.region false [oo 16 (.mov (.s 2)),oo 17 (.append 4 50 32 (.c (.fsl [])) (.s 16)),oo 8 (.mov (.s 17))]) [1, 2, 3, 8] (.seq (
 .region false [oo 18 (.load true 1 (.s 3)),oo 19 (.mov (.s 2)),oo 20 (.call 41 [(.s 18), (.s 19)]),oo 9 (.mov (.s 20))]) [1, 3, 8, 9] (.seq (.skip) [1, 3, 8, 9] (.block 0 (.loop (.block 1 (.seq (.region false [oo 22 (.mov (.s 9)),oo 23 (.mov (.s 1)),oo 24 (.call 42 [(.s 22), (.s 23)]),
 oo 21 (.mov (.s 24)),oo 25 (.extract 0 (.s 21)),oo 26 (.extract 1 (.s 21)),oo 10 (.mov (.s 25)),oo 11 (.mov (.s 26))]) [1, 3, 8, 9, 10, 11] (.seq (.seq (.region false [oo 27 (.mov (.s 10)),oo 28 (.bin .lss false (.s 27) (.c (.int .i64 0))),oo 29 (.mov (.s 28)),
 ⟨some 30, .mov (.s 11), (some (29, false))⟩,⟨some 31, .bin .lss false (.s 30) (.c (.int .i64 0)), (some (29, false))⟩,oo 32 (.pick (.s 29) (.c (.bool true)) (.s 31))]) [1, 3, 8, 9, 10, 11, 32] (.cond (.s 32) (.seq (.region false [oo 33 (.mov (.s 8)),oo 34 (.mov (.s 10)),oo 6 (.mov (.s 33)),
 oo 7 (.mov (.s 34))]) [6, 7] (.ret)) (.skip))) [1, 3, 8, 9, 10, 11] (.seq (.seq (.region false [oo 35 (.mov (.s 1)),oo 36 (.mov (.s 10)),oo 37 (.indexAddr 1 (.s 35) (.s 36)),oo 38 (.load false 1 (.s 37)),oo 39 (.len (.s 38)),oo 40 (.mov (.c (.int .i64 0)))]) [1, 3, 8, 9, 10, 11, 38, 39, 40] (
 .block 2 (.loop (.seq (.region false [oo 41 (.bin .lss false (.s 40) (.s 39))]) [1, 3, 8, 9, 10, 11, 38, 39, 40, 41] (.seq (.cond (.s 41) (.skip) (.exit 2)) [1, 3, 8, 9, 10, 11, 38, 39, 40] (.seq (.block 3 (.seq (.region false [oo 42 (.indexAddr 2 (.s 38) (.s 40)),oo 43 (.load true 2 (.s 42)),
 oo 13 (.alloc 56 [(.int .i64 0), (.int .i64 0)]),⟨none, .store 2 (.s 13) (.s 43), none⟩]) [1, 3, 8, 9, 10, 11, 13, 38, 39, 40] (.seq (.seq (.region false [oo 44 (.fieldAddr 0 (.s 13)),oo 45 (.load false 1 (.s 44)),oo 46 (.mov (.s 11)),
 oo 47 (.bin .neq false (.s 45) (.s 46))]) [1, 3, 8, 9, 10, 11, 13, 38, 39, 40, 47] (.cond (.s 47) (.exit 3) (.skip))) [1, 3, 8, 9, 10, 11, 13] (.seq (.region false [oo 49 (.load true 1 (.s 3)),oo 50 (.mov (.s 8)),oo 51 (.load true 2 (.s 13)),oo 52 (.mov (.s 10)),
 oo 53 (.call 43 [(.s 49), (.s 50), (.s 51), (.s 52)]),oo 48 (.mov (.s 53)),oo 54 (.extract 0 (.s 48)),oo 55 (.extract 1 (.s 48)),oo 14 (.mov (.s 54)),oo 15 (.mov (.s 55))]) [1, 3, 8, 9, 11, 13, 14, 15] (.seq (.seq (.region false [oo 56 (.mov (.s 15)),
 oo 57 (.un .not (.s 56))]) [1, 3, 8, 9, 11, 13, 14, 57] (.cond (.s 57) (.seq (.region false [oo 58 (.mov (.s 8)),oo 6 (.mov (.s 58)),oo 7 (.mov (.c (.int .i64 (-1))))]) [6, 7] (.ret)) (.skip))) [1, 3, 9, 11, 13, 14] (.seq (.region true [oo 59 (.mov (.s 9)),oo 60 (.mov (.s 11)),
 oo 61 (.mov (.s 14)),oo 62 (.mov (.s 9)),oo 63 (.mov (.s 11)),oo 64 (.indexAddr 1 (.s 62) (.s 63)),oo 65 (.load false 1 (.s 64)),oo 66 (.fieldAddr 1 (.s 13)),oo 67 (.load false 1 (.s 66)),oo 68 (.bin .andNot false (.s 65) (.s 67)),oo 8 (.mov (.s 61)),oo 69 (.indexAddr 1 (.s 59) (.s 60)),
 ⟨none, .store 1 (.s 69) (.s 68), none⟩]) [1, 3, 8, 9] (.exit 1))))))) [1, 3, 8, 9, 10, 11, 38, 39, 40] (.region false [oo 70 (.bin .add false (.s 40) (.c (.int .i64 1))),oo 40 (.mov (.s 70))]))))))) [8] (.seq (.region false [oo 71 (.mov (.s 8)),oo 6 (.mov (.s 71)),
 oo 7 (.mov (.c (.int .i64 (-1))))]) [6, 7] (.ret))))))))))))⟩
def tf15 : TFn := ⟨50, [.tmp 6, .tmp 7],.seq (.region false [oo 3 (.box 26 (.s 0)),oo 6 (.mov (.c (.fsl []))),oo 7 (.mov (.c (.int .i64 0)))]) [1, 2, 3] (.seq (.region false [oo 12 (.mov (.s 2)),oo 13 (.append 4 50 32 (.c (.fsl [])) (.s 12)),oo 8 (.mov (.s 13))]) [1, 3, 8] (.seq (.seq (
 .region false [oo 9 (.mov (.c (.int .i64 0)))]) [1, 3, 8, 9] (.block 0 (.loop (.seq (.seq (.region false [oo 14 (.mov (.s 9)),oo 15 (.fieldAddr 0 (.s 3)),oo 16 (.load false 1 (.s 15)),oo 17 (.len (.s 16)),oo 18 (.bin .mul false (.s 17) (.c (.int .i64 18))),
 oo 19 (.bin .leq false (.s 14) (.s 18))]) [1, 3, 8, 9, 19] (.cond (.s 19) (.skip) (.exit 0))) [1, 3, 8, 9] (.seq (.block 1 (.seq (.region false [oo 23 (.load true 1 (.s 3)),oo 24 (.mov (.s 1)),oo 25 (.mov (.s 8)),oo 26 (.call 17 [(.s 23), (.s 24), (.s 25)]),oo 22 (.mov (.s 26)),
 oo 27 (.extract 0 (.s 22)),oo 28 (.extract 1 (.s 22)),oo 10 (.mov (.s 27)),oo 11 (.mov (.s 28))]) [1, 3, 8, 9, 10, 11] (.seq (.seq (.region false [oo 29 (.mov (.s 11)),oo 30 (.bin .lss false (.s 29) (.c (.int .i64 0)))]) [1, 3, 8, 9, 10, 11, 30] (.cond (.s 30) (.seq (
 .region false [oo 31 (.mov (.s 8)),oo 32 (.mov (.s 10)),oo 6 (.mov (.s 31)),oo 7 (.mov (.s 32))]) [6, 7] (.ret)) (.skip))) [1, 3, 8, 9, 10, 11] (.region true [oo 34 (.load true 1 (.s 3)),oo 35 (.mov (.s 8)),oo 36 (.mov (.s 11)),oo 37 (.load true 1 (.s 3)),oo 38 (.mov (.s 1)),oo 39 (.mov (.s 10)),
 oo 40 (.indexAddr 1 (.s 38) (.s 39)),oo 41 (.load false 1 (.s 40)),oo 42 (.mov (.s 11)),oo 43 (.call 28 [(.s 37), (.s 41), (.s 42)]),oo 44 (.build [(.int .i64 0), (.int .i64 0)] [(0, 1, (.s 36)), (1, 1, (.s 43))]),oo 45 (.mov (.s 10)),oo 46 (.call 44 [(.s 34), (.s 35), (.s 44), (.s 45)]),
 oo 33 (.mov (.s 46)),oo 47 (.extract 0 (.s 33)),oo 48 (.extract 1 (.s 33)),oo 8 (.mov (.s 47))])))) [1, 3, 8, 9] (.region false [oo 20 (.mov (.s 9)),oo 21 (.bin .add false (.s 20) (.c (.int .i64 1))),oo 9 (.mov (.s 21))])))))) [8] (.seq (.region false [oo 49 (.mov (.s 8)),oo 6 (.mov (.s 49)),
 oo 7 (.mov (.c (.int .i64 (-1))))]) [6, 7] (.ret))))⟩
def tf16 : TFn := ⟨15, [.tmp 6, .tmp 7],.seq (.region false [oo 3 (.box 26 (.s 0)),oo 6 (.mov (.c (.int .i64 0))),oo 7 (.mov (.c (.int .i64 0)))]) [1, 2, 3] (.seq (.region false [oo 8 (.load true 1 (.s 3)),oo 9 (.mov (.s 2)),oo 10 (.call 41 [(.s 8), (.s 9)]),oo 11 (.mov (.s 1)),
 oo 12 (.call 42 [(.s 10), (.s 11)]),oo 13 (.extract 0 (.s 12)),oo 14 (.extract 1 (.s 12)),oo 6 (.mov (.s 13)),oo 7 (.mov (.s 14))]) [6, 7] (.ret))⟩
def tf17 : TFn := ⟨35, [.tmp 6, .tmp 7],.seq (.region false [oo 3 (.box 26 (.s 0)),oo 6 (.mov (.c (.int .i64 0))),oo 7 (.mov (.c (.int .i64 0)))]) [1, 2, 3] (.seq (.seq (.region false [oo 8 (.mov (.c (.int .i64 0)))]) [1, 2, 3, 8] (.block 0 (.loop (.seq (.seq (.region false [oo 10 (.mov (.s 8)),
 oo 11 (.mov (.s 1)),oo 12 (.len (.s 11)),oo 13 (.bin .lss false (.s 10) (.s 12))]) [1, 2, 3, 8, 13] (.cond (.s 13) (.skip) (.exit 0))) [1, 2, 3, 8] (.seq (.block 1 (.seq (.seq (.region true [oo 16 (.load true 1 (.s 3)),oo 17 (.mov (.s 2)),oo 18 (.mov (.s 1)),oo 19 (.mov (.s 8)),
 oo 20 (.indexAddr 1 (.s 18) (.s 19)),oo 21 (.load false 1 (.s 20)),oo 22 (.call 45 [(.s 16), (.s 17), (.s 21)])]) [1, 2, 3, 8, 22] (.cond (.s 22) (.seq (.region false [oo 23 (.mov (.s 8)),oo 6 (.mov (.s 23)),oo 7 (.mov (.c (.int .i64 (-1))))]) [6, 7] (.ret)) (.skip))) [1, 2, 3, 8] (.seq (
 .region true [oo 24 (.load true 1 (.s 3)),oo 25 (.mov (.s 2)),oo 26 (.mov (.s 1)),oo 27 (.mov (.s 8)),oo 28 (.indexAddr 1 (.s 26) (.s 27)),oo 29 (.load false 1 (.s 28)),oo 30 (.call 46 [(.s 24), (.s 25), (.s 29)]),oo 9 (.mov (.s 30))]) [1, 2, 3, 8, 9] (.seq (.region false [oo 31 (.mov (.s 9)),
 oo 32 (.bin .geq false (.s 31) (.c (.int .i64 0)))]) [1, 2, 3, 8, 9, 32] (.cond (.s 32) (.seq (.region false [oo 33 (.mov (.s 8)),oo 34 (.mov (.s 9)),oo 6 (.mov (.s 33)),oo 7 (.mov (.s 34))]) [6, 7] (.ret)) (.skip)))))) [1, 2, 3, 8] (.region false [oo 14 (.mov (.s 8)),
 oo 15 (.bin .add false (.s 14) (.c (.int .i64 1))),oo 8 (.mov (.s 15))])))))) [] (.seq (.region false [oo 6 (.mov (.c (.int .i64 (-1)))),oo 7 (.mov (.c (.int .i64 (-1))))]) [6, 7] (.ret)))⟩
def tf19 : TFn := ⟨26, [.tmp 4],.seq (.region false [oo 4 (.mov (.c (.bool false)))]) [0, 1] (.seq (.seq (.region false [oo 6 (.mov (.s 0)),oo 7 (.len (.s 6)),oo 8 (.mov (.s 1)),oo 9 (.len (.s 8)),oo 10 (.bin .neq false (.s 7) (.s 9))]) [0, 1, 10] (.cond (.s 10) (.seq (
 .region false [oo 4 (.mov (.c (.bool false)))]) [4] (.ret)) (.skip))) [0, 1] (.seq (.seq (.region false [oo 5 (.mov (.c (.int .i64 0)))]) [0, 1, 5] (.block 0 (.loop (.seq (.seq (.region false [oo 11 (.mov (.s 5)),oo 12 (.mov (.s 0)),oo 13 (.len (.s 12)),
 oo 14 (.bin .lss false (.s 11) (.s 13))]) [0, 1, 5, 14] (.cond (.s 14) (.skip) (.exit 0))) [0, 1, 5] (.seq (.block 1 (.seq (.region true [oo 17 (.mov (.s 0)),oo 18 (.mov (.s 5)),oo 19 (.indexAddr 2 (.s 17) (.s 18)),oo 20 (.load true 2 (.s 19)),oo 21 (.mov (.s 1)),oo 22 (.mov (.s 5)),
 oo 23 (.indexAddr 2 (.s 21) (.s 22)),oo 24 (.load true 2 (.s 23)),oo 25 (.eqs true [0, 0] (.s 20) (.s 24))]) [0, 1, 5, 25] (.cond (.s 25) (.seq (.region false [oo 4 (.mov (.c (.bool false)))]) [4] (.ret)) (.skip)))) [0, 1, 5] (.region false [oo 15 (.mov (.s 5)),
 oo 16 (.bin .add false (.s 15) (.c (.int .i64 1))),oo 5 (.mov (.s 16))])))))) [] (.seq (.region false [oo 4 (.mov (.c (.bool true)))]) [4] (.ret))))⟩
def tf25 : TFn := ⟨13, [.tmp 2],.seq (.region false [oo 2 (.mov (.c (.int .i64 0)))]) [0] (.seq (.seq (.region false [oo 3 (.mov (.s 0)),oo 4 (.len (.s 3)),oo 5 (.bin .eql false (.s 4) (.c (.int .i64 0)))]) [0, 5] (.cond (.s 5) (.seq (.region false [oo 2 (.mov (.c (.int .i64 0)))]) [2] (.ret)) (
 .skip))) [0] (.seq (.region false [oo 6 (.mov (.s 0)),oo 7 (.mov (.s 0)),oo 8 (.len (.s 7)),oo 9 (.bin .sub false (.s 8) (.c (.int .i64 1))),oo 10 (.indexAddr 4 (.s 6) (.s 9)),oo 11 (.fieldAddr 2 (.s 10)),oo 12 (.load false 1 (.s 11)),oo 2 (.mov (.s 12))]) [2] (.ret)))⟩
def tf26 : TFn := ⟨41, [.tmp 6],.seq (.region false [oo 3 (.box 26 (.s 0)),oo 6 (.mov (.c (.int .i64 0)))]) [1, 2, 3] (.seq (.seq (.region false [oo 8 (.mov (.s 1)),oo 9 (.len (.s 8)),oo 10 (.bin .sub false (.s 9) (.c (.int .i64 1))),oo 7 (.mov (.s 10))]) [1, 2, 3, 7] (.block 0 (.loop (.seq (.seq (
 .region false [oo 11 (.mov (.s 7)),oo 12 (.bin .geq false (.s 11) (.c (.int .i64 0)))]) [1, 2, 3, 7, 12] (.cond (.s 12) (.skip) (.exit 0))) [1, 2, 3, 7] (.seq (.block 1 (.seq (.region false [oo 15 (.mov (.s 1)),oo 16 (.mov (.s 7)),oo 17 (.indexAddr 4 (.s 15) (.s 16)),oo 18 (.fieldAddr 0 (.s 17)),
 oo 19 (.load false 1 (.s 18)),oo 20 (.mov (.s 2)),oo 21 (.bin .eql false (.s 19) (.s 20)),oo 22 (.mov (.s 21)),⟨some 23, .mov (.s 2), (some (22, true))⟩,⟨some 24, .bin .geq false (.s 23) (.c (.int .i64 0)), (some (22, true))⟩,oo 25 (.pick (.s 22) (.s 24) (.c (.bool false))),oo 26 (.mov (.s 25)),
 ⟨some 27, .mov (.s 2), (some (26, true))⟩,⟨some 28, .fieldAddr 0 (.s 3), (some (26, true))⟩,⟨some 29, .load false 1 (.s 28), (some (26, true))⟩,⟨some 30, .len (.s 29), (some (26, true))⟩,⟨some 31, .bin .lss false (.s 27) (.s 30), (some (26, true))⟩,
 oo 32 (.pick (.s 26) (.s 31) (.c (.bool false)))]) [1, 2, 3, 7, 32] (.cond (.s 32) (.seq (.region false [oo 33 (.mov (.s 1)),oo 34 (.mov (.s 7)),oo 35 (.indexAddr 4 (.s 33) (.s 34)),oo 36 (.fieldAddr 1 (.s 35)),oo 37 (.load false 1 (.s 36)),oo 6 (.mov (.s 37))]) [6] (.ret)) (
 .skip)))) [1, 2, 3, 7] (.region false [oo 13 (.mov (.s 7)),oo 14 (.bin .sub false (.s 13) (.c (.int .i64 1))),oo 7 (.mov (.s 14))])))))) [2, 3] (.seq (.region false [oo 38 (.load true 1 (.s 3)),oo 39 (.mov (.s 2)),oo 40 (.call 27 [(.s 38), (.s 39)]),oo 6 (.mov (.s 40))]) [6] (.ret)))⟩
def tf27 : TFn := ⟨25, [.tmp 4],.seq (.region false [oo 2 (.box 26 (.s 0)),oo 4 (.mov (.c (.int .i64 0)))]) [1, 2] (.seq (.seq (.region false [oo 5 (.mov (.s 1)),oo 6 (.bin .lss false (.s 5) (.c (.int .i64 0))),oo 7 (.mov (.s 6)),⟨some 8, .mov (.s 1), (some (7, false))⟩,
 ⟨some 9, .fieldAddr 0 (.s 2), (some (7, false))⟩,⟨some 10, .load false 1 (.s 9), (some (7, false))⟩,⟨some 11, .len (.s 10), (some (7, false))⟩,⟨some 12, .bin .geq false (.s 8) (.s 11), (some (7, false))⟩,oo 13 (.pick (.s 7) (.c (.bool true)) (.s 12))]) [1, 2, 13] (.cond (.s 13) (.seq (
 .region false [oo 4 (.mov (.c (.int .i64 0)))]) [4] (.ret)) (.skip))) [1, 2] (.seq (.region false [oo 14 (.fieldAddr 0 (.s 2)),oo 15 (.load false 1 (.s 14)),oo 16 (.mov (.s 1)),oo 17 (.indexAddr 3 (.s 15) (.s 16)),oo 18 (.fieldAddr 2 (.s 17)),oo 19 (.load false 1 (.s 18)),oo 20 (.len (.s 19)),
 oo 21 (.min (.s 20) (.c (.int .i64 16))),oo 22 (.bin .add false (.s 21) (.c (.int .i64 1))),oo 23 (.call 50 [(.s 22)]),oo 24 (.bin .sub false (.s 23) (.c (.int .i64 1))),oo 4 (.mov (.s 24))]) [4] (.ret)))⟩
def tf28 : TFn := ⟨29, [.tmp 6],.seq (.region false [oo 3 (.box 26 (.s 0)),oo 6 (.mov (.c (.int .i64 0)))]) [1, 2, 3] (.seq (.seq (.region false [oo 7 (.mov (.c (.int .i64 0)))]) [1, 2, 3, 7] (.block 0 (.loop (.seq (.seq (.region false [oo 8 (.mov (.s 7)),oo 9 (.mov (.s 1)),oo 10 (.len (.s 9)),
 oo 11 (.bin .lss false (.s 8) (.s 10))]) [1, 2, 3, 7, 11] (.cond (.s 11) (.skip) (.exit 0))) [1, 2, 3, 7] (.seq (.block 1 (.seq (.region false [oo 14 (.mov (.s 1)),oo 15 (.mov (.s 7)),oo 16 (.indexAddr 2 (.s 14) (.s 15)),oo 17 (.fieldAddr 0 (.s 16)),oo 18 (.load false 1 (.s 17)),
 oo 19 (.mov (.s 2)),oo 20 (.bin .eql false (.s 18) (.s 19))]) [1, 2, 3, 7, 20] (.cond (.s 20) (.seq (.region false [oo 21 (.mov (.s 1)),oo 22 (.mov (.s 7)),oo 23 (.indexAddr 2 (.s 21) (.s 22)),oo 24 (.fieldAddr 1 (.s 23)),oo 25 (.load false 1 (.s 24)),oo 6 (.mov (.s 25))]) [6] (.ret)) (
 .skip)))) [1, 2, 3, 7] (.region false [oo 12 (.mov (.s 7)),oo 13 (.bin .add false (.s 12) (.c (.int .i64 1))),oo 7 (.mov (.s 13))])))))) [2, 3] (.seq (.region false [oo 26 (.load true 1 (.s 3)),oo 27 (.mov (.s 2)),oo 28 (.call 27 [(.s 26), (.s 27)]),oo 6 (.mov (.s 28))]) [6] (.ret)))⟩
def tf29 : TFn := ⟨16, [.tmp 4],.seq (.region false [oo 4 (.mov (.c (.int .i64 0)))]) [0, 1] (.seq (.block 0 (.seq (.region false [oo 6 (.mov (.s 0)),oo 7 (.mov (.s 1)),oo 8 (.bin .and false (.s 6) (.s 7)),oo 9 (.mov (.s 0)),oo 10 (.bin .eql false (.s 8) (.s 9)),oo 5 (.mov (.s 10))]) [0, 1, 5] (
 .cond (.s 5) (.seq (.region false [oo 4 (.mov (.c (.int .i64 2)))]) [4] (.ret)) (.seq (.region false [oo 12 (.mov (.s 0)),oo 13 (.mov (.s 1)),oo 14 (.bin .and false (.s 12) (.s 13)),oo 15 (.bin .eql false (.s 14) (.c (.int .i64 0))),oo 11 (.mov (.s 15))]) [11] (.cond (.s 11) (.seq (
 .region false [oo 4 (.mov (.c (.int .i64 0)))]) [4] (.ret)) (.skip)))))) [] (.seq (.region false [oo 4 (.mov (.c (.int .i64 1)))]) [4] (.ret)))⟩
def tf30 : TFn := ⟨66, [.tmp 4],.seq (.region false [oo 2 (.box 26 (.s 0)),oo 4 (.mov (.c (.fsl [])))]) [1, 2] (.seq (.region false [oo 11 (.load true 1 (.s 2)),oo 12 (.call 51 [(.s 11)]),oo 5 (.mov (.s 12))]) [1, 2, 5] (.seq (.region false [oo 6 (.mov (.c (.fsl [])))]) [1, 2, 5, 6] (.seq (.seq (
 .region false [oo 7 (.mov (.c (.int .i64 0)))]) [1, 2, 5, 6, 7] (.block 0 (.loop (.seq (.seq (.region false [oo 13 (.mov (.s 7)),oo 14 (.mov (.s 5)),oo 15 (.len (.s 14)),oo 16 (.bin .lss false (.s 13) (.s 15))]) [1, 2, 5, 6, 7, 16] (.cond (.s 16) (.skip) (.exit 0))) [1, 2, 5, 6, 7] (.seq (
 .block 1 (.region false [oo 19 (.mov (.s 6)),oo 20 (.mov (.s 5)),oo 21 (.mov (.s 7)),oo 22 (.indexAddr 5 (.s 20) (.s 21)),oo 23 (.fieldAddr 4 (.s 22)),oo 24 (.load false 1 (.s 23)),oo 25 (.buildSlice 1 39 [(.s 24)]),oo 26 (.append 1 39 24 (.s 19) (.s 25)),oo 6 (.mov (.s 26))])) [1, 2, 5, 6, 7] (
 .region false [oo 17 (.mov (.s 7)),oo 18 (.bin .add false (.s 17) (.c (.int .i64 1))),oo 7 (.mov (.s 18))])))))) [1, 2, 6] (.seq (.seq (.region false [oo 8 (.mov (.c (.int .i64 0)))]) [1, 2, 6, 8] (.block 2 (.loop (.seq (.seq (.region false [oo 27 (.mov (.s 8)),oo 28 (.mov (.s 1)),
 oo 29 (.len (.s 28)),oo 30 (.bin .lss false (.s 27) (.s 29)),oo 31 (.mov (.s 30)),⟨some 32, .mov (.s 8), (some (31, true))⟩,⟨some 33, .fieldAddr 0 (.s 2), (some (31, true))⟩,⟨some 34, .load false 1 (.s 33), (some (31, true))⟩,⟨some 35, .len (.s 34), (some (31, true))⟩,
 ⟨some 36, .bin .lss false (.s 32) (.s 35), (some (31, true))⟩,oo 37 (.pick (.s 31) (.s 36) (.c (.bool false)))]) [1, 2, 6, 8, 37] (.cond (.s 37) (.skip) (.exit 2))) [1, 2, 6, 8] (.seq (.block 3 (.seq (.region true [oo 41 (.load true 1 (.s 2)),oo 42 (.mov (.s 8)),oo 43 (.load true 1 (.s 2)),
 oo 44 (.mov (.s 8)),oo 45 (.call 27 [(.s 43), (.s 44)]),oo 46 (.load true 1 (.s 2)),oo 47 (.mov (.s 8)),oo 48 (.call 27 [(.s 46), (.s 47)]),oo 49 (.mov (.s 1)),oo 50 (.mov (.s 8)),oo 51 (.indexAddr 1 (.s 49) (.s 50)),oo 52 (.load false 1 (.s 51)),oo 53 (.bin .and false (.s 48) (.s 52)),
 oo 54 (.bin .sub false (.s 45) (.s 53)),oo 55 (.build [(.int .i64 0), (.int .i64 0)] [(0, 1, (.s 42)), (1, 1, (.s 54))]),oo 56 (.buildSlice 2 56 [(.s 55)]),oo 57 (.call 52 [(.s 41), (.s 56)]),oo 40 (.mov (.s 57)),oo 58 (.extract 0 (.s 40)),oo 59 (.extract 1 (.s 40)),oo 9 (.mov (.s 58)),
 oo 10 (.mov (.s 59))]) [1, 2, 6, 8, 9, 10] (.seq (.region false [oo 60 (.mov (.s 10))]) [1, 2, 6, 8, 9, 60] (.cond (.s 60) (.region false [oo 61 (.mov (.s 6)),oo 62 (.mov (.s 9)),oo 63 (.buildSlice 1 39 [(.s 62)]),oo 64 (.append 1 39 24 (.s 61) (.s 63)),oo 6 (.mov (.s 64))]) (
 .skip))))) [1, 2, 6, 8] (.region false [oo 38 (.mov (.s 8)),oo 39 (.bin .add false (.s 38) (.c (.int .i64 1))),oo 8 (.mov (.s 39))])))))) [6] (.seq (.region false [oo 65 (.mov (.s 6)),oo 4 (.mov (.s 65))]) [4] (.ret))))))⟩
def tf31 : TFn := ⟨17, [.tmp 4],.seq (.region false [oo 4 (.mov (.c (.int .i64 0)))]) [0, 1] (.seq (.seq (.region false [oo 6 (.mov (.s 1)),oo 7 (.bin .lss false (.s 6) (.c (.int .i64 1)))]) [0, 1, 7] (.cond (.s 7) (.seq (.region false [oo 4 (.mov (.c (.int .i64 0)))]) [4] (.ret)) (
 .skip))) [0, 1] (.seq (.region false [oo 8 (.mov (.s 0)),oo 9 (.mov (.s 1)),oo 10 (.bin .rem false (.s 8) (.s 9)),oo 5 (.mov (.s 10))]) [1, 5] (.seq (.seq (.region false [oo 11 (.mov (.s 5)),oo 12 (.bin .lss false (.s 11) (.c (.int .i64 0)))]) [1, 5, 12] (.cond (.s 12) (.seq (
 .region false [oo 13 (.mov (.s 5)),oo 14 (.mov (.s 1)),oo 15 (.bin .add false (.s 13) (.s 14)),oo 4 (.mov (.s 15))]) [4] (.ret)) (.skip))) [5] (.seq (.region false [oo 16 (.mov (.s 5)),oo 4 (.mov (.s 16))]) [4] (.ret)))))⟩
def tf32 : TFn := ⟨18, [.cell 0 true 1],.seq (.region false [oo 0 (.alloc 26 [(.fsl [])])]) [0] (.seq (.region false [oo 2 (.call 53 []),oo 1 (.mov (.s 2))]) [0, 1] (.seq (.region true [oo 3 (.call 54 []),
 oo 4 (.build [(.int .i64 0), (.fsl []), (.fsl [])] [(0, 1, (.c (.int .i64 1))), (1, 2, (.s 3))]),oo 5 (.buildSlice 3 77 [(.s 4)]),oo 6 (.buildSlice 1 68 [(.s 5)]),
 oo 7 (.build [(.int .i64 0), (.int .i64 0), (.int .i64 0), (.str []), (.str []), (.int .i64 0), (.fsl []), (.fsl [])] [(5, 1, (.c (.int .i64 (-1)))), (6, 1, (.s 6))]),oo 8 (.buildSlice 8 70 [(.s 7)]),oo 9 (.build [(.str []), (.str []), (.fsl [])] [(2, 1, (.s 8))]),oo 10 (.mov (.s 1)),
 oo 11 (.indexAddr 5 (.s 10) (.c (.int .i64 0))),oo 12 (.load true 5 (.s 11)),oo 13 (.build [(.int .i64 0), (.int .i64 0), (.int .i64 0), (.str []), (.str []), (.int .i64 0), (.fsl []), (.fsl [])] [(0, 5, (.s 12))]),oo 14 (.buildSlice 8 70 [(.s 13)]),
 oo 15 (.build [(.str []), (.str []), (.fsl [])] [(0, 1, (.c (.str [97, 110, 116]))), (2, 1, (.s 14))]),oo 16 (.buildSlice 3 48 [(.s 9), (.s 15)]),oo 17 (.build [(.fsl [])] [(0, 1, (.s 16))]),⟨none, .store 1 (.s 0) (.s 17), none⟩]) [0] (.ret)))⟩
def tf33 : TFn := ⟨100, [.tmp 4],.seq (.region false [oo 4 (.mov (.c (.fsl [])))]) [0, 1] (.seq (.region false [oo 14 (.buildSlice 1 9 [(.c (.str [97, 110, 116])), (.c (.str [98, 101, 101])), (.c (.str [99, 111, 119])), (.c (.str [100, 111, 103])), (.c (.str [101, 108, 107]))]),
 oo 5 (.mov (.s 14))]) [0, 1, 5] (.seq (.region false [oo 15 (.build [(.int .i64 0), (.int .i64 0), (.int .i64 0), (.str []), (.str []), (.int .i64 0), (.fsl []), (.fsl [])] [(5, 1, (.c (.int .i64 (-1))))]),oo 16 (.buildSlice 8 70 [(.s 15)]),
 oo 17 (.build [(.str []), (.str []), (.fsl [])] [(2, 1, (.s 16))]),oo 18 (.buildSlice 3 48 [(.s 17)]),oo 6 (.mov (.s 18))]) [0, 1, 5, 6] (.seq (.region false [oo 19 (.call 53 []),oo 7 (.mov (.s 19))]) [0, 1, 5, 6, 7] (.seq (.seq (.region false [oo 8 (.mov (.c (.int .i64 0)))]) [0, 1, 5, 6, 7, 8] (
 .block 0 (.loop (.seq (.seq (.region false [oo 20 (.mov (.s 8)),oo 21 (.mov (.s 0)),oo 22 (.mov (.s 1)),oo 23 (.call 36 [(.s 21), (.s 22)]),oo 24 (.bin .add false (.c (.int .i64 1)) (.s 23)),oo 25 (.bin .lss false (.s 20) (.s 24)),oo 26 (.mov (.s 25)),⟨some 27, .mov (.s 8), (some (26, true))⟩,
 ⟨some 28, .mov (.s 5), (some (26, true))⟩,⟨some 29, .len (.s 28), (some (26, true))⟩,⟨some 30, .bin .lss false (.s 27) (.s 29), (some (26, true))⟩,oo 31 (.pick (.s 26) (.s 30) (.c (.bool false)))]) [0, 1, 5, 6, 7, 8, 31] (.cond (.s 31) (.skip) (.exit 0))) [0, 1, 5, 6, 7, 8] (.seq (.block 1 (.seq (
 .region false [oo 9 (.mov (.c (.fsl [])))]) [0, 1, 5, 6, 7, 8, 9] (.seq (.region false [oo 34 (.mov (.s 0)),oo 35 (.call 36 [(.s 34), (.c (.int .i64 16))]),oo 10 (.mov (.s 35))]) [0, 1, 5, 6, 7, 8, 9, 10] (.seq (.seq (.region false [oo 11 (.mov (.c (.int .i64 0)))]) [0, 1, 5, 6, 7, 8, 9, 10, 11] (
 .block 2 (.loop (.seq (.seq (.region false [oo 36 (.mov (.s 11)),oo 37 (.mov (.s 7)),oo 38 (.len (.s 37)),oo 39 (.bin .lss false (.s 36) (.s 38))]) [0, 1, 5, 6, 7, 8, 9, 10, 11, 39] (.cond (.s 39) (.skip) (.exit 2))) [0, 1, 5, 6, 7, 8, 9, 10, 11] (.seq (.block 3 (.seq (
 .region false [oo 42 (.mov (.s 10)),oo 43 (.mov (.s 11)),oo 44 (.conv .u64 (.s 43)),oo 45 (.bin .shr false (.s 42) (.s 44)),oo 46 (.bin .and false (.s 45) (.c (.int .i64 1))),oo 47 (.bin .eql false (.s 46) (.c (.int .i64 1)))]) [0, 1, 5, 6, 7, 8, 9, 10, 11, 47] (.cond (.s 47) (
 .region false [oo 48 (.mov (.s 9)),oo 49 (.mov (.s 7)),oo 50 (.mov (.s 11)),oo 51 (.indexAddr 5 (.s 49) (.s 50)),oo 52 (.load true 5 (.s 51)),oo 53 (.build [(.int .i64 0), (.int .i64 0), (.int .i64 0), (.str []), (.str []), (.int .i64 0), (.fsl []), (.fsl [])] [(0, 5, (.s 52))]),
 oo 54 (.buildSlice 8 70 [(.s 53)]),oo 55 (.append 8 70 112 (.s 48) (.s 54)),oo 9 (.mov (.s 55))]) (.skip)))) [0, 1, 5, 6, 7, 8, 9, 10, 11] (.region false [oo 40 (.mov (.s 11)),oo 41 (.bin .add false (.s 40) (.c (.int .i64 1))),oo 11 (.mov (.s 41))])))))) [0, 1, 5, 6, 7, 8, 9] (.seq (
 .region false [oo 56 (.mov (.s 6)),oo 57 (.mov (.s 5)),oo 58 (.mov (.s 8)),oo 59 (.indexAddr 1 (.s 57) (.s 58)),oo 60 (.load false 1 (.s 59)),oo 61 (.mov (.s 9)),oo 62 (.build [(.str []), (.str []), (.fsl [])] [(0, 1, (.s 60)), (2, 1, (.s 61))]),oo 63 (.buildSlice 3 48 [(.s 62)]),
 oo 64 (.append 3 48 56 (.s 56) (.s 63)),oo 6 (.mov (.s 64))]) [0, 1, 5, 6, 7, 8, 9] (.seq (.region false [oo 65 (.mov (.s 8)),oo 66 (.bin .lss false (.s 65) (.c (.int .i64 2))),oo 67 (.mov (.s 66)),⟨some 68, .mov (.s 0), (some (67, true))⟩,
 ⟨some 69, .call 36 [(.s 68), (.c (.int .i64 3))], (some (67, true))⟩,⟨some 70, .bin .eql false (.s 69) (.c (.int .i64 0)), (some (67, true))⟩,oo 71 (.pick (.s 67) (.s 70) (.c (.bool false)))]) [0, 1, 5, 6, 7, 8, 9, 71] (.cond (.s 71) (.seq (
 .region false [oo 12 (.mov (.c (.fsl [])))]) [0, 1, 5, 6, 7, 8, 9, 12] (.seq (.seq (.region false [oo 13 (.mov (.c (.int .i64 0)))]) [0, 1, 5, 6, 7, 8, 9, 12, 13] (.block 4 (.loop (.seq (.seq (.region false [oo 72 (.mov (.s 13)),oo 73 (.mov (.s 9)),oo 74 (.len (.s 73)),
 oo 75 (.bin .lss false (.s 72) (.s 74))]) [0, 1, 5, 6, 7, 8, 9, 12, 13, 75] (.cond (.s 75) (.skip) (.exit 4))) [0, 1, 5, 6, 7, 8, 9, 12, 13] (.seq (.block 5 (.seq (.region false [oo 78 (.mov (.s 0)),oo 79 (.call 36 [(.s 78), (.c (.int .i64 3))]),
 oo 80 (.bin .gtr false (.s 79) (.c (.int .i64 0)))]) [0, 1, 5, 6, 7, 8, 9, 12, 13, 80] (.cond (.s 80) (.region false [oo 81 (.mov (.s 12)),oo 82 (.mov (.s 9)),oo 83 (.mov (.s 13)),oo 84 (.indexAddr 8 (.s 82) (.s 83)),oo 85 (.fieldAddr 0 (.s 84)),oo 86 (.load true 5 (.s 85)),
 oo 87 (.build [(.int .i64 0), (.int .i64 0), (.int .i64 0), (.str []), (.str []), (.int .i64 0), (.fsl []), (.fsl [])] [(0, 5, (.s 86))]),oo 88 (.buildSlice 8 70 [(.s 87)]),oo 89 (.append 8 70 112 (.s 81) (.s 88)),oo 12 (.mov (.s 89))]) (.skip)))) [0, 1, 5, 6, 7, 8, 9, 12, 13] (
 .region false [oo 76 (.mov (.s 13)),oo 77 (.bin .add false (.s 76) (.c (.int .i64 1))),oo 13 (.mov (.s 77))])))))) [0, 1, 5, 6, 7, 8, 12] (.region false [oo 90 (.mov (.s 6)),oo 91 (.mov (.s 5)),oo 92 (.mov (.s 8)),oo 93 (.indexAddr 1 (.s 91) (.s 92)),oo 94 (.load false 1 (.s 93)),
 oo 95 (.mov (.s 12)),oo 96 (.build [(.str []), (.str []), (.fsl [])] [(0, 1, (.s 94)), (1, 1, (.c (.str [102]))), (2, 1, (.s 95))]),oo 97 (.buildSlice 3 48 [(.s 96)]),oo 98 (.append 3 48 56 (.s 90) (.s 97)),oo 6 (.mov (.s 98))]))) (.skip)))))))) [0, 1, 5, 6, 7, 8] (
 .region false [oo 32 (.mov (.s 8)),oo 33 (.bin .add false (.s 32) (.c (.int .i64 1))),oo 8 (.mov (.s 33))])))))) [6] (.seq (.region false [oo 99 (.mov (.s 6)),oo 4 (.mov (.s 99))]) [4] (.ret))))))⟩
def tf34 : TFn := ⟨36, [.tmp 6],.seq (.region false [oo 6 (.mov (.c (.fsl [])))]) [0, 1, 2] (.seq (.region false [oo 7 (.mov (.c (.fsl [])))]) [0, 1, 2, 7] (.seq (.seq (.region false [oo 10 (.mov (.s 0)),oo 11 (.mov (.s 2)),oo 12 (.bin .add false (.s 11) (.c (.int .i64 1))),
 oo 13 (.call 36 [(.s 10), (.s 12)]),oo 8 (.mov (.s 13))]) [0, 1, 7, 8] (.block 0 (.loop (.seq (.seq (.region false [oo 14 (.mov (.s 8)),oo 15 (.bin .gtr false (.s 14) (.c (.int .i64 0)))]) [0, 1, 7, 8, 15] (.cond (.s 15) (.skip) (.exit 0))) [0, 1, 7, 8] (.seq (.block 1 (.seq (
 .region false [oo 18 (.mov (.s 0)),oo 19 (.mov (.s 1)),oo 20 (.call 37 [(.s 18), (.s 19)]),oo 21 (.buildSlice 3 77 [(.s 20)]),oo 9 (.mov (.s 21))]) [0, 1, 7, 8, 9] (.seq (.seq (.region false [oo 22 (.mov (.s 0)),oo 23 (.call 36 [(.s 22), (.c (.int .i64 3))]),
 oo 24 (.bin .eql false (.s 23) (.c (.int .i64 0)))]) [0, 1, 7, 8, 9, 24] (.cond (.s 24) (.region false [oo 25 (.mov (.s 9)),oo 26 (.mov (.s 0)),oo 27 (.mov (.s 1)),oo 28 (.call 37 [(.s 26), (.s 27)]),oo 29 (.buildSlice 3 77 [(.s 28)]),oo 30 (.append 3 77 56 (.s 25) (.s 29)),oo 9 (.mov (.s 30))]) (
 .skip))) [0, 1, 7, 8, 9] (.region false [oo 31 (.mov (.s 7)),oo 32 (.mov (.s 9)),oo 33 (.buildSlice 1 68 [(.s 32)]),oo 34 (.append 1 68 24 (.s 31) (.s 33)),oo 7 (.mov (.s 34))])))) [0, 1, 7, 8] (.region false [oo 16 (.mov (.s 8)),oo 17 (.bin .sub false (.s 16) (.c (.int .i64 1))),
 oo 8 (.mov (.s 17))])))))) [7] (.seq (.region false [oo 35 (.mov (.s 7)),oo 6 (.mov (.s 35))]) [6] (.ret))))⟩
def tf35 : TFn := ⟨24, [.cell 2 true 2],.seq (.region false [oo 1 (.box 67 (.s 0)),oo 2 (.alloc 74 [(.fsl []), (.fsl [])])]) [1, 2] (.seq (.seq (.region false [oo 3 (.load true 5 (.s 1)),oo 4 (.call 55 [(.s 3)]),oo 5 (.un .not (.s 4))]) [1, 2, 5] (.cond (.s 5) (.seq (
 .region false [oo 6 (.call 56 []),⟨none, .store 2 (.s 2) (.s 6), none⟩]) [2] (.ret)) (.skip))) [1, 2] (.seq (.seq (.region false [oo 7 (.fieldAddr 3 (.s 1)),oo 8 (.load false 1 (.s 7)),oo 9 (.bin .neq false (.s 8) (.c (.str [])))]) [1, 2, 9] (.cond (.s 9) (.seq (
 .region true [oo 10 (.load true 5 (.s 1)),oo 11 (.call 57 [(.s 10)]),oo 12 (.load true 5 (.s 1)),oo 13 (.call 58 [(.s 12)]),
 oo 14 (.build [(.int .i64 0), (.int .i64 0), (.int .i64 0), (.int .i64 0), (.str []), (.str []), (.bool false), (.int .i64 0), (.int .i64 0), (.int .i64 0), (.int .i64 0), (.str []), (.str []), (.bool false)] [(0, 7, (.s 11)), (7, 7, (.s 13))]),oo 15 (.buildSlice 14 108 [(.s 14)]),
 oo 16 (.build [(.fsl []), (.fsl [])] [(1, 1, (.s 15))]),⟨none, .store 2 (.s 2) (.s 16), none⟩]) [2] (.ret)) (.skip))) [1, 2] (.seq (.region true [oo 17 (.load true 5 (.s 1)),oo 18 (.call 59 [(.s 17)]),oo 19 (.load true 5 (.s 1)),oo 20 (.call 60 [(.s 19)]),
 oo 21 (.build [(.int .i64 0), (.int .i64 0), (.int .i64 0), (.int .i64 0), (.str []), (.str []), (.bool false), (.int .i64 0), (.int .i64 0), (.int .i64 0), (.int .i64 0), (.str []), (.str []), (.bool false)] [(0, 7, (.s 18)), (7, 7, (.s 20))]),oo 22 (.buildSlice 14 108 [(.s 21)]),
 oo 23 (.build [(.fsl []), (.fsl [])] [(0, 1, (.s 22))]),⟨none, .store 2 (.s 2) (.s 23), none⟩]) [2] (.ret))))⟩
def tf36 : TFn := ⟨24, [.tmp 4],.seq (.region false [oo 4 (.mov (.c (.int .i64 0)))]) [0, 1] (.seq (.region false [oo 5 (.mov (.s 0)),oo 6 (.nilCheck (.s 5)),oo 7 (.fieldAddr 1 (.s 6)),oo 8 (.load false 1 (.s 7)),oo 9 (.bin .add false (.s 8) (.c (.int .i64 1))),oo 10 (.nilCheck (.s 5)),
 oo 11 (.fieldAddr 1 (.s 10)),⟨none, .store 1 (.s 11) (.s 9), none⟩]) [0, 1] (.seq (.region true [oo 12 (.mov (.s 0)),oo 13 (.nilCheck (.s 12)),oo 14 (.fieldAddr 0 (.s 13)),oo 15 (.load false 1 (.s 14)),oo 16 (.mov (.s 0)),oo 17 (.nilCheck (.s 16)),oo 18 (.fieldAddr 1 (.s 17)),
 oo 19 (.load false 1 (.s 18)),oo 20 (.bin .sub false (.s 19) (.c (.int .i64 1))),oo 21 (.call 61 [(.s 15), (.s 20)]),oo 22 (.mov (.s 1)),oo 23 (.call 31 [(.s 21), (.s 22)]),oo 4 (.mov (.s 23))]) [4] (.ret)))⟩
def tf37 : TFn := ⟨21, [.cell 4 true 3],.seq (.region false [oo 4 (.alloc 77 [(.int .i64 0), (.fsl []), (.fsl [])])]) [0, 1, 4] (.seq (.region false [oo 6 (.mov (.s 0)),oo 7 (.mov (.s 1)),oo 8 (.len (.s 7)),oo 9 (.bin .sub false (.s 8) (.c (.int .i64 1))),oo 10 (.call 36 [(.s 6), (.s 9)]),
 oo 11 (.bin .add false (.c (.int .i64 1)) (.s 10)),oo 5 (.mov (.s 11))]) [0, 1, 4, 5] (.seq (.region false [oo 12 (.mov (.s 5)),oo 13 (.mov (.s 0)),oo 14 (.mov (.s 1)),oo 15 (.mov (.s 5)),oo 16 (.indexAddr 3 (.s 14) (.s 15)),oo 17 (.fieldAddr 2 (.s 16)),oo 18 (.load false 1 (.s 17)),
 oo 19 (.call 62 [(.s 13), (.s 18)]),oo 20 (.build [(.int .i64 0), (.fsl []), (.fsl [])] [(0, 1, (.s 12)), (1, 2, (.s 19))]),⟨none, .store 3 (.s 4) (.s 20), none⟩]) [4] (.ret)))⟩
def tf38 : TFn := ⟨51, [.tmp 4],.seq (.region false [oo 2 (.box 26 (.s 0)),oo 4 (.mov (.c (.fsl [])))]) [1, 2] (.seq (.region false [oo 5 (.mov (.c (.fsl [])))]) [1, 2, 5] (.seq (.seq (.region false [oo 6 (.mov (.c (.int .i64 0)))]) [1, 2, 5, 6] (.block 0 (.loop (.seq (.seq (
 .region false [oo 10 (.mov (.s 6)),oo 11 (.bin .add false (.s 10) (.c (.int .i64 1))),oo 12 (.mov (.s 1)),oo 13 (.len (.s 12)),oo 14 (.bin .lss false (.s 11) (.s 13)),oo 15 (.mov (.s 14)),⟨some 16, .mov (.s 6), (some (15, true))⟩,
 ⟨some 17, .bin .lss false (.s 16) (.c (.int .i64 8)), (some (15, true))⟩,oo 18 (.pick (.s 15) (.s 17) (.c (.bool false)))]) [1, 2, 5, 6, 18] (.cond (.s 18) (.skip) (.exit 0))) [1, 2, 5, 6] (.seq (.block 1 (.seq (.region true [oo 21 (.mov (.s 1)),oo 22 (.mov (.s 6)),
 oo 23 (.indexAddr 1 (.s 21) (.s 22)),oo 24 (.load false 1 (.s 23)),oo 25 (.fieldAddr 0 (.s 2)),oo 26 (.load false 1 (.s 25)),oo 27 (.len (.s 26)),oo 28 (.call 31 [(.s 24), (.s 27)]),oo 7 (.mov (.s 28))]) [1, 2, 5, 6, 7] (.region true [oo 29 (.mov (.s 5)),oo 30 (.mov (.s 7)),oo 31 (.mov (.s 1)),
 oo 32 (.mov (.s 6)),oo 33 (.bin .add false (.s 32) (.c (.int .i64 1))),oo 34 (.indexAddr 1 (.s 31) (.s 33)),oo 35 (.load false 1 (.s 34)),oo 36 (.load true 1 (.s 2)),oo 37 (.mov (.s 7)),oo 38 (.call 27 [(.s 36), (.s 37)]),oo 39 (.call 31 [(.s 35), (.s 38)]),
 oo 40 (.bin .add false (.c (.int .i64 1)) (.s 39)),oo 41 (.build [(.int .i64 0), (.int .i64 0)] [(0, 1, (.s 30)), (1, 1, (.s 40))]),oo 42 (.buildSlice 2 56 [(.s 41)]),oo 43 (.append 2 56 16 (.s 29) (.s 42)),oo 5 (.mov (.s 43))]))) [1, 2, 5, 6] (.region false [oo 19 (.mov (.s 6)),
 oo 20 (.bin .add false (.s 19) (.c (.int .i64 2))),oo 6 (.mov (.s 20))])))))) [2, 5] (.seq (.region false [oo 45 (.load true 1 (.s 2)),oo 46 (.mov (.s 5)),oo 47 (.call 52 [(.s 45), (.s 46)]),oo 44 (.mov (.s 47)),oo 48 (.extract 0 (.s 44)),oo 49 (.extract 1 (.s 44)),oo 8 (.mov (.s 48)),
 oo 9 (.mov (.s 49))]) [8] (.seq (.region false [oo 50 (.mov (.s 8)),oo 4 (.mov (.s 50))]) [4] (.ret)))))⟩
def tf39 : TFn := ⟨20, [.tmp 2],.seq (.region false [oo 2 (.mov (.c (.fsl [])))]) [0] (.seq (.region false [oo 3 (.mov (.c (.fsl [])))]) [0, 3] (.seq (.seq (.region false [oo 4 (.mov (.c (.int .i64 0)))]) [0, 3, 4] (.block 0 (.loop (.seq (.seq (.region false [oo 5 (.mov (.s 4)),
 oo 6 (.bin .leq false (.s 5) (.c (.int .i64 16)))]) [0, 3, 4, 6] (.cond (.s 6) (.skip) (.exit 0))) [0, 3, 4] (.seq (.block 1 (.seq (.region false [oo 9 (.mov (.s 0)),oo 10 (.mov (.s 4)),oo 11 (.call 50 [(.s 10)]),oo 12 (.bin .and false (.s 9) (.s 11)),
 oo 13 (.bin .neq false (.s 12) (.c (.int .i64 0)))]) [0, 3, 4, 13] (.cond (.s 13) (.region false [oo 14 (.mov (.s 3)),oo 15 (.mov (.s 4)),oo 16 (.bin .sub false (.s 15) (.c (.int .i64 1))),oo 17 (.buildSlice 1 3 [(.s 16)]),oo 18 (.append 1 3 8 (.s 14) (.s 17)),oo 3 (.mov (.s 18))]) (
 .skip)))) [0, 3, 4] (.region false [oo 7 (.mov (.s 4)),oo 8 (.bin .add false (.s 7) (.c (.int .i64 1))),oo 4 (.mov (.s 8))])))))) [3] (.seq (.region false [oo 19 (.mov (.s 3)),oo 2 (.mov (.s 19))]) [2] (.ret))))⟩
def tf40 : TFn := ⟨53, [.tmp 8, .tmp 9],.seq (.region false [oo 4 (.box 26 (.s 0)),oo 8 (.mov (.c (.fsl []))),oo 9 (.mov (.c (.bool false)))]) [1, 2, 3, 4] (.seq (.seq (.region false [oo 11 (.mov (.s 2)),oo 12 (.bin .lss false (.s 11) (.c (.int .i64 0))),oo 13 (.mov (.s 12)),
 ⟨some 14, .mov (.s 2), (some (13, false))⟩,⟨some 15, .fieldAddr 0 (.s 4), (some (13, false))⟩,⟨some 16, .load false 1 (.s 15), (some (13, false))⟩,⟨some 17, .len (.s 16), (some (13, false))⟩,⟨some 18, .bin .geq false (.s 14) (.s 17), (some (13, false))⟩,
 oo 19 (.pick (.s 13) (.c (.bool true)) (.s 18)),oo 20 (.mov (.s 19)),⟨some 21, .mov (.s 3), (some (20, false))⟩,⟨some 22, .bin .lss false (.s 21) (.c (.int .i64 0)), (some (20, false))⟩,oo 23 (.pick (.s 20) (.c (.bool true)) (.s 22)),oo 24 (.mov (.s 23)),⟨some 25, .mov (.s 3), (some (24, false))⟩,
 ⟨some 26, .fieldAddr 0 (.s 4), (some (24, false))⟩,⟨some 27, .load false 1 (.s 26), (some (24, false))⟩,⟨some 28, .mov (.s 2), (some (24, false))⟩,⟨some 29, .indexAddr 3 (.s 27) (.s 28), (some (24, false))⟩,⟨some 30, .fieldAddr 2 (.s 29), (some (24, false))⟩,
 ⟨some 31, .load false 1 (.s 30), (some (24, false))⟩,⟨some 32, .len (.s 31), (some (24, false))⟩,⟨some 33, .bin .geq false (.s 25) (.s 32), (some (24, false))⟩,oo 34 (.pick (.s 24) (.c (.bool true)) (.s 33))]) [1, 2, 3, 4, 34] (.cond (.s 34) (.seq (.region false [oo 8 (.mov (.c (.fsl []))),
 oo 9 (.mov (.c (.bool false)))]) [8, 9] (.ret)) (.skip))) [1, 2, 3, 4] (.seq (.region false [oo 35 (.mov (.s 2)),oo 36 (.mov (.s 3)),oo 37 (.conv .u64 (.s 36)),oo 38 (.bin .shl false (.c (.int .i64 2)) (.s 37)),oo 39 (.mov (.s 1)),oo 40 (.call 25 [(.s 39)]),
 oo 41 (.bin .add false (.s 40) (.c (.int .i64 1))),oo 42 (.build [(.int .i64 0), (.int .i64 0), (.int .i64 0), (.int .i64 0)] [(0, 1, (.s 35)), (1, 1, (.s 38)), (2, 1, (.s 41)), (3, 1, (.c (.int .i64 (-1))))]),oo 10 (.alloc 50 [(.int .i64 0), (.int .i64 0), (.int .i64 0), (.int .i64 0)]),
 ⟨none, .store 4 (.s 10) (.s 42), none⟩]) [1, 4, 10] (.seq (.seq (.region false [oo 43 (.load true 1 (.s 4)),oo 44 (.mov (.s 1)),oo 45 (.load true 4 (.s 10)),oo 46 (.call 47 [(.s 43), (.s 44), (.s 45)]),oo 47 (.un .not (.s 46))]) [1, 10, 47] (.cond (.s 47) (.seq (
 .region false [oo 8 (.mov (.c (.fsl []))),oo 9 (.mov (.c (.bool false)))]) [8, 9] (.ret)) (.skip))) [1, 10] (.seq (.region true [oo 48 (.mov (.s 1)),oo 49 (.append 4 50 32 (.c (.fsl [])) (.s 48)),oo 50 (.load true 4 (.s 10)),oo 51 (.buildSlice 4 50 [(.s 50)]),
 oo 52 (.append 4 50 32 (.s 49) (.s 51)),oo 8 (.mov (.s 52)),oo 9 (.mov (.c (.bool true)))]) [8, 9] (.ret)))))⟩
def tf41 : TFn := ⟨49, [.tmp 4],.seq (.region false [oo 2 (.box 26 (.s 0)),oo 4 (.mov (.c (.fsl [])))]) [1, 2] (.seq (.region false [oo 9 (.fieldAddr 0 (.s 2)),oo 10 (.load false 1 (.s 9)),oo 11 (.len (.s 10)),oo 12 (.makeSlice 1 3 8 [(.int .i64 0)] (.s 11) (.s 11)),
 oo 5 (.mov (.s 12))]) [1, 2, 5] (.seq (.seq (.region false [oo 13 (.mov (.s 5)),oo 14 (.len (.s 13)),oo 15 (.mov (.c (.int .i64 0)))]) [1, 2, 5, 14, 15] (.block 0 (.loop (.seq (.region false [oo 16 (.bin .lss false (.s 15) (.s 14))]) [1, 2, 5, 14, 15, 16] (.seq (.cond (.s 16) (.skip) (
 .exit 0)) [1, 2, 5, 14, 15] (.seq (.block 1 (.seq (.region false [oo 17 (.mov (.s 15)),oo 6 (.mov (.s 17))]) [1, 2, 5, 6, 14, 15] (.region false [oo 18 (.mov (.s 5)),oo 19 (.mov (.s 6)),oo 20 (.load true 1 (.s 2)),oo 21 (.mov (.s 6)),oo 22 (.call 63 [(.s 20), (.s 21)]),
 oo 23 (.indexAddr 1 (.s 18) (.s 19)),⟨none, .store 1 (.s 23) (.s 22), none⟩]))) [1, 2, 5, 14, 15] (.region false [oo 24 (.bin .add false (.s 15) (.c (.int .i64 1))),oo 15 (.mov (.s 24))]))))))) [1, 5] (.seq (.seq (.region false [oo 25 (.mov (.s 1)),oo 26 (.len (.s 25)),
 oo 27 (.mov (.c (.int .i64 0)))]) [5, 25, 26, 27] (.block 2 (.loop (.seq (.region false [oo 28 (.bin .lss false (.s 27) (.s 26))]) [5, 25, 26, 27, 28] (.seq (.cond (.s 28) (.skip) (.exit 2)) [5, 25, 26, 27] (.seq (.block 3 (.seq (.region false [oo 29 (.indexAddr 4 (.s 25) (.s 27)),
 oo 30 (.load true 4 (.s 29)),oo 8 (.alloc 50 [(.int .i64 0), (.int .i64 0), (.int .i64 0), (.int .i64 0)]),⟨none, .store 4 (.s 8) (.s 30), none⟩]) [5, 8, 25, 26, 27] (.seq (.region false [oo 31 (.fieldAddr 0 (.s 8)),oo 32 (.load false 1 (.s 31)),oo 33 (.bin .geq false (.s 32) (.c (.int .i64 0))),
 oo 34 (.mov (.s 33)),⟨some 35, .fieldAddr 0 (.s 8), (some (34, true))⟩,⟨some 36, .load false 1 (.s 35), (some (34, true))⟩,⟨some 37, .mov (.s 5), (some (34, true))⟩,⟨some 38, .len (.s 37), (some (34, true))⟩,⟨some 39, .bin .lss false (.s 36) (.s 38), (some (34, true))⟩,
 oo 40 (.pick (.s 34) (.s 39) (.c (.bool false)))]) [5, 8, 25, 26, 27, 40] (.cond (.s 40) (.region false [oo 41 (.mov (.s 5)),oo 42 (.fieldAddr 0 (.s 8)),oo 43 (.load false 1 (.s 42)),oo 44 (.fieldAddr 1 (.s 8)),oo 45 (.load false 1 (.s 44)),oo 46 (.indexAddr 1 (.s 41) (.s 43)),
 ⟨none, .store 1 (.s 46) (.s 45), none⟩]) (.skip))))) [5, 25, 26, 27] (.region false [oo 47 (.bin .add false (.s 27) (.c (.int .i64 1))),oo 27 (.mov (.s 47))]))))))) [5] (.seq (.region false [oo 48 (.mov (.s 5)),oo 4 (.mov (.s 48))]) [4] (.ret)))))⟩
def tf42 : TFn := ⟨27, [.tmp 4, .tmp 5],.seq (.region false [oo 4 (.mov (.c (.int .i64 0))),oo 5 (.mov (.c (.int .i64 0)))]) [0, 1] (.seq (.seq (.region false [oo 10 (.mov (.s 1)),oo 11 (.len (.s 10)),oo 12 (.mov (.c (.int .i64 0)))]) [0, 10, 11, 12] (.block 0 (.loop (.seq (
 .region false [oo 13 (.bin .lss false (.s 12) (.s 11))]) [0, 10, 11, 12, 13] (.seq (.cond (.s 13) (.skip) (.exit 0)) [0, 10, 11, 12] (.seq (.block 1 (.seq (.region false [oo 14 (.mov (.s 12)),oo 15 (.indexAddr 1 (.s 10) (.s 12)),oo 16 (.load false 1 (.s 15)),oo 6 (.mov (.s 14)),
 oo 7 (.mov (.s 16))]) [0, 6, 7, 10, 11, 12] (.seq (.region false [oo 18 (.mov (.s 0)),oo 19 (.mov (.s 7)),oo 20 (.call 64 [(.s 18), (.s 19)]),oo 17 (.mov (.s 20)),oo 21 (.extract 0 (.s 17)),oo 22 (.extract 1 (.s 17)),oo 8 (.mov (.s 21)),oo 9 (.mov (.s 22))]) [0, 6, 8, 9, 10, 11, 12] (.seq (
 .region false [oo 23 (.mov (.s 9))]) [0, 6, 8, 10, 11, 12, 23] (.cond (.s 23) (.seq (.region false [oo 24 (.mov (.s 6)),oo 25 (.mov (.s 8)),oo 4 (.mov (.s 24)),oo 5 (.mov (.s 25))]) [4, 5] (.ret)) (.skip)))))) [0, 10, 11, 12] (.region false [oo 26 (.bin .add false (.s 12) (.c (.int .i64 1))),
 oo 12 (.mov (.s 26))]))))))) [] (.seq (.region false [oo 4 (.mov (.c (.int .i64 (-1)))),oo 5 (.mov (.c (.int .i64 (-1))))]) [4, 5] (.ret)))⟩
def tf43 : TFn := ⟨44, [.tmp 8, .tmp 9],.seq (.region false [oo 4 (.box 26 (.s 0)),oo 6 (.box 56 (.s 2)),oo 8 (.mov (.c (.fsl []))),oo 9 (.mov (.c (.bool false)))]) [1, 3, 4, 6] (.seq (.region false [oo 11 (.load true 1 (.s 4)),oo 12 (.mov (.s 1)),oo 13 (.fieldAddr 0 (.s 6)),
 oo 14 (.load false 1 (.s 13)),oo 15 (.call 65 [(.s 11), (.s 12), (.s 14)]),oo 10 (.mov (.s 15))]) [1, 3, 6, 10] (.seq (.seq (.region false [oo 16 (.mov (.s 3)),oo 17 (.bin .lss false (.s 16) (.c (.int .i64 0))),oo 18 (.mov (.s 17)),⟨some 19, .mov (.s 10), (some (18, false))⟩,
 ⟨some 20, .fieldAddr 1 (.s 6), (some (18, false))⟩,⟨some 21, .load false 1 (.s 20), (some (18, false))⟩,⟨some 22, .bin .and false (.s 19) (.s 21), (some (18, false))⟩,⟨some 23, .bin .eql false (.s 22) (.c (.int .i64 0)), (some (18, false))⟩,oo 24 (.pick (.s 18) (.c (.bool true)) (.s 23)),
 oo 25 (.mov (.s 24)),⟨some 26, .mov (.s 10), (some (25, false))⟩,⟨some 27, .fieldAddr 1 (.s 6), (some (25, false))⟩,⟨some 28, .load false 1 (.s 27), (some (25, false))⟩,⟨some 29, .bin .andNot false (.s 26) (.s 28), (some (25, false))⟩,
 ⟨some 30, .bin .eql false (.s 29) (.c (.int .i64 0)), (some (25, false))⟩,oo 31 (.pick (.s 25) (.c (.bool true)) (.s 30))]) [1, 3, 6, 10, 31] (.cond (.s 31) (.seq (.region false [oo 8 (.mov (.c (.fsl []))),oo 9 (.mov (.c (.bool false)))]) [8, 9] (.ret)) (.skip))) [1, 3, 6, 10] (.seq (
 .region true [oo 32 (.mov (.s 1)),oo 33 (.fieldAddr 0 (.s 6)),oo 34 (.load false 1 (.s 33)),oo 35 (.mov (.s 10)),oo 36 (.fieldAddr 1 (.s 6)),oo 37 (.load false 1 (.s 36)),oo 38 (.bin .andNot false (.s 35) (.s 37)),oo 39 (.mov (.s 1)),oo 40 (.call 67 [(.s 39)]),oo 41 (.mov (.s 3)),
 oo 42 (.build [(.int .i64 0), (.int .i64 0), (.int .i64 0), (.int .i64 0)] [(0, 1, (.s 34)), (1, 1, (.s 38)), (2, 1, (.s 40)), (3, 1, (.s 41))]),oo 43 (.call 66 [(.s 32), (.s 42)]),oo 8 (.mov (.s 43)),oo 9 (.mov (.c (.bool true)))]) [8, 9] (.ret))))⟩
def tf44 : TFn := ⟨58, [.tmp 8, .tmp 9],.seq (.region false [oo 4 (.box 26 (.s 0)),oo 6 (.box 56 (.s 2)),oo 8 (.mov (.c (.fsl []))),oo 9 (.mov (.c (.bool false)))]) [1, 3, 4, 6] (.seq (.seq (.region false [oo 12 (.mov (.s 3)),oo 13 (.bin .lss false (.s 12) (.c (.int .i64 0))),oo 14 (.mov (.s 13)),
 ⟨some 15, .fieldAddr 0 (.s 6), (some (14, false))⟩,⟨some 16, .load false 1 (.s 15), (some (14, false))⟩,⟨some 17, .bin .lss false (.s 16) (.c (.int .i64 0)), (some (14, false))⟩,oo 18 (.pick (.s 14) (.c (.bool true)) (.s 17)),oo 19 (.mov (.s 18)),⟨some 20, .fieldAddr 0 (.s 6), (some (19, false))⟩,
 ⟨some 21, .load false 1 (.s 20), (some (19, false))⟩,⟨some 22, .fieldAddr 0 (.s 4), (some (19, false))⟩,⟨some 23, .load false 1 (.s 22), (some (19, false))⟩,⟨some 24, .len (.s 23), (some (19, false))⟩,⟨some 25, .bin .geq false (.s 21) (.s 24), (some (19, false))⟩,
 oo 26 (.pick (.s 19) (.c (.bool true)) (.s 25))]) [1, 3, 4, 6, 26] (.cond (.s 26) (.seq (.region false [oo 8 (.mov (.c (.fsl []))),oo 9 (.mov (.c (.bool false)))]) [8, 9] (.ret)) (.skip))) [1, 3, 4, 6] (.seq (.region false [oo 27 (.load true 1 (.s 4)),oo 28 (.mov (.s 1)),
 oo 29 (.fieldAddr 0 (.s 6)),oo 30 (.load false 1 (.s 29)),oo 31 (.call 26 [(.s 27), (.s 28), (.s 30)]),oo 10 (.mov (.s 31))]) [1, 3, 6, 10] (.seq (.region true [oo 32 (.fieldAddr 0 (.s 6)),oo 33 (.load false 1 (.s 32)),oo 34 (.mov (.s 10)),oo 35 (.mov (.s 10)),oo 36 (.fieldAddr 1 (.s 6)),
 oo 37 (.load false 1 (.s 36)),oo 38 (.bin .and false (.s 35) (.s 37)),oo 39 (.bin .sub false (.s 34) (.s 38)),oo 40 (.mov (.s 1)),oo 41 (.call 25 [(.s 40)]),oo 42 (.mov (.s 3)),
 oo 43 (.build [(.int .i64 0), (.int .i64 0), (.int .i64 0), (.int .i64 0)] [(0, 1, (.s 33)), (1, 1, (.s 39)), (2, 1, (.s 41)), (3, 1, (.s 42))]),oo 11 (.alloc 50 [(.int .i64 0), (.int .i64 0), (.int .i64 0), (.int .i64 0)]),⟨none, .store 4 (.s 11) (.s 43), none⟩]) [1, 10, 11] (.seq (.seq (
 .region false [oo 44 (.fieldAddr 1 (.s 11)),oo 45 (.load false 1 (.s 44)),oo 46 (.bin .eql false (.s 45) (.c (.int .i64 0))),oo 47 (.mov (.s 46)),⟨some 48, .fieldAddr 1 (.s 11), (some (47, false))⟩,⟨some 49, .load false 1 (.s 48), (some (47, false))⟩,⟨some 50, .mov (.s 10), (some (47, false))⟩,
 ⟨some 51, .bin .eql false (.s 49) (.s 50), (some (47, false))⟩,oo 52 (.pick (.s 47) (.c (.bool true)) (.s 51))]) [1, 11, 52] (.cond (.s 52) (.seq (.region false [oo 8 (.mov (.c (.fsl []))),oo 9 (.mov (.c (.bool false)))]) [8, 9] (.ret)) (.skip))) [1, 11] (.seq (.region true [oo 53 (.mov (.s 1)),
 oo 54 (.append 4 50 32 (.c (.fsl [])) (.s 53)),oo 55 (.load true 4 (.s 11)),oo 56 (.buildSlice 4 50 [(.s 55)]),oo 57 (.append 4 50 32 (.s 54) (.s 56)),oo 8 (.mov (.s 57)),oo 9 (.mov (.c (.bool true)))]) [8, 9] (.ret))))))⟩
def tf45 : TFn := ⟨29, [.tmp 6],.seq (.region false [oo 3 (.box 26 (.s 0)),oo 6 (.mov (.c (.bool false)))]) [1, 2, 3] (.seq (.seq (.region false [oo 7 (.mov (.c (.int .i64 0)))]) [1, 2, 3, 7] (.block 0 (.loop (.seq (.seq (.region false [oo 8 (.mov (.s 7)),oo 9 (.mov (.s 2)),oo 10 (.len (.s 9)),
 oo 11 (.bin .lss false (.s 8) (.s 10))]) [1, 2, 3, 7, 11] (.cond (.s 11) (.skip) (.exit 0))) [1, 2, 3, 7] (.seq (.block 1 (.seq (.region true [oo 14 (.load true 1 (.s 3)),oo 15 (.mov (.s 1)),oo 16 (.mov (.s 2)),oo 17 (.mov (.s 7)),oo 18 (.indexAddr 2 (.s 16) (.s 17)),oo 19 (.fieldAddr 0 (.s 18)),
 oo 20 (.load false 1 (.s 19)),oo 21 (.call 26 [(.s 14), (.s 15), (.s 20)]),oo 22 (.mov (.s 2)),oo 23 (.mov (.s 7)),oo 24 (.indexAddr 2 (.s 22) (.s 23)),oo 25 (.fieldAddr 1 (.s 24)),oo 26 (.load false 1 (.s 25)),oo 27 (.call 29 [(.s 21), (.s 26)]),
 oo 28 (.bin .neq false (.s 27) (.c (.int .i64 2)))]) [1, 2, 3, 7, 28] (.cond (.s 28) (.seq (.region false [oo 6 (.mov (.c (.bool false)))]) [6] (.ret)) (.skip)))) [1, 2, 3, 7] (.region false [oo 12 (.mov (.s 7)),oo 13 (.bin .add false (.s 12) (.c (.int .i64 1))),oo 7 (.mov (.s 13))])))))) [] (
 .seq (.region false [oo 6 (.mov (.c (.bool true)))]) [6] (.ret)))⟩
def tf46 : TFn := ⟨41, [.tmp 6],.seq (.region false [oo 3 (.box 26 (.s 0)),oo 6 (.mov (.c (.int .i64 0)))]) [1, 2, 3] (.seq (.region false [oo 7 (.mov (.c (.int .i64 (-1))))]) [1, 2, 3, 7] (.seq (.seq (.region false [oo 8 (.mov (.c (.int .i64 0)))]) [1, 2, 3, 7, 8] (.block 0 (.loop (.seq (.seq (
 .region false [oo 9 (.mov (.s 8)),oo 10 (.mov (.s 2)),oo 11 (.len (.s 10)),oo 12 (.bin .lss false (.s 9) (.s 11))]) [1, 2, 3, 7, 8, 12] (.cond (.s 12) (.skip) (.exit 0))) [1, 2, 3, 7, 8] (.seq (.block 1 (.seq (.region true [oo 15 (.load true 1 (.s 3)),oo 16 (.mov (.s 1)),oo 17 (.mov (.s 2)),
 oo 18 (.mov (.s 8)),oo 19 (.indexAddr 2 (.s 17) (.s 18)),oo 20 (.fieldAddr 0 (.s 19)),oo 21 (.load false 1 (.s 20)),oo 22 (.call 26 [(.s 15), (.s 16), (.s 21)]),oo 23 (.mov (.s 2)),oo 24 (.mov (.s 8)),oo 25 (.indexAddr 2 (.s 23) (.s 24)),oo 26 (.fieldAddr 1 (.s 25)),oo 27 (.load false 1 (.s 26)),
 oo 28 (.call 29 [(.s 22), (.s 27)])]) [1, 2, 3, 7, 8, 28] (.block 2 (.seq (.region false [oo 30 (.bin .eql false (.s 28) (.c (.int .i64 0))),oo 29 (.mov (.s 30))]) [1, 2, 3, 7, 8, 28, 29] (.cond (.s 29) (.seq (.region false [oo 6 (.mov (.c (.int .i64 (-1))))]) [6] (.ret)) (.seq (
 .region false [oo 32 (.bin .eql false (.s 28) (.c (.int .i64 1))),oo 31 (.mov (.s 32))]) [1, 2, 3, 7, 8, 31] (.cond (.s 31) (.seq (.seq (.region false [oo 33 (.mov (.s 7)),oo 34 (.bin .geq false (.s 33) (.c (.int .i64 0)))]) [1, 2, 3, 8, 34] (.cond (.s 34) (.seq (
 .region false [oo 6 (.mov (.c (.int .i64 (-1))))]) [6] (.ret)) (.skip))) [1, 2, 3, 8] (.region false [oo 35 (.mov (.s 2)),oo 36 (.mov (.s 8)),oo 37 (.indexAddr 2 (.s 35) (.s 36)),oo 38 (.fieldAddr 0 (.s 37)),oo 39 (.load false 1 (.s 38)),oo 7 (.mov (.s 39))])) (.skip)))))))) [1, 2, 3, 7, 8] (
 .region false [oo 13 (.mov (.s 8)),oo 14 (.bin .add false (.s 13) (.c (.int .i64 1))),oo 8 (.mov (.s 14))])))))) [7] (.seq (.region false [oo 40 (.mov (.s 7)),oo 6 (.mov (.s 40))]) [6] (.ret))))⟩
def tf47 : TFn := ⟨85, [.tmp 6],.seq (.region false [oo 3 (.box 26 (.s 0)),oo 5 (.box 50 (.s 2)),oo 6 (.mov (.c (.bool false)))]) [1, 3, 5] (.seq (.seq (.region false [oo 8 (.fieldAddr 0 (.s 5)),oo 9 (.load false 1 (.s 8)),oo 10 (.bin .lss false (.s 9) (.c (.int .i64 0))),oo 11 (.mov (.s 10)),
 ⟨some 12, .fieldAddr 0 (.s 5), (some (11, false))⟩,⟨some 13, .load false 1 (.s 12), (some (11, false))⟩,⟨some 14, .fieldAddr 0 (.s 3), (some (11, false))⟩,⟨some 15, .load false 1 (.s 14), (some (11, false))⟩,⟨some 16, .len (.s 15), (some (11, false))⟩,
 ⟨some 17, .bin .geq false (.s 13) (.s 16), (some (11, false))⟩,oo 18 (.pick (.s 11) (.c (.bool true)) (.s 17)),oo 19 (.mov (.s 18)),⟨some 20, .fieldAddr 3 (.s 5), (some (19, false))⟩,⟨some 21, .load false 1 (.s 20), (some (19, false))⟩,
 ⟨some 22, .bin .lss false (.s 21) (.c (.int .i64 (-1))), (some (19, false))⟩,oo 23 (.pick (.s 19) (.c (.bool true)) (.s 22))]) [1, 3, 5, 23] (.cond (.s 23) (.seq (.region false [oo 6 (.mov (.c (.bool false)))]) [6] (.ret)) (.skip))) [1, 3, 5] (.seq (.region false [oo 24 (.load true 1 (.s 3)),
 oo 25 (.mov (.s 1)),oo 26 (.fieldAddr 0 (.s 5)),oo 27 (.load false 1 (.s 26)),oo 28 (.call 26 [(.s 24), (.s 25), (.s 27)]),oo 7 (.mov (.s 28))]) [1, 5, 7] (.seq (.seq (.region false [oo 29 (.fieldAddr 3 (.s 5)),oo 30 (.load false 1 (.s 29)),
 oo 31 (.bin .eql false (.s 30) (.c (.int .i64 (-1))))]) [1, 5, 7, 31] (.cond (.s 31) (.seq (.region true [oo 32 (.fieldAddr 1 (.s 5)),oo 33 (.load false 1 (.s 32)),oo 34 (.call 68 [(.s 33)]),oo 35 (.bin .geq false (.s 34) (.c (.int .i64 0))),oo 36 (.mov (.s 35)),
 ⟨some 37, .fieldAddr 1 (.s 5), (some (36, true))⟩,⟨some 38, .load false 1 (.s 37), (some (36, true))⟩,⟨some 39, .mov (.s 7), (some (36, true))⟩,⟨some 40, .bin .and false (.s 38) (.s 39), (some (36, true))⟩,⟨some 41, .fieldAddr 1 (.s 5), (some (36, true))⟩,
 ⟨some 42, .load false 1 (.s 41), (some (36, true))⟩,⟨some 43, .bin .eql false (.s 40) (.s 42), (some (36, true))⟩,oo 44 (.pick (.s 36) (.s 43) (.c (.bool false))),oo 45 (.mov (.s 44)),⟨some 46, .mov (.s 1), (some (45, true))⟩,⟨some 47, .fieldAddr 0 (.s 5), (some (45, true))⟩,
 ⟨some 48, .load false 1 (.s 47), (some (45, true))⟩,⟨some 49, .call 69 [(.s 46), (.s 48)], (some (45, true))⟩,⟨some 50, .un .not (.s 49), (some (45, true))⟩,oo 51 (.pick (.s 45) (.s 50) (.c (.bool false))),oo 52 (.mov (.s 51)),⟨some 53, .fieldAddr 2 (.s 5), (some (52, true))⟩,
 ⟨some 54, .load false 1 (.s 53), (some (52, true))⟩,⟨some 55, .mov (.s 1), (some (52, true))⟩,⟨some 56, .call 25 [(.s 55)], (some (52, true))⟩,⟨some 57, .bin .add false (.s 56) (.c (.int .i64 1)), (some (52, true))⟩,⟨some 58, .bin .eql false (.s 54) (.s 57), (some (52, true))⟩,
 oo 59 (.pick (.s 52) (.s 58) (.c (.bool false))),oo 6 (.mov (.s 59))]) [6] (.ret)) (.skip))) [1, 5, 7] (.seq (.region true [oo 60 (.fieldAddr 1 (.s 5)),oo 61 (.load false 1 (.s 60)),oo 62 (.bin .neq false (.s 61) (.c (.int .i64 0))),oo 63 (.mov (.s 62)),
 ⟨some 64, .fieldAddr 1 (.s 5), (some (63, true))⟩,⟨some 65, .load false 1 (.s 64), (some (63, true))⟩,⟨some 66, .mov (.s 7), (some (63, true))⟩,⟨some 67, .bin .and false (.s 65) (.s 66), (some (63, true))⟩,⟨some 68, .fieldAddr 1 (.s 5), (some (63, true))⟩,
 ⟨some 69, .load false 1 (.s 68), (some (63, true))⟩,⟨some 70, .bin .eql false (.s 67) (.s 69), (some (63, true))⟩,oo 71 (.pick (.s 63) (.s 70) (.c (.bool false))),oo 72 (.mov (.s 71)),⟨some 73, .fieldAddr 1 (.s 5), (some (72, true))⟩,⟨some 74, .load false 1 (.s 73), (some (72, true))⟩,
 ⟨some 75, .mov (.s 7), (some (72, true))⟩,⟨some 76, .bin .neq false (.s 74) (.s 75), (some (72, true))⟩,oo 77 (.pick (.s 72) (.s 76) (.c (.bool false))),oo 78 (.mov (.s 77)),⟨some 79, .fieldAddr 2 (.s 5), (some (78, true))⟩,⟨some 80, .load false 1 (.s 79), (some (78, true))⟩,
 ⟨some 81, .mov (.s 1), (some (78, true))⟩,⟨some 82, .call 25 [(.s 81)], (some (78, true))⟩,⟨some 83, .bin .eql false (.s 80) (.s 82), (some (78, true))⟩,oo 84 (.pick (.s 78) (.s 83) (.c (.bool false))),oo 6 (.mov (.s 84))]) [6] (.ret)))))⟩
def tf50 : TFn := ⟨13, [.tmp 2],.seq (.region false [oo 2 (.mov (.c (.int .i64 0)))]) [0] (.seq (.region false [oo 3 (.mov (.c (.int .i64 1)))]) [0, 3] (.seq (.seq (.region false [oo 4 (.mov (.c (.int .i64 0)))]) [0, 3, 4] (.block 0 (.loop (.seq (.seq (.region false [oo 5 (.mov (.s 4)),
 oo 6 (.mov (.s 0)),oo 7 (.bin .lss false (.s 5) (.s 6))]) [0, 3, 4, 7] (.cond (.s 7) (.skip) (.exit 0))) [0, 3, 4] (.seq (.block 1 (.region false [oo 10 (.mov (.s 3)),oo 11 (.bin .mul false (.s 10) (.c (.int .i64 2))),oo 3 (.mov (.s 11))])) [0, 3, 4] (.region false [oo 8 (.mov (.s 4)),
 oo 9 (.bin .add false (.s 8) (.c (.int .i64 1))),oo 4 (.mov (.s 9))])))))) [3] (.seq (.region false [oo 12 (.mov (.s 3)),oo 2 (.mov (.s 12))]) [2] (.ret))))⟩
def tf51 : TFn := ⟨98, [.tmp 2],.seq (.region false [oo 1 (.box 26 (.s 0)),oo 2 (.mov (.c (.fsl [])))]) [1] (.seq (.region false [oo 13 (.build [(.int .i64 0), (.int .i64 0)] [(0, 1, (.c (.int .i64 0))), (1, 1, (.c (.int .i64 1)))]),oo 14 (.buildSlice 2 56 [(.s 13)]),
 oo 15 (.build [(.int .i64 0), (.int .i64 0), (.int .i64 0), (.int .i64 0), (.fsl [])] [(0, 1, (.c (.int .i64 1))), (4, 1, (.s 14))]),oo 16 (.buildSlice 5 95 [(.s 15)]),oo 3 (.mov (.s 16))]) [1, 3] (.seq (.seq (.region false [oo 4 (.mov (.c (.int .i64 0)))]) [1, 3, 4] (.block 0 (.loop (.seq (.seq (
 .region false [oo 17 (.mov (.s 4)),oo 18 (.fieldAddr 0 (.s 1)),oo 19 (.load false 1 (.s 18)),oo 20 (.len (.s 19)),oo 21 (.bin .lss false (.s 17) (.s 20))]) [1, 3, 4, 21] (.cond (.s 21) (.skip) (.exit 0))) [1, 3, 4] (.seq (.block 1 (.seq (
 .region false [oo 5 (.mov (.c (.int .i64 0)))]) [1, 3, 4, 5] (.block 2 (.loop (.seq (.seq (.region false [oo 24 (.mov (.s 5)),oo 25 (.fieldAddr 0 (.s 1)),oo 26 (.load false 1 (.s 25)),oo 27 (.mov (.s 4)),oo 28 (.indexAddr 3 (.s 26) (.s 27)),oo 29 (.fieldAddr 2 (.s 28)),
 oo 30 (.load false 1 (.s 29)),oo 31 (.len (.s 30)),oo 32 (.bin .lss false (.s 24) (.s 31))]) [1, 3, 4, 5, 32] (.cond (.s 32) (.skip) (.exit 2))) [1, 3, 4, 5] (.seq (.block 3 (.seq (.region false [oo 35 (.fieldAddr 0 (.s 1)),oo 36 (.load false 1 (.s 35)),oo 37 (.mov (.s 4)),
 oo 38 (.indexAddr 3 (.s 36) (.s 37)),oo 39 (.fieldAddr 2 (.s 38)),oo 40 (.load false 1 (.s 39)),oo 41 (.mov (.s 5)),oo 42 (.indexAddr 8 (.s 40) (.s 41)),oo 43 (.load true 8 (.s 42)),
 oo 6 (.alloc 70 [(.int .i64 0), (.int .i64 0), (.int .i64 0), (.str []), (.str []), (.int .i64 0), (.fsl []), (.fsl [])]),⟨none, .store 8 (.s 6) (.s 43), none⟩]) [1, 3, 4, 5, 6] (.seq (.seq (.region false [oo 7 (.mov (.c (.int .i64 0)))]) [1, 3, 4, 5, 6, 7] (.block 4 (.loop (.seq (.seq (
 .region false [oo 44 (.mov (.s 7)),oo 45 (.fieldAddr 6 (.s 6)),oo 46 (.load false 1 (.s 45)),oo 47 (.len (.s 46)),oo 48 (.bin .lss false (.s 44) (.s 47))]) [1, 3, 4, 5, 6, 7, 48] (.cond (.s 48) (.skip) (.exit 4))) [1, 3, 4, 5, 6, 7] (.seq (.block 5 (.seq (.region true [oo 52 (.load true 1 (.s 1)),
 oo 53 (.mov (.s 4)),oo 54 (.mov (.s 5)),oo 55 (.fieldAddr 6 (.s 6)),oo 56 (.load false 1 (.s 55)),oo 57 (.mov (.s 7)),oo 58 (.indexAddr 1 (.s 56) (.s 57)),oo 59 (.load false 1 (.s 58)),oo 60 (.call 71 [(.s 52), (.s 53), (.s 54), (.s 59), (.c (.bool false))]),oo 51 (.mov (.s 60)),
 oo 61 (.extract 0 (.s 51)),oo 62 (.extract 1 (.s 51)),oo 8 (.mov (.s 61)),oo 9 (.mov (.s 62))]) [1, 3, 4, 5, 6, 7, 8, 9] (.seq (.region false [oo 63 (.mov (.s 9))]) [1, 3, 4, 5, 6, 7, 8, 63] (.cond (.s 63) (.region false [oo 64 (.load true 1 (.s 1)),oo 65 (.mov (.s 3)),oo 66 (.mov (.s 4)),
 oo 67 (.mov (.s 8)),oo 68 (.build [(.int .i64 0), (.int .i64 0), (.int .i64 0), (.int .i64 0), (.fsl [])] [(0, 1, (.c (.int .i64 2))), (1, 1, (.s 66)), (4, 1, (.s 67))]),oo 69 (.call 72 [(.s 64), (.s 65), (.s 68)]),oo 3 (.mov (.s 69))]) (.skip))))) [1, 3, 4, 5, 6, 7] (
 .region false [oo 49 (.mov (.s 7)),oo 50 (.bin .add false (.s 49) (.c (.int .i64 1))),oo 7 (.mov (.s 50))])))))) [1, 3, 4, 5, 6] (.seq (.region false [oo 10 (.mov (.c (.int .i64 0)))]) [1, 3, 4, 5, 6, 10] (.block 6 (.loop (.seq (.seq (.region false [oo 70 (.mov (.s 10)),
 oo 71 (.fieldAddr 7 (.s 6)),oo 72 (.load false 1 (.s 71)),oo 73 (.len (.s 72)),oo 74 (.bin .lss false (.s 70) (.s 73))]) [1, 3, 4, 5, 6, 10, 74] (.cond (.s 74) (.skip) (.exit 6))) [1, 3, 4, 5, 6, 10] (.seq (.block 7 (.seq (.region true [oo 78 (.load true 1 (.s 1)),oo 79 (.mov (.s 4)),
 oo 80 (.mov (.s 5)),oo 81 (.fieldAddr 7 (.s 6)),oo 82 (.load false 1 (.s 81)),oo 83 (.mov (.s 10)),oo 84 (.mov (.s 10)),oo 85 (.bin .add false (.s 84) (.c (.int .i64 1))),oo 86 (.slice 3 (.s 82) (some (.s 83)) (some (.s 85)) none),
 oo 87 (.call 71 [(.s 78), (.s 79), (.s 80), (.s 86), (.c (.bool true))]),oo 77 (.mov (.s 87)),oo 88 (.extract 0 (.s 77)),oo 89 (.extract 1 (.s 77)),oo 11 (.mov (.s 88)),oo 12 (.mov (.s 89))]) [1, 3, 4, 5, 6, 10, 11, 12] (.seq (.region false [oo 90 (.mov (.s 12))]) [1, 3, 4, 5, 6, 10, 11, 90] (
 .cond (.s 90) (.region false [oo 91 (.load true 1 (.s 1)),oo 92 (.mov (.s 3)),oo 93 (.mov (.s 4)),oo 94 (.mov (.s 11)),oo 95 (.build [(.int .i64 0), (.int .i64 0), (.int .i64 0), (.int .i64 0), (.fsl [])] [(0, 1, (.c (.int .i64 3))), (1, 1, (.s 93)), (4, 1, (.s 94))]),
 oo 96 (.call 72 [(.s 91), (.s 92), (.s 95)]),oo 3 (.mov (.s 96))]) (.skip))))) [1, 3, 4, 5, 6, 10] (.region false [oo 75 (.mov (.s 10)),oo 76 (.bin .add false (.s 75) (.c (.int .i64 1))),oo 10 (.mov (.s 76))]))))))))) [1, 3, 4, 5] (.region false [oo 33 (.mov (.s 5)),
 oo 34 (.bin .add false (.s 33) (.c (.int .i64 1))),oo 5 (.mov (.s 34))]))))))) [1, 3, 4] (.region false [oo 22 (.mov (.s 4)),oo 23 (.bin .add false (.s 22) (.c (.int .i64 1))),oo 4 (.mov (.s 23))])))))) [3] (.seq (.region false [oo 97 (.mov (.s 3)),oo 2 (.mov (.s 97))]) [2] (.ret))))⟩
def tf52 : TFn := ⟨58, [.tmp 4, .tmp 5],.seq (.region false [oo 2 (.box 26 (.s 0)),oo 4 (.mov (.c (.fsl []))),oo 5 (.mov (.c (.bool false)))]) [1, 2] (.seq (.region false [oo 8 (.load true 1 (.s 2)),oo 9 (.call 73 [(.s 8)]),oo 6 (.mov (.s 9))]) [1, 2, 6] (.seq (.seq (
 .region false [oo 7 (.mov (.c (.int .i64 0)))]) [1, 2, 6, 7] (.block 0 (.loop (.seq (.seq (.region false [oo 10 (.mov (.s 7)),oo 11 (.mov (.s 1)),oo 12 (.len (.s 11)),oo 13 (.bin .lss false (.s 10) (.s 12))]) [1, 2, 6, 7, 13] (.cond (.s 13) (.skip) (.exit 0))) [1, 2, 6, 7] (.seq (.block 1 (.seq (
 .seq (.region false [oo 16 (.mov (.s 1)),oo 17 (.mov (.s 7)),oo 18 (.indexAddr 2 (.s 16) (.s 17)),oo 19 (.fieldAddr 0 (.s 18)),oo 20 (.load false 1 (.s 19)),oo 21 (.bin .lss false (.s 20) (.c (.int .i64 0))),oo 22 (.mov (.s 21)),⟨some 23, .mov (.s 1), (some (22, false))⟩,
 ⟨some 24, .mov (.s 7), (some (22, false))⟩,⟨some 25, .indexAddr 2 (.s 23) (.s 24), (some (22, false))⟩,⟨some 26, .fieldAddr 0 (.s 25), (some (22, false))⟩,⟨some 27, .load false 1 (.s 26), (some (22, false))⟩,⟨some 28, .mov (.s 6), (some (22, false))⟩,⟨some 29, .len (.s 28), (some (22, false))⟩,
 ⟨some 30, .bin .geq false (.s 27) (.s 29), (some (22, false))⟩,oo 31 (.pick (.s 22) (.c (.bool true)) (.s 30))]) [1, 2, 6, 7, 31] (.cond (.s 31) (.seq (.region false [oo 4 (.mov (.c (.fsl []))),oo 5 (.mov (.c (.bool false)))]) [4, 5] (.ret)) (.skip))) [1, 2, 6, 7] (
 .region true [oo 32 (.mov (.s 6)),oo 33 (.mov (.s 1)),oo 34 (.mov (.s 7)),oo 35 (.indexAddr 2 (.s 33) (.s 34)),oo 36 (.fieldAddr 0 (.s 35)),oo 37 (.load false 1 (.s 36)),oo 38 (.mov (.s 6)),oo 39 (.mov (.s 1)),oo 40 (.mov (.s 7)),oo 41 (.indexAddr 2 (.s 39) (.s 40)),oo 42 (.fieldAddr 0 (.s 41)),
 oo 43 (.load false 1 (.s 42)),oo 44 (.indexAddr 1 (.s 38) (.s 43)),oo 45 (.load false 1 (.s 44)),oo 46 (.mov (.s 1)),oo 47 (.mov (.s 7)),oo 48 (.indexAddr 2 (.s 46) (.s 47)),oo 49 (.fieldAddr 1 (.s 48)),oo 50 (.load false 1 (.s 49)),oo 51 (.bin .and false (.s 45) (.s 50)),
 oo 52 (.indexAddr 1 (.s 32) (.s 37)),⟨none, .store 1 (.s 52) (.s 51), none⟩]))) [1, 2, 6, 7] (.region false [oo 14 (.mov (.s 7)),oo 15 (.bin .add false (.s 14) (.c (.int .i64 1))),oo 7 (.mov (.s 15))])))))) [2, 6] (.seq (.region false [oo 53 (.load true 1 (.s 2)),oo 54 (.mov (.s 6)),
 oo 55 (.call 74 [(.s 53), (.s 54)]),oo 56 (.extract 0 (.s 55)),oo 57 (.extract 1 (.s 55)),oo 4 (.mov (.s 56)),oo 5 (.mov (.s 57))]) [4, 5] (.ret))))⟩
def tf53 : TFn := ⟨6, [.tmp 0],.seq (.region false [oo 0 (.mov (.c (.fsl [])))]) [] (.seq (.region false [oo 1 (.build [(.int .i64 0), (.int .i64 0), (.int .i64 0), (.str []), (.str [])] [(0, 1, (.c (.int .i64 1)))]),
 oo 2 (.build [(.int .i64 0), (.int .i64 0), (.int .i64 0), (.str []), (.str [])] [(0, 1, (.c (.int .i64 1))), (1, 1, (.c (.int .i64 2)))]),oo 3 (.build [(.int .i64 0), (.int .i64 0), (.int .i64 0), (.str []), (.str [])] [(0, 1, (.c (.int .i64 2))), (3, 1, (.c (.str [97, 46, 49])))]),
 oo 4 (.build [(.int .i64 0), (.int .i64 0), (.int .i64 0), (.str []), (.str [])] [(0, 1, (.c (.int .i64 2)))]),oo 5 (.buildSlice 5 67 [(.s 1), (.s 2), (.s 3), (.s 4)]),oo 0 (.mov (.s 5))]) [0] (.ret))⟩
def tf54 : TFn := ⟨4, [.cell 0 true 2],.seq (.region false [oo 0 (.alloc 74 [(.fsl []), (.fsl [])])]) [0] (.seq (.region false [oo 1 (.call 75 []),oo 2 (.call 75 []),oo 3 (.build [(.fsl []), (.fsl [])] [(0, 1, (.s 1)), (1, 1, (.s 2))]),⟨none, .store 2 (.s 0) (.s 3), none⟩]) [0] (.ret))⟩
def tf55 : TFn := ⟨26, [.tmp 2],.seq (.region false [oo 1 (.box 67 (.s 0)),oo 2 (.mov (.c (.bool false)))]) [1] (.seq (.region false [oo 3 (.fieldAddr 0 (.s 1)),oo 4 (.load false 1 (.s 3)),oo 5 (.call 76 [(.s 4)]),oo 6 (.mov (.s 5)),⟨some 7, .fieldAddr 1 (.s 1), (some (6, true))⟩,
 ⟨some 8, .load false 1 (.s 7), (some (6, true))⟩,⟨some 9, .call 76 [(.s 8)], (some (6, true))⟩,oo 10 (.pick (.s 6) (.s 9) (.c (.bool false))),oo 11 (.mov (.s 10)),⟨some 12, .fieldAddr 2 (.s 1), (some (11, true))⟩,⟨some 13, .load false 1 (.s 12), (some (11, true))⟩,
 ⟨some 14, .call 76 [(.s 13)], (some (11, true))⟩,oo 15 (.pick (.s 11) (.s 14) (.c (.bool false))),oo 16 (.mov (.s 15)),⟨some 17, .fieldAddr 3 (.s 1), (some (16, true))⟩,⟨some 18, .load false 1 (.s 17), (some (16, true))⟩,⟨some 19, .call 77 [(.s 18), (.c (.bool true))], (some (16, true))⟩,
 oo 20 (.pick (.s 16) (.s 19) (.c (.bool false))),oo 21 (.mov (.s 20)),⟨some 22, .fieldAddr 4 (.s 1), (some (21, true))⟩,⟨some 23, .load false 1 (.s 22), (some (21, true))⟩,⟨some 24, .call 77 [(.s 23), (.c (.bool false))], (some (21, true))⟩,oo 25 (.pick (.s 21) (.s 24) (.c (.bool false))),
 oo 2 (.mov (.s 25))]) [2] (.ret))⟩
def tf56 : TFn := ⟨2, [.cell 0 true 2],.seq (.region false [oo 0 (.alloc 74 [(.fsl []), (.fsl [])])]) [0] (.seq (.region false [oo 1 (.build [(.fsl []), (.fsl [])] []),⟨none, .store 2 (.s 0) (.s 1), none⟩]) [0] (.ret))⟩
def tf57 : TFn := ⟨6, [.cell 2 true 7],.seq (.region false [oo 1 (.box 67 (.s 0)),oo 2 (.alloc 105 [(.int .i64 0), (.int .i64 0), (.int .i64 0), (.int .i64 0), (.str []), (.str []), (.bool false)])]) [1, 2] (.seq (.region false [oo 3 (.load true 5 (.s 1)),oo 4 (.call 78 [(.s 3)]),
 oo 5 (.build [(.int .i64 0), (.int .i64 0), (.int .i64 0), (.int .i64 0), (.str []), (.str []), (.bool false)] [(1, 5, (.s 4))]),⟨none, .store 7 (.s 2) (.s 5), none⟩]) [2] (.ret))⟩
def tf58 : TFn := ⟨6, [.cell 2 true 7],.seq (.region false [oo 1 (.box 67 (.s 0)),oo 2 (.alloc 105 [(.int .i64 0), (.int .i64 0), (.int .i64 0), (.int .i64 0), (.str []), (.str []), (.bool false)])]) [1, 2] (.seq (.region false [oo 3 (.load true 5 (.s 1)),oo 4 (.call 78 [(.s 3)]),
 oo 5 (.build [(.int .i64 0), (.int .i64 0), (.int .i64 0), (.int .i64 0), (.str []), (.str []), (.bool false)] [(1, 5, (.s 4)), (6, 1, (.c (.bool true)))]),⟨none, .store 7 (.s 2) (.s 5), none⟩]) [2] (.ret))⟩
def tf59 : TFn := ⟨14, [.cell 2 true 7],.seq (.region false [oo 1 (.box 67 (.s 0)),oo 2 (.alloc 105 [(.int .i64 0), (.int .i64 0), (.int .i64 0), (.int .i64 0), (.str []), (.str []), (.bool false)])]) [1, 2] (.seq (.seq (.region false [oo 3 (.load true 5 (.s 1)),
 oo 4 (.call 79 [(.s 3)])]) [1, 2, 4] (.cond (.s 4) (.seq (.region false [oo 5 (.call 80 []),⟨none, .store 7 (.s 2) (.s 5), none⟩]) [2] (.ret)) (.skip))) [1, 2] (.seq (.region false [oo 6 (.fieldAddr 0 (.s 1)),oo 7 (.load false 1 (.s 6)),oo 8 (.fieldAddr 1 (.s 1)),oo 9 (.load false 1 (.s 8)),
 oo 10 (.fieldAddr 2 (.s 1)),oo 11 (.load false 1 (.s 10)),oo 12 (.build [(.int .i64 0), (.int .i64 0), (.int .i64 0), (.str []), (.str [])] [(0, 1, (.s 7)), (1, 1, (.s 9)), (2, 1, (.s 11))]),oo 13 (.call 57 [(.s 12)]),⟨none, .store 7 (.s 2) (.s 13), none⟩]) [2] (.ret)))⟩
def tf60 : TFn := ⟨21, [.cell 2 true 7],.seq (.region false [oo 1 (.box 67 (.s 0)),oo 2 (.alloc 105 [(.int .i64 0), (.int .i64 0), (.int .i64 0), (.int .i64 0), (.str []), (.str []), (.bool false)])]) [1, 2] (.seq (.region false [oo 6 (.fieldAddr 0 (.s 1)),oo 7 (.load false 1 (.s 6)),
 oo 8 (.fieldAddr 1 (.s 1)),oo 9 (.load false 1 (.s 8)),oo 10 (.fieldAddr 2 (.s 1)),oo 11 (.load false 1 (.s 10)),oo 12 (.build [(.int .i64 0), (.int .i64 0), (.int .i64 0), (.str []), (.str [])] [(0, 1, (.s 7)), (1, 1, (.s 9)), (2, 1, (.s 11))]),oo 13 (.call 81 [(.s 12)]),oo 5 (.mov (.s 13)),
 oo 14 (.extract 0 (.s 5)),oo 15 (.extract 1 (.s 5)),oo 3 (.alloc 67 [(.int .i64 0), (.int .i64 0), (.int .i64 0), (.str []), (.str [])]),⟨none, .store 5 (.s 3) (.s 14), none⟩,oo 4 (.mov (.s 15))]) [2, 3, 4] (.seq (.seq (.region false [oo 16 (.mov (.s 4)),oo 17 (.un .not (.s 16))]) [2, 3, 17] (
 .cond (.s 17) (.seq (.region false [oo 18 (.call 82 []),⟨none, .store 7 (.s 2) (.s 18), none⟩]) [2] (.ret)) (.skip))) [2, 3] (.seq (.region false [oo 19 (.load true 5 (.s 3)),oo 20 (.call 57 [(.s 19)]),⟨none, .store 7 (.s 2) (.s 20), none⟩]) [2] (.ret))))⟩
def tf61 : TFn := ⟨19, [.tmp 4],.seq (.region false [oo 4 (.mov (.c (.int .i64 0)))]) [0, 1] (.seq (.seq (.region false [oo 5 (.mov (.s 1)),oo 6 (.bin .lss false (.s 5) (.c (.int .i64 0))),oo 7 (.mov (.s 6)),⟨some 8, .mov (.s 1), (some (7, false))⟩,⟨some 9, .mov (.s 0), (some (7, false))⟩,
 ⟨some 10, .len (.s 9), (some (7, false))⟩,⟨some 11, .bin .geq false (.s 8) (.s 10), (some (7, false))⟩,oo 12 (.pick (.s 7) (.c (.bool true)) (.s 11))]) [0, 1, 12] (.cond (.s 12) (.seq (.region false [oo 13 (.mov (.s 1)),oo 14 (.bin .rem false (.s 13) (.c (.int .i64 3))),oo 4 (.mov (.s 14))]) [4] (
 .ret)) (.skip))) [0, 1] (.seq (.region false [oo 15 (.mov (.s 0)),oo 16 (.mov (.s 1)),oo 17 (.indexAddr 1 (.s 15) (.s 16)),oo 18 (.load false 1 (.s 17)),oo 4 (.mov (.s 18))]) [4] (.ret)))⟩
def tf62 : TFn := ⟨41, [.cell 4 true 2],.seq (.region false [oo 4 (.alloc 74 [(.fsl []), (.fsl [])])]) [0, 1, 4] (.seq (.region false [oo 8 (.mov (.s 0)),oo 9 (.call 36 [(.s 8), (.c (.int .i64 8))]),oo 5 (.mov (.s 9))]) [0, 1, 4, 5] (.seq (.region false [oo 10 (.call 56 []),
 oo 6 (.alloc 74 [(.fsl []), (.fsl [])]),⟨none, .store 2 (.s 6) (.s 10), none⟩]) [0, 1, 4, 5, 6] (.seq (.seq (.region false [oo 7 (.mov (.c (.int .i64 0)))]) [0, 1, 4, 5, 6, 7] (.block 0 (.loop (.seq (.seq (.region false [oo 11 (.mov (.s 7)),oo 12 (.mov (.s 1)),oo 13 (.len (.s 12)),
 oo 14 (.bin .lss false (.s 11) (.s 13))]) [0, 1, 4, 5, 6, 7, 14] (.cond (.s 14) (.skip) (.exit 0))) [0, 1, 4, 5, 6, 7] (.seq (.block 1 (.seq (.region false [oo 17 (.mov (.s 5)),oo 18 (.mov (.s 7)),oo 19 (.conv .u64 (.s 18)),oo 20 (.bin .shr false (.s 17) (.s 19)),
 oo 21 (.bin .and false (.s 20) (.c (.int .i64 1))),oo 22 (.bin .eql false (.s 21) (.c (.int .i64 1)))]) [0, 1, 4, 5, 6, 7, 22] (.cond (.s 22) (.region true [oo 23 (.load true 2 (.s 6)),oo 24 (.mov (.s 1)),oo 25 (.mov (.s 7)),oo 26 (.indexAddr 8 (.s 24) (.s 25)),oo 27 (.fieldAddr 0 (.s 26)),
 oo 28 (.load true 5 (.s 27)),oo 29 (.call 35 [(.s 28)]),oo 30 (.call 83 [(.s 23), (.s 29)]),⟨none, .store 2 (.s 6) (.s 30), none⟩]) (.skip)))) [0, 1, 4, 5, 6, 7] (.region false [oo 15 (.mov (.s 7)),oo 16 (.bin .add false (.s 15) (.c (.int .i64 1))),oo 7 (.mov (.s 16))])))))) [0, 4, 6] (.seq (
 .seq (.region false [oo 31 (.mov (.s 0)),oo 32 (.call 36 [(.s 31), (.c (.int .i64 6))])]) [4, 6, 32] (.block 2 (.seq (.region false [oo 34 (.bin .eql false (.s 32) (.c (.int .i64 0))),oo 33 (.mov (.s 34))]) [4, 6, 32, 33] (.cond (.s 33) (.seq (.region false [oo 35 (.call 54 []),
 ⟨none, .store 2 (.s 4) (.s 35), none⟩]) [4] (.ret)) (.seq (.region false [oo 37 (.bin .eql false (.s 32) (.c (.int .i64 1))),oo 36 (.mov (.s 37))]) [4, 6, 36] (.cond (.s 36) (.seq (.region false [oo 38 (.load true 2 (.s 6)),oo 39 (.call 84 [(.s 38)]),⟨none, .store 2 (.s 4) (.s 39), none⟩]) [4] (
 .ret)) (.skip))))))) [4, 6] (.seq (.region false [oo 40 (.load true 2 (.s 6)),⟨none, .store 2 (.s 4) (.s 40), none⟩]) [4] (.ret))))))⟩
def tf63 : TFn := ⟨18, [.tmp 4],.seq (.region false [oo 2 (.box 26 (.s 0)),oo 4 (.mov (.c (.int .i64 0)))]) [1, 2] (.seq (.seq (.region false [oo 5 (.load true 1 (.s 2)),oo 6 (.mov (.s 1)),oo 7 (.call 85 [(.s 5), (.s 6)]),oo 8 (.un .not (.s 7))]) [1, 2, 8] (.cond (.s 8) (.seq (
 .region false [oo 4 (.mov (.c (.int .i64 0)))]) [4] (.ret)) (.skip))) [1, 2] (.seq (.region false [oo 9 (.fieldAddr 0 (.s 2)),oo 10 (.load false 1 (.s 9)),oo 11 (.mov (.s 1)),oo 12 (.indexAddr 3 (.s 10) (.s 11)),oo 13 (.fieldAddr 2 (.s 12)),oo 14 (.load false 1 (.s 13)),oo 15 (.len (.s 14)),
 oo 16 (.call 86 [(.s 15)]),oo 17 (.bin .sub false (.s 16) (.c (.int .i64 1))),oo 4 (.mov (.s 17))]) [4] (.ret)))⟩
def tf64 : TFn := ⟨54, [.tmp 4, .tmp 5],.seq (.region false [oo 4 (.mov (.c (.int .i64 0))),oo 5 (.mov (.c (.bool false)))]) [0, 1] (.seq (.region false [oo 6 (.mov (.c (.int .i64 (-1))))]) [0, 1, 6] (.seq (.seq (.region false [oo 11 (.mov (.s 1)),oo 12 (.len (.s 11)),
 oo 13 (.mov (.c (.int .i64 0)))]) [0, 6, 11, 12, 13] (.block 0 (.loop (.seq (.region false [oo 14 (.bin .lss false (.s 13) (.s 12))]) [0, 6, 11, 12, 13, 14] (.seq (.cond (.s 14) (.skip) (.exit 0)) [0, 6, 11, 12, 13] (.seq (.block 1 (.seq (.region false [oo 15 (.indexAddr 2 (.s 11) (.s 13)),
 oo 16 (.load true 2 (.s 15)),oo 8 (.alloc 56 [(.int .i64 0), (.int .i64 0)]),⟨none, .store 2 (.s 8) (.s 16), none⟩]) [0, 6, 8, 11, 12, 13] (.seq (.region false [oo 9 (.mov (.c (.int .i64 0)))]) [0, 6, 8, 9, 11, 12, 13] (.seq (.seq (.region false [oo 17 (.fieldAddr 0 (.s 8)),
 oo 18 (.load false 1 (.s 17)),oo 19 (.bin .geq false (.s 18) (.c (.int .i64 0))),oo 20 (.mov (.s 19)),⟨some 21, .fieldAddr 0 (.s 8), (some (20, true))⟩,⟨some 22, .load false 1 (.s 21), (some (20, true))⟩,⟨some 23, .mov (.s 0), (some (20, true))⟩,⟨some 24, .len (.s 23), (some (20, true))⟩,
 ⟨some 25, .bin .lss false (.s 22) (.s 24), (some (20, true))⟩,oo 26 (.pick (.s 20) (.s 25) (.c (.bool false)))]) [0, 6, 8, 9, 11, 12, 13, 26] (.cond (.s 26) (.region false [oo 27 (.mov (.s 0)),oo 28 (.fieldAddr 0 (.s 8)),oo 29 (.load false 1 (.s 28)),oo 30 (.indexAddr 1 (.s 27) (.s 29)),
 oo 31 (.load false 1 (.s 30)),oo 9 (.mov (.s 31))]) (.skip))) [0, 6, 8, 9, 11, 12, 13] (.seq (.region false [oo 32 (.mov (.s 9)),oo 33 (.fieldAddr 1 (.s 8)),oo 34 (.load false 1 (.s 33)),oo 35 (.call 87 [(.s 32), (.s 34)]),oo 10 (.mov (.s 35))]) [0, 6, 8, 10, 11, 12, 13] (.block 2 (.seq (
 .region false [oo 37 (.mov (.s 10)),oo 38 (.bin .eql false (.s 37) (.c (.int .i64 0))),oo 39 (.mov (.s 38)),⟨some 40, .mov (.s 10), (some (39, false))⟩,⟨some 41, .bin .eql false (.s 40) (.c (.int .i64 1)), (some (39, false))⟩,⟨some 42, .mov (.s 41), (some (39, false))⟩,
 ⟨some 43, .mov (.s 6), (some (42, true))⟩,⟨some 44, .bin .geq false (.s 43) (.c (.int .i64 0)), (some (42, true))⟩,⟨some 45, .pick (.s 42) (.s 44) (.c (.bool false)), (some (39, false))⟩,oo 46 (.pick (.s 39) (.c (.bool true)) (.s 45)),oo 36 (.mov (.s 46))]) [0, 6, 8, 10, 11, 12, 13, 36] (
 .cond (.s 36) (.seq (.region false [oo 4 (.mov (.c (.int .i64 0))),oo 5 (.mov (.c (.bool false)))]) [4, 5] (.ret)) (.seq (.region false [oo 48 (.mov (.s 10)),oo 49 (.bin .eql false (.s 48) (.c (.int .i64 1))),oo 47 (.mov (.s 49))]) [0, 6, 8, 11, 12, 13, 47] (.cond (.s 47) (
 .region false [oo 50 (.fieldAddr 0 (.s 8)),oo 51 (.load false 1 (.s 50)),oo 6 (.mov (.s 51))]) (.skip))))))))))) [0, 6, 11, 12, 13] (.region false [oo 52 (.bin .add false (.s 13) (.c (.int .i64 1))),oo 13 (.mov (.s 52))]))))))) [6] (.seq (.region false [oo 53 (.mov (.s 6)),oo 4 (.mov (.s 53)),
 oo 5 (.mov (.c (.bool true)))]) [4, 5] (.ret))))⟩
def tf65 : TFn := ⟨15, [.tmp 6],.seq (.region false [oo 3 (.box 26 (.s 0)),oo 6 (.mov (.c (.int .i64 0)))]) [1, 2, 3] (.seq (.seq (.region false [oo 7 (.load true 1 (.s 3)),oo 8 (.mov (.s 2)),oo 9 (.call 63 [(.s 7), (.s 8)]),oo 10 (.bin .eql false (.s 9) (.c (.int .i64 0)))]) [1, 2, 3, 10] (
 .cond (.s 10) (.seq (.region false [oo 6 (.mov (.c (.int .i64 0)))]) [6] (.ret)) (.skip))) [1, 2, 3] (.seq (.region false [oo 11 (.load true 1 (.s 3)),oo 12 (.mov (.s 1)),oo 13 (.mov (.s 2)),oo 14 (.call 88 [(.s 11), (.s 12), (.s 13)]),oo 6 (.mov (.s 14))]) [6] (.ret)))⟩
def tf66 : TFn := ⟨14, [.tmp 4],.seq (.region false [oo 3 (.box 50 (.s 1)),oo 4 (.mov (.c (.fsl [])))]) [0, 3] (.seq (.region true [oo 5 (.mov (.s 0)),oo 6 (.mov (.s 0)),oo 7 (.len (.s 6)),oo 8 (.mov (.s 0)),oo 9 (.len (.s 8)),oo 10 (.slice 4 (.s 5) none (some (.s 7)) (some (.s 9))),
 oo 11 (.load true 4 (.s 3)),oo 12 (.buildSlice 4 50 [(.s 11)]),oo 13 (.append 4 50 32 (.s 10) (.s 12)),oo 4 (.mov (.s 13))]) [4] (.ret))⟩
def tf67 : TFn := ⟨13, [.tmp 2],.seq (.region false [oo 2 (.mov (.c (.int .i64 0)))]) [0] (.seq (.seq (.region false [oo 3 (.mov (.s 0)),oo 4 (.len (.s 3)),oo 5 (.bin .eql false (.s 4) (.c (.int .i64 0)))]) [0, 5] (.cond (.s 5) (.seq (.region false [oo 2 (.mov (.c (.int .i64 0)))]) [2] (.ret)) (
 .skip))) [0] (.seq (.region false [oo 6 (.mov (.s 0)),oo 7 (.mov (.s 0)),oo 8 (.len (.s 7)),oo 9 (.bin .sub false (.s 8) (.c (.int .i64 1))),oo 10 (.indexAddr 4 (.s 6) (.s 9)),oo 11 (.fieldAddr 2 (.s 10)),oo 12 (.load false 1 (.s 11)),oo 2 (.mov (.s 12))]) [2] (.ret)))⟩
def tf68 : TFn := ⟨12, [.tmp 2],.seq (.region false [oo 2 (.mov (.c (.int .i64 0)))]) [0] (.seq (.region false [oo 4 (.mov (.s 0)),oo 5 (.call 39 [(.s 4)]),oo 3 (.mov (.s 5))]) [3] (.seq (.seq (.region false [oo 6 (.mov (.s 3)),oo 7 (.len (.s 6)),
 oo 8 (.bin .neq false (.s 7) (.c (.int .i64 1)))]) [3, 8] (.cond (.s 8) (.seq (.region false [oo 2 (.mov (.c (.int .i64 (-1))))]) [2] (.ret)) (.skip))) [3] (.seq (.region false [oo 9 (.mov (.s 3)),oo 10 (.indexAddr 1 (.s 9) (.c (.int .i64 0))),oo 11 (.load false 1 (.s 10)),
 oo 2 (.mov (.s 11))]) [2] (.ret))))⟩
def tf69 : TFn := ⟨27, [.tmp 4],.seq (.region false [oo 4 (.mov (.c (.bool false)))]) [0, 1] (.seq (.seq (.region false [oo 5 (.mov (.c (.int .i64 0)))]) [0, 1, 5] (.block 0 (.loop (.seq (.seq (.region false [oo 6 (.mov (.s 5)),oo 7 (.mov (.s 0)),oo 8 (.len (.s 7)),
 oo 9 (.bin .lss false (.s 6) (.s 8))]) [0, 1, 5, 9] (.cond (.s 9) (.skip) (.exit 0))) [0, 1, 5] (.seq (.block 1 (.seq (.region false [oo 12 (.mov (.s 0)),oo 13 (.mov (.s 5)),oo 14 (.indexAddr 4 (.s 12) (.s 13)),oo 15 (.fieldAddr 0 (.s 14)),oo 16 (.load false 1 (.s 15)),oo 17 (.mov (.s 1)),
 oo 18 (.bin .eql false (.s 16) (.s 17)),oo 19 (.mov (.s 18)),⟨some 20, .mov (.s 0), (some (19, true))⟩,⟨some 21, .mov (.s 5), (some (19, true))⟩,⟨some 22, .indexAddr 4 (.s 20) (.s 21), (some (19, true))⟩,⟨some 23, .fieldAddr 3 (.s 22), (some (19, true))⟩,
 ⟨some 24, .load false 1 (.s 23), (some (19, true))⟩,⟨some 25, .bin .eql false (.s 24) (.c (.int .i64 (-1))), (some (19, true))⟩,oo 26 (.pick (.s 19) (.s 25) (.c (.bool false)))]) [0, 1, 5, 26] (.cond (.s 26) (.seq (.region false [oo 4 (.mov (.c (.bool true)))]) [4] (.ret)) (.skip)))) [0, 1, 5] (
 .region false [oo 10 (.mov (.s 5)),oo 11 (.bin .add false (.s 10) (.c (.int .i64 1))),oo 5 (.mov (.s 11))])))))) [] (.seq (.region false [oo 4 (.mov (.c (.bool false)))]) [4] (.ret)))⟩
def tf71 : TFn := ⟨63, [.tmp 10, .tmp 11],.seq (.region false [oo 5 (.box 26 (.s 0)),oo 10 (.mov (.c (.fsl []))),oo 11 (.mov (.c (.bool false)))]) [1, 2, 3, 4, 5] (.seq (.region false [oo 15 (.mov (.s 1)),oo 16 (.load true 1 (.s 5)),oo 17 (.mov (.s 1)),oo 18 (.call 27 [(.s 16), (.s 17)]),
 oo 19 (.mov (.s 2)),oo 20 (.conv .u64 (.s 19)),oo 21 (.bin .shl false (.c (.int .i64 2)) (.s 20)),oo 22 (.bin .and false (.s 18) (.s 21)),oo 23 (.build [(.int .i64 0), (.int .i64 0)] [(0, 1, (.s 15)), (1, 1, (.s 22))]),oo 24 (.buildSlice 2 56 [(.s 23)]),oo 12 (.mov (.s 24))]) [3, 4, 5, 12] (.seq (
 .seq (.region false [oo 13 (.mov (.c (.int .i64 0)))]) [3, 4, 5, 12, 13] (.block 0 (.loop (.seq (.seq (.region false [oo 25 (.mov (.s 13)),oo 26 (.mov (.s 3)),oo 27 (.len (.s 26)),oo 28 (.bin .lss false (.s 25) (.s 27))]) [3, 4, 5, 12, 13, 28] (.cond (.s 28) (.skip) (.exit 0))) [3, 4, 5, 12, 13] (
 .seq (.block 1 (.seq (.region true [oo 31 (.load true 1 (.s 5)),oo 32 (.mov (.s 3)),oo 33 (.mov (.s 13)),oo 34 (.indexAddr 3 (.s 32) (.s 33)),oo 35 (.load true 3 (.s 34)),oo 36 (.call 89 [(.s 31), (.s 35)]),oo 14 (.mov (.s 36))]) [3, 4, 5, 12, 13, 14] (.seq (.seq (
 .region false [oo 37 (.mov (.s 4)),oo 38 (.un .not (.s 37))]) [3, 4, 5, 12, 13, 14, 38] (.cond (.s 38) (.region true [oo 39 (.load true 1 (.s 5)),oo 40 (.mov (.s 3)),oo 41 (.mov (.s 13)),oo 42 (.indexAddr 3 (.s 40) (.s 41)),oo 43 (.fieldAddr 0 (.s 42)),oo 44 (.load false 1 (.s 43)),
 oo 45 (.call 27 [(.s 39), (.s 44)]),oo 46 (.mov (.s 14)),oo 47 (.bin .sub false (.s 45) (.s 46)),oo 14 (.mov (.s 47))]) (.skip))) [3, 4, 5, 12, 13, 14] (.region false [oo 48 (.mov (.s 12)),oo 49 (.mov (.s 3)),oo 50 (.mov (.s 13)),oo 51 (.indexAddr 3 (.s 49) (.s 50)),oo 52 (.fieldAddr 0 (.s 51)),
 oo 53 (.load false 1 (.s 52)),oo 54 (.mov (.s 14)),oo 55 (.build [(.int .i64 0), (.int .i64 0)] [(0, 1, (.s 53)), (1, 1, (.s 54))]),oo 56 (.buildSlice 2 56 [(.s 55)]),oo 57 (.append 2 56 16 (.s 48) (.s 56)),oo 12 (.mov (.s 57))])))) [3, 4, 5, 12, 13] (.region false [oo 29 (.mov (.s 13)),
 oo 30 (.bin .add false (.s 29) (.c (.int .i64 1))),oo 13 (.mov (.s 30))])))))) [5, 12] (.seq (.region false [oo 58 (.load true 1 (.s 5)),oo 59 (.mov (.s 12)),oo 60 (.call 52 [(.s 58), (.s 59)]),oo 61 (.extract 0 (.s 60)),oo 62 (.extract 1 (.s 60)),oo 10 (.mov (.s 61)),
 oo 11 (.mov (.s 62))]) [10, 11] (.ret))))⟩
def tf72 : TFn := ⟨79, [.tmp 6],.seq (.region false [oo 3 (.box 26 (.s 0)),oo 5 (.box 95 (.s 2)),oo 6 (.mov (.c (.fsl [])))]) [1, 3, 5] (.seq (.seq (.region false [oo 7 (.mov (.c (.int .i64 0)))]) [1, 3, 5, 7] (.block 0 (.loop (.seq (.seq (.region false [oo 10 (.mov (.s 7)),oo 11 (.mov (.s 1)),
 oo 12 (.len (.s 11)),oo 13 (.bin .lss false (.s 10) (.s 12))]) [1, 3, 5, 7, 13] (.cond (.s 13) (.skip) (.exit 0))) [1, 3, 5, 7] (.seq (.block 1 (.seq (.region false [oo 16 (.mov (.s 1)),oo 17 (.mov (.s 7)),oo 18 (.indexAddr 5 (.s 16) (.s 17)),oo 19 (.load true 5 (.s 18)),
 oo 8 (.alloc 95 [(.int .i64 0), (.int .i64 0), (.int .i64 0), (.int .i64 0), (.fsl [])]),⟨none, .store 5 (.s 8) (.s 19), none⟩]) [1, 3, 5, 7, 8] (.seq (.region true [oo 20 (.fieldAddr 0 (.s 8)),oo 21 (.load false 1 (.s 20)),oo 22 (.fieldAddr 0 (.s 5)),oo 23 (.load false 1 (.s 22)),
 oo 24 (.bin .eql false (.s 21) (.s 23)),oo 25 (.mov (.s 24)),⟨some 26, .fieldAddr 1 (.s 8), (some (25, true))⟩,⟨some 27, .load false 1 (.s 26), (some (25, true))⟩,⟨some 28, .fieldAddr 1 (.s 5), (some (25, true))⟩,⟨some 29, .load false 1 (.s 28), (some (25, true))⟩,
 ⟨some 30, .bin .eql false (.s 27) (.s 29), (some (25, true))⟩,oo 31 (.pick (.s 25) (.s 30) (.c (.bool false))),oo 32 (.mov (.s 31)),⟨some 33, .fieldAddr 4 (.s 8), (some (32, true))⟩,⟨some 34, .load false 1 (.s 33), (some (32, true))⟩,⟨some 35, .fieldAddr 1 (.s 5), (some (32, true))⟩,
 ⟨some 36, .load false 1 (.s 35), (some (32, true))⟩,⟨some 37, .call 90 [(.s 34), (.s 36)], (some (32, true))⟩,⟨some 38, .fieldAddr 4 (.s 5), (some (32, true))⟩,⟨some 39, .load false 1 (.s 38), (some (32, true))⟩,⟨some 40, .fieldAddr 1 (.s 5), (some (32, true))⟩,
 ⟨some 41, .load false 1 (.s 40), (some (32, true))⟩,⟨some 42, .call 90 [(.s 39), (.s 41)], (some (32, true))⟩,⟨some 43, .call 19 [(.s 37), (.s 42)], (some (32, true))⟩,oo 44 (.pick (.s 32) (.s 43) (.c (.bool false)))]) [1, 3, 5, 7, 8, 44] (.cond (.s 44) (.seq (
 .region true [oo 45 (.fieldAddr 1 (.s 5)),oo 46 (.load false 1 (.s 45)),oo 47 (.load true 1 (.s 3)),oo 48 (.fieldAddr 4 (.s 8)),oo 49 (.load false 1 (.s 48)),oo 50 (.fieldAddr 1 (.s 5)),oo 51 (.load false 1 (.s 50)),oo 52 (.call 28 [(.s 47), (.s 49), (.s 51)]),oo 53 (.load true 1 (.s 3)),
 oo 54 (.fieldAddr 4 (.s 5)),oo 55 (.load false 1 (.s 54)),oo 56 (.fieldAddr 1 (.s 5)),oo 57 (.load false 1 (.s 56)),oo 58 (.call 28 [(.s 53), (.s 55), (.s 57)]),oo 59 (.bin .or false (.s 52) (.s 58)),oo 60 (.build [(.int .i64 0), (.int .i64 0)] [(0, 1, (.s 46)), (1, 1, (.s 59))]),
 oo 61 (.buildSlice 2 56 [(.s 60)]),oo 62 (.fieldAddr 4 (.s 8)),oo 63 (.load false 1 (.s 62)),oo 64 (.fieldAddr 1 (.s 5)),oo 65 (.load false 1 (.s 64)),oo 66 (.call 90 [(.s 63), (.s 65)]),oo 67 (.append 2 56 16 (.s 61) (.s 66)),oo 9 (.mov (.s 67))]) [1, 7, 9] (.seq (
 .region false [oo 68 (.mov (.s 1)),oo 69 (.mov (.s 7)),oo 70 (.mov (.s 9)),oo 71 (.call 91 [(.s 70)]),oo 72 (.indexAddr 5 (.s 68) (.s 69)),oo 73 (.fieldAddr 4 (.s 72)),⟨none, .store 1 (.s 73) (.s 71), none⟩]) [1] (.seq (.region false [oo 74 (.mov (.s 1)),oo 6 (.mov (.s 74))]) [6] (.ret)))) (
 .skip))))) [1, 3, 5, 7] (.region false [oo 14 (.mov (.s 7)),oo 15 (.bin .add false (.s 14) (.c (.int .i64 1))),oo 7 (.mov (.s 15))])))))) [1, 5] (.seq (.region false [oo 75 (.mov (.s 1)),oo 76 (.load true 5 (.s 5)),oo 77 (.buildSlice 5 95 [(.s 76)]),oo 78 (.append 5 95 56 (.s 75) (.s 77)),
 oo 6 (.mov (.s 78))]) [6] (.ret)))⟩
def tf73 : TFn := ⟨19, [.tmp 2],.seq (.region false [oo 1 (.box 26 (.s 0)),oo 2 (.mov (.c (.fsl [])))]) [1] (.seq (.region false [oo 3 (.mov (.c (.fsl [])))]) [1, 3] (.seq (.seq (.region false [oo 4 (.mov (.c (.int .i64 0)))]) [1, 3, 4] (.block 0 (.loop (.seq (.seq (
 .region false [oo 5 (.mov (.s 4)),oo 6 (.fieldAddr 0 (.s 1)),oo 7 (.load false 1 (.s 6)),oo 8 (.len (.s 7)),oo 9 (.bin .lss false (.s 5) (.s 8))]) [1, 3, 4, 9] (.cond (.s 9) (.skip) (.exit 0))) [1, 3, 4] (.seq (.block 1 (.region false [oo 12 (.mov (.s 3)),oo 13 (.load true 1 (.s 1)),
 oo 14 (.mov (.s 4)),oo 15 (.call 27 [(.s 13), (.s 14)]),oo 16 (.buildSlice 1 3 [(.s 15)]),oo 17 (.append 1 3 8 (.s 12) (.s 16)),oo 3 (.mov (.s 17))])) [1, 3, 4] (.region false [oo 10 (.mov (.s 4)),oo 11 (.bin .add false (.s 10) (.c (.int .i64 1))),oo 4 (.mov (.s 11))])))))) [3] (.seq (
 .region false [oo 18 (.mov (.s 3)),oo 2 (.mov (.s 18))]) [2] (.ret))))⟩
def tf74 : TFn := ⟨37, [.tmp 4, .tmp 5],.seq (.region false [oo 2 (.box 26 (.s 0)),oo 4 (.mov (.c (.fsl []))),oo 5 (.mov (.c (.bool false)))]) [1, 2] (.seq (.region false [oo 6 (.mov (.c (.fsl [])))]) [1, 2, 6] (.seq (.seq (.region false [oo 7 (.mov (.c (.int .i64 0)))]) [1, 2, 6, 7] (.block 0 (
 .loop (.seq (.seq (.region false [oo 8 (.mov (.s 7)),oo 9 (.mov (.s 1)),oo 10 (.len (.s 9)),oo 11 (.bin .lss false (.s 8) (.s 10))]) [1, 2, 6, 7, 11] (.cond (.s 11) (.skip) (.exit 0))) [1, 2, 6, 7] (.seq (.block 1 (.seq (.seq (.region false [oo 14 (.mov (.s 1)),oo 15 (.mov (.s 7)),
 oo 16 (.indexAddr 1 (.s 14) (.s 15)),oo 17 (.load false 1 (.s 16)),oo 18 (.bin .eql false (.s 17) (.c (.int .i64 0)))]) [1, 2, 6, 7, 18] (.cond (.s 18) (.seq (.region false [oo 4 (.mov (.c (.fsl []))),oo 5 (.mov (.c (.bool false)))]) [4, 5] (.ret)) (.skip))) [1, 2, 6, 7] (.seq (
 .region true [oo 19 (.mov (.s 1)),oo 20 (.mov (.s 7)),oo 21 (.indexAddr 1 (.s 19) (.s 20)),oo 22 (.load false 1 (.s 21)),oo 23 (.load true 1 (.s 2)),oo 24 (.mov (.s 7)),oo 25 (.call 27 [(.s 23), (.s 24)]),oo 26 (.bin .neq false (.s 22) (.s 25))]) [1, 2, 6, 7, 26] (.cond (.s 26) (
 .region false [oo 27 (.mov (.s 6)),oo 28 (.mov (.s 7)),oo 29 (.mov (.s 1)),oo 30 (.mov (.s 7)),oo 31 (.indexAddr 1 (.s 29) (.s 30)),oo 32 (.load false 1 (.s 31)),oo 33 (.build [(.int .i64 0), (.int .i64 0)] [(0, 1, (.s 28)), (1, 1, (.s 32))]),oo 34 (.buildSlice 2 56 [(.s 33)]),
 oo 35 (.append 2 56 16 (.s 27) (.s 34)),oo 6 (.mov (.s 35))]) (.skip))))) [1, 2, 6, 7] (.region false [oo 12 (.mov (.s 7)),oo 13 (.bin .add false (.s 12) (.c (.int .i64 1))),oo 7 (.mov (.s 13))])))))) [6] (.seq (.region false [oo 36 (.mov (.s 6)),oo 4 (.mov (.s 36)),
 oo 5 (.mov (.c (.bool true)))]) [4, 5] (.ret))))⟩
def tf75 : TFn := ⟨5, [.tmp 0],.seq (.region false [oo 0 (.mov (.c (.fsl [])))]) [] (.seq (.region false [oo 1 (.call 80 []),oo 2 (.call 82 []),
 oo 3 (.build [(.int .i64 0), (.int .i64 0), (.int .i64 0), (.int .i64 0), (.str []), (.str []), (.bool false), (.int .i64 0), (.int .i64 0), (.int .i64 0), (.int .i64 0), (.str []), (.str []), (.bool false)] [(0, 7, (.s 1)), (7, 7, (.s 2))]),oo 4 (.buildSlice 14 108 [(.s 3)]),
 oo 0 (.mov (.s 4))]) [0] (.ret))⟩
def tf76 : TFn := ⟨9, [.tmp 2],.seq (.region false [oo 2 (.mov (.c (.bool false)))]) [0] (.seq (.region false [oo 3 (.mov (.s 0)),oo 4 (.bin .geq false (.s 3) (.c (.int .i64 0))),oo 5 (.mov (.s 4)),⟨some 6, .mov (.s 0), (some (5, true))⟩,
 ⟨some 7, .bin .leq false (.s 6) (.c (.int .i64 9999)), (some (5, true))⟩,oo 8 (.pick (.s 5) (.s 7) (.c (.bool false))),oo 2 (.mov (.s 8))]) [2] (.ret))⟩
def tf77 : TFn := ⟨48, [.tmp 4],.seq (.region false [oo 4 (.mov (.c (.bool false)))]) [0, 1] (.seq (.seq (.region false [oo 9 (.mov (.s 0)),oo 10 (.bin .eql false (.s 9) (.c (.str [])))]) [0, 1, 10] (.cond (.s 10) (.seq (.region false [oo 4 (.mov (.c (.bool true)))]) [4] (.ret)) (.skip))) [0, 1] (
 .seq (.region false [oo 11 (.mov (.s 0)),oo 12 (.call 92 [(.s 11), (.c (.int .u8 46))]),oo 5 (.mov (.s 12))]) [1, 5] (.seq (.seq (.region false [oo 13 (.mov (.s 5)),oo 14 (.len (.s 13)),oo 15 (.bin .gtr false (.s 14) (.c (.int .i64 4)))]) [1, 5, 15] (.cond (.s 15) (.seq (
 .region false [oo 4 (.mov (.c (.bool false)))]) [4] (.ret)) (.skip))) [1, 5] (.seq (.seq (.region false [oo 6 (.mov (.c (.int .i64 0)))]) [1, 5, 6] (.block 0 (.loop (.seq (.seq (.region false [oo 16 (.mov (.s 6)),oo 17 (.mov (.s 5)),oo 18 (.len (.s 17)),
 oo 19 (.bin .lss false (.s 16) (.s 18))]) [1, 5, 6, 19] (.cond (.s 19) (.skip) (.exit 0))) [1, 5, 6] (.seq (.block 1 (.seq (.seq (.region false [oo 22 (.mov (.s 5)),oo 23 (.mov (.s 6)),oo 24 (.indexAddr 1 (.s 22) (.s 23)),oo 25 (.load false 1 (.s 24)),oo 26 (.call 93 [(.s 25)]),
 oo 27 (.un .not (.s 26))]) [1, 5, 6, 27] (.cond (.s 27) (.seq (.region false [oo 4 (.mov (.c (.bool false)))]) [4] (.ret)) (.skip))) [1, 5, 6] (.seq (.region false [oo 29 (.mov (.s 5)),oo 30 (.mov (.s 6)),oo 31 (.indexAddr 1 (.s 29) (.s 30)),oo 32 (.load false 1 (.s 31)),
 oo 33 (.call 94 [(.s 32)]),oo 28 (.mov (.s 33)),oo 34 (.extract 0 (.s 28)),oo 35 (.extract 1 (.s 28)),oo 7 (.mov (.s 34)),oo 8 (.mov (.s 35))]) [1, 5, 6, 8] (.seq (.region false [oo 36 (.mov (.s 1)),oo 37 (.mov (.s 36)),⟨some 38, .mov (.s 5), (some (37, true))⟩,
 ⟨some 39, .mov (.s 6), (some (37, true))⟩,⟨some 40, .indexAddr 1 (.s 38) (.s 39), (some (37, true))⟩,⟨some 41, .load false 1 (.s 40), (some (37, true))⟩,⟨some 42, .call 95 [(.s 41)], (some (37, true))⟩,oo 43 (.pick (.s 37) (.s 42) (.c (.bool false))),oo 44 (.mov (.s 43)),
 ⟨some 45, .mov (.s 8), (some (44, true))⟩,⟨some 46, .un .not (.s 45), (some (44, true))⟩,oo 47 (.pick (.s 44) (.s 46) (.c (.bool false)))]) [1, 5, 6, 47] (.cond (.s 47) (.seq (.region false [oo 4 (.mov (.c (.bool false)))]) [4] (.ret)) (.skip)))))) [1, 5, 6] (.region false [oo 20 (.mov (.s 6)),
 oo 21 (.bin .add false (.s 20) (.c (.int .i64 1))),oo 6 (.mov (.s 21))])))))) [] (.seq (.region false [oo 4 (.mov (.c (.bool true)))]) [4] (.ret))))))⟩
def tf78 : TFn := ⟨5, [.cell 2 true 5],.seq (.region false [oo 1 (.box 67 (.s 0)),oo 2 (.alloc 67 [(.int .i64 0), (.int .i64 0), (.int .i64 0), (.str []), (.str [])])]) [1, 2] (.seq (.region false [oo 3 (.fieldAddr 4 (.s 1)),⟨none, .store 1 (.s 3) (.c (.str [])), none⟩]) [1, 2] (.seq (
 .region false [oo 4 (.load true 5 (.s 1)),⟨none, .store 5 (.s 2) (.s 4), none⟩]) [2] (.ret)))⟩
def tf79 : TFn := ⟨16, [.tmp 2],.seq (.region false [oo 1 (.box 67 (.s 0)),oo 2 (.mov (.c (.bool false)))]) [1] (.seq (.region false [oo 3 (.fieldAddr 0 (.s 1)),oo 4 (.load false 1 (.s 3)),oo 5 (.bin .eql false (.s 4) (.c (.int .i64 0))),oo 6 (.mov (.s 5)),
 ⟨some 7, .fieldAddr 1 (.s 1), (some (6, true))⟩,⟨some 8, .load false 1 (.s 7), (some (6, true))⟩,⟨some 9, .bin .eql false (.s 8) (.c (.int .i64 0)), (some (6, true))⟩,oo 10 (.pick (.s 6) (.s 9) (.c (.bool false))),oo 11 (.mov (.s 10)),⟨some 12, .fieldAddr 2 (.s 1), (some (11, true))⟩,
 ⟨some 13, .load false 1 (.s 12), (some (11, true))⟩,⟨some 14, .bin .eql false (.s 13) (.c (.int .i64 0)), (some (11, true))⟩,oo 15 (.pick (.s 11) (.s 14) (.c (.bool false))),oo 2 (.mov (.s 15))]) [2] (.ret))⟩
def tf80 : TFn := ⟨2, [.cell 0 true 7],.seq (.region false [oo 0 (.alloc 105 [(.int .i64 0), (.int .i64 0), (.int .i64 0), (.int .i64 0), (.str []), (.str []), (.bool false)])]) [0] (.seq (
 .region false [oo 1 (.build [(.int .i64 0), (.int .i64 0), (.int .i64 0), (.int .i64 0), (.str []), (.str []), (.bool false)] [(0, 1, (.c (.int .i64 (-1))))]),⟨none, .store 7 (.s 0) (.s 1), none⟩]) [0] (.ret))⟩
def tf81 : TFn := ⟨34, [.cell 2 true 5, .tmp 3],.seq (.region false [oo 1 (.box 67 (.s 0)),oo 2 (.alloc 67 [(.int .i64 0), (.int .i64 0), (.int .i64 0), (.str []), (.str [])]),oo 3 (.mov (.c (.bool false)))]) [1, 2] (.seq (.seq (.region false [oo 7 (.load true 5 (.s 1)),oo 8 (.call 55 [(.s 7)]),
 oo 9 (.un .not (.s 8))]) [1, 2, 9] (.cond (.s 9) (.seq (.region false [oo 10 (.build [(.int .i64 0), (.int .i64 0), (.int .i64 0), (.str []), (.str [])] []),⟨none, .store 5 (.s 2) (.s 10), none⟩,oo 3 (.mov (.c (.bool false)))]) [2, 3] (.ret)) (.skip))) [1, 2] (.seq (.seq (
 .region false [oo 11 (.fieldAddr 3 (.s 1)),oo 12 (.load false 1 (.s 11)),oo 13 (.bin .neq false (.s 12) (.c (.str [])))]) [1, 2, 13] (.cond (.s 13) (.seq (.region false [oo 14 (.fieldAddr 0 (.s 1)),oo 15 (.load false 1 (.s 14)),oo 16 (.fieldAddr 1 (.s 1)),oo 17 (.load false 1 (.s 16)),
 oo 18 (.fieldAddr 2 (.s 1)),oo 19 (.load false 1 (.s 18)),oo 20 (.build [(.int .i64 0), (.int .i64 0), (.int .i64 0), (.str []), (.str [])] [(0, 1, (.s 15)), (1, 1, (.s 17)), (2, 1, (.s 19))]),⟨none, .store 5 (.s 2) (.s 20), none⟩,oo 3 (.mov (.c (.bool true)))]) [2, 3] (.ret)) (.skip))) [1, 2] (
 .seq (.seq (.region false [oo 4 (.mov (.c (.int .i64 2)))]) [1, 2, 4] (.block 0 (.loop (.seq (.seq (.region false [oo 21 (.mov (.s 4)),oo 22 (.bin .geq false (.s 21) (.c (.int .i64 0)))]) [1, 2, 4, 22] (.cond (.s 22) (.skip) (.exit 0))) [1, 2, 4] (.seq (.block 1 (.seq (
 .region false [oo 26 (.load true 5 (.s 1)),oo 27 (.mov (.s 4)),oo 28 (.call 96 [(.s 26), (.s 27)]),oo 25 (.mov (.s 28)),oo 29 (.extract 0 (.s 25)),oo 30 (.extract 1 (.s 25)),oo 5 (.alloc 67 [(.int .i64 0), (.int .i64 0), (.int .i64 0), (.str []), (.str [])]),⟨none, .store 5 (.s 5) (.s 29), none⟩,
 oo 6 (.mov (.s 30))]) [1, 2, 4, 5, 6] (.seq (.region false [oo 31 (.mov (.s 6))]) [1, 2, 4, 5, 31] (.cond (.s 31) (.seq (.region false [oo 32 (.load true 5 (.s 5)),⟨none, .store 5 (.s 2) (.s 32), none⟩,oo 3 (.mov (.c (.bool true)))]) [2, 3] (.ret)) (.skip))))) [1, 2, 4] (
 .region false [oo 23 (.mov (.s 4)),oo 24 (.bin .sub false (.s 23) (.c (.int .i64 1))),oo 4 (.mov (.s 24))])))))) [2] (.seq (.region false [oo 33 (.build [(.int .i64 0), (.int .i64 0), (.int .i64 0), (.str []), (.str [])] []),⟨none, .store 5 (.s 2) (.s 33), none⟩,
 oo 3 (.mov (.c (.bool false)))]) [2, 3] (.ret)))))⟩
def tf82 : TFn := ⟨2, [.cell 0 true 7],.seq (.region false [oo 0 (.alloc 105 [(.int .i64 0), (.int .i64 0), (.int .i64 0), (.int .i64 0), (.str []), (.str []), (.bool false)])]) [0] (.seq (
 .region false [oo 1 (.build [(.int .i64 0), (.int .i64 0), (.int .i64 0), (.int .i64 0), (.str []), (.str []), (.bool false)] [(0, 1, (.c (.int .i64 1)))]),⟨none, .store 7 (.s 0) (.s 1), none⟩]) [0] (.ret))⟩
def tf83 : TFn := ⟨25, [.cell 4 true 2],.seq (.region false [oo 2 (.box 74 (.s 0)),oo 3 (.box 74 (.s 1)),oo 4 (.alloc 74 [(.fsl []), (.fsl [])])]) [2, 3, 4] (.seq (.seq (.region false [oo 5 (.load true 2 (.s 2)),oo 6 (.call 97 [(.s 5)]),oo 7 (.un .not (.s 6)),oo 8 (.mov (.s 7)),
 ⟨some 9, .load true 2 (.s 3), (some (8, false))⟩,⟨some 10, .call 97 [(.s 9)], (some (8, false))⟩,⟨some 11, .un .not (.s 10), (some (8, false))⟩,oo 12 (.pick (.s 8) (.c (.bool true)) (.s 11))]) [2, 3, 4, 12] (.cond (.s 12) (.seq (.region false [oo 13 (.call 56 []),
 ⟨none, .store 2 (.s 4) (.s 13), none⟩]) [4] (.ret)) (.skip))) [2, 3, 4] (.seq (.region true [oo 14 (.fieldAddr 0 (.s 2)),oo 15 (.load false 1 (.s 14)),oo 16 (.fieldAddr 0 (.s 3)),oo 17 (.load false 1 (.s 16)),oo 18 (.call 98 [(.s 15), (.s 17)]),oo 19 (.fieldAddr 1 (.s 2)),
 oo 20 (.load false 1 (.s 19)),oo 21 (.fieldAddr 1 (.s 3)),oo 22 (.load false 1 (.s 21)),oo 23 (.call 98 [(.s 20), (.s 22)]),oo 24 (.build [(.fsl []), (.fsl [])] [(0, 1, (.s 18)), (1, 1, (.s 23))]),⟨none, .store 2 (.s 4) (.s 24), none⟩]) [4] (.ret)))⟩
def tf84 : TFn := ⟨14, [.cell 2 true 2],.seq (.region false [oo 1 (.box 74 (.s 0)),oo 2 (.alloc 74 [(.fsl []), (.fsl [])])]) [1, 2] (.seq (.seq (.region false [oo 3 (.load true 2 (.s 1)),oo 4 (.call 97 [(.s 3)]),oo 5 (.un .not (.s 4))]) [1, 2, 5] (.cond (.s 5) (.seq (
 .region false [oo 6 (.call 56 []),⟨none, .store 2 (.s 2) (.s 6), none⟩]) [2] (.ret)) (.skip))) [1, 2] (.seq (.region true [oo 7 (.fieldAddr 0 (.s 1)),oo 8 (.load false 1 (.s 7)),oo 9 (.call 99 [(.s 8)]),oo 10 (.fieldAddr 1 (.s 1)),oo 11 (.load false 1 (.s 10)),oo 12 (.call 99 [(.s 11)]),
 oo 13 (.build [(.fsl []), (.fsl [])] [(0, 1, (.s 9)), (1, 1, (.s 12))]),⟨none, .store 2 (.s 2) (.s 13), none⟩]) [2] (.ret)))⟩
def tf85 : TFn := ⟨14, [.tmp 4],.seq (.region false [oo 2 (.box 26 (.s 0)),oo 4 (.mov (.c (.bool false)))]) [1, 2] (.seq (.region false [oo 5 (.mov (.s 1)),oo 6 (.bin .geq false (.s 5) (.c (.int .i64 0))),oo 7 (.mov (.s 6)),⟨some 8, .mov (.s 1), (some (7, true))⟩,
 ⟨some 9, .fieldAddr 0 (.s 2), (some (7, true))⟩,⟨some 10, .load false 1 (.s 9), (some (7, true))⟩,⟨some 11, .len (.s 10), (some (7, true))⟩,⟨some 12, .bin .lss false (.s 8) (.s 11), (some (7, true))⟩,oo 13 (.pick (.s 7) (.s 12) (.c (.bool false))),oo 4 (.mov (.s 13))]) [4] (.ret))⟩
def tf86 : TFn := ⟨6, [.tmp 2],.seq (.region false [oo 2 (.mov (.c (.int .i64 0)))]) [0] (.seq (.region false [oo 3 (.mov (.s 0)),oo 4 (.bin .add false (.s 3) (.c (.int .i64 1))),oo 5 (.bin .shl false (.c (.int .i64 1)) (.s 4)),oo 2 (.mov (.s 5))]) [2] (.ret))⟩
def tf87 : TFn := ⟨15, [.tmp 4],.seq (.region false [oo 4 (.mov (.c (.int .i64 0)))]) [0, 1] (.seq (.block 0 (.seq (.region false [oo 6 (.mov (.s 0)),oo 7 (.mov (.s 1)),oo 8 (.bin .andNot false (.s 6) (.s 7)),oo 9 (.bin .eql false (.s 8) (.c (.int .i64 0))),oo 5 (.mov (.s 9))]) [0, 1, 5] (
 .cond (.s 5) (.seq (.region false [oo 4 (.mov (.c (.int .i64 2)))]) [4] (.ret)) (.seq (.region false [oo 11 (.mov (.s 0)),oo 12 (.mov (.s 1)),oo 13 (.bin .and false (.s 11) (.s 12)),oo 14 (.bin .eql false (.s 13) (.c (.int .i64 0))),oo 10 (.mov (.s 14))]) [10] (.cond (.s 10) (.seq (
 .region false [oo 4 (.mov (.c (.int .i64 0)))]) [4] (.ret)) (.skip)))))) [] (.seq (.region false [oo 4 (.mov (.c (.int .i64 1)))]) [4] (.ret)))⟩
def tf88 : TFn := ⟨30, [.tmp 6],.seq (.region false [oo 3 (.box 26 (.s 0)),oo 6 (.mov (.c (.int .i64 0)))]) [1, 2, 3] (.seq (.seq (.region false [oo 8 (.mov (.s 1)),oo 9 (.len (.s 8)),oo 10 (.bin .sub false (.s 9) (.c (.int .i64 1))),oo 7 (.mov (.s 10))]) [1, 2, 3, 7] (.block 0 (.loop (.seq (.seq (
 .region false [oo 11 (.mov (.s 7)),oo 12 (.bin .geq false (.s 11) (.c (.int .i64 0)))]) [1, 2, 3, 7, 12] (.cond (.s 12) (.skip) (.exit 0))) [1, 2, 3, 7] (.seq (.block 1 (.seq (.region false [oo 15 (.mov (.s 1)),oo 16 (.mov (.s 7)),oo 17 (.indexAddr 4 (.s 15) (.s 16)),oo 18 (.fieldAddr 0 (.s 17)),
 oo 19 (.load false 1 (.s 18)),oo 20 (.mov (.s 2)),oo 21 (.bin .eql false (.s 19) (.s 20))]) [1, 2, 3, 7, 21] (.cond (.s 21) (.seq (.region false [oo 22 (.mov (.s 1)),oo 23 (.mov (.s 7)),oo 24 (.indexAddr 4 (.s 22) (.s 23)),oo 25 (.fieldAddr 1 (.s 24)),oo 26 (.load false 1 (.s 25)),
 oo 6 (.mov (.s 26))]) [6] (.ret)) (.skip)))) [1, 2, 3, 7] (.region false [oo 13 (.mov (.s 7)),oo 14 (.bin .sub false (.s 13) (.c (.int .i64 1))),oo 7 (.mov (.s 14))])))))) [2, 3] (.seq (.region false [oo 27 (.load true 1 (.s 3)),oo 28 (.mov (.s 2)),oo 29 (.call 63 [(.s 27), (.s 28)]),
 oo 6 (.mov (.s 29))]) [6] (.ret)))⟩
def tf89 : TFn := ⟨50, [.tmp 4],.seq (.region false [oo 2 (.box 26 (.s 0)),oo 3 (.box 77 (.s 1)),oo 4 (.mov (.c (.int .i64 0)))]) [2, 3] (.seq (.seq (.region false [oo 8 (.fieldAddr 0 (.s 3)),oo 9 (.load false 1 (.s 8)),oo 10 (.bin .lss false (.s 9) (.c (.int .i64 0))),oo 11 (.mov (.s 10)),
 ⟨some 12, .fieldAddr 0 (.s 3), (some (11, false))⟩,⟨some 13, .load false 1 (.s 12), (some (11, false))⟩,⟨some 14, .fieldAddr 0 (.s 2), (some (11, false))⟩,⟨some 15, .load false 1 (.s 14), (some (11, false))⟩,⟨some 16, .len (.s 15), (some (11, false))⟩,
 ⟨some 17, .bin .geq false (.s 13) (.s 16), (some (11, false))⟩,oo 18 (.pick (.s 11) (.c (.bool true)) (.s 17))]) [2, 3, 18] (.cond (.s 18) (.seq (.region false [oo 4 (.mov (.c (.int .i64 0)))]) [4] (.ret)) (.skip))) [2, 3] (.seq (.region false [oo 5 (.mov (.c (.int .i64 0)))]) [2, 3, 5] (.seq (
 .region false [oo 19 (.fieldAddr 0 (.s 2)),oo 20 (.load false 1 (.s 19)),oo 21 (.fieldAddr 0 (.s 3)),oo 22 (.load false 1 (.s 21)),oo 23 (.indexAddr 3 (.s 20) (.s 22)),oo 24 (.fieldAddr 2 (.s 23)),oo 25 (.load false 1 (.s 24)),oo 6 (.mov (.s 25))]) [3, 5, 6] (.seq (.seq (
 .region false [oo 7 (.mov (.c (.int .i64 0)))]) [3, 5, 6, 7] (.block 0 (.loop (.seq (.seq (.region false [oo 26 (.mov (.s 7)),oo 27 (.mov (.s 6)),oo 28 (.len (.s 27)),oo 29 (.bin .lss false (.s 26) (.s 28)),oo 30 (.mov (.s 29)),⟨some 31, .mov (.s 7), (some (30, true))⟩,
 ⟨some 32, .bin .lss false (.s 31) (.c (.int .i64 16)), (some (30, true))⟩,oo 33 (.pick (.s 30) (.s 32) (.c (.bool false)))]) [3, 5, 6, 7, 33] (.cond (.s 33) (.skip) (.exit 0))) [3, 5, 6, 7] (.seq (.block 1 (.seq (.region true [oo 36 (.fieldAddr 1 (.s 3)),oo 37 (.load true 2 (.s 36)),
 oo 38 (.mov (.s 6)),oo 39 (.mov (.s 7)),oo 40 (.indexAddr 8 (.s 38) (.s 39)),oo 41 (.fieldAddr 0 (.s 40)),oo 42 (.load true 5 (.s 41)),oo 43 (.call 100 [(.s 37), (.s 42)])]) [3, 5, 6, 7, 43] (.cond (.s 43) (.region false [oo 44 (.mov (.s 5)),oo 45 (.mov (.s 7)),
 oo 46 (.bin .add false (.s 45) (.c (.int .i64 1))),oo 47 (.call 50 [(.s 46)]),oo 48 (.bin .add false (.s 44) (.s 47)),oo 5 (.mov (.s 48))]) (.skip)))) [3, 5, 6, 7] (.region false [oo 34 (.mov (.s 7)),oo 35 (.bin .add false (.s 34) (.c (.int .i64 1))),oo 7 (.mov (.s 35))])))))) [5] (.seq (
 .region false [oo 49 (.mov (.s 5)),oo 4 (.mov (.s 49))]) [4] (.ret))))))⟩
def tf90 : TFn := ⟨28, [.tmp 4],.seq (.region false [oo 4 (.mov (.c (.fsl [])))]) [0, 1] (.seq (.region false [oo 5 (.mov (.c (.fsl [])))]) [0, 1, 5] (.seq (.seq (.region false [oo 6 (.mov (.c (.int .i64 0)))]) [0, 1, 5, 6] (.block 0 (.loop (.seq (.seq (.region false [oo 7 (.mov (.s 6)),
 oo 8 (.mov (.s 0)),oo 9 (.len (.s 8)),oo 10 (.bin .lss false (.s 7) (.s 9))]) [0, 1, 5, 6, 10] (.cond (.s 10) (.skip) (.exit 0))) [0, 1, 5, 6] (.seq (.block 1 (.seq (.region false [oo 13 (.mov (.s 0)),oo 14 (.mov (.s 6)),oo 15 (.indexAddr 2 (.s 13) (.s 14)),oo 16 (.fieldAddr 0 (.s 15)),
 oo 17 (.load false 1 (.s 16)),oo 18 (.mov (.s 1)),oo 19 (.bin .neq false (.s 17) (.s 18))]) [0, 1, 5, 6, 19] (.cond (.s 19) (.region false [oo 20 (.mov (.s 5)),oo 21 (.mov (.s 0)),oo 22 (.mov (.s 6)),oo 23 (.indexAddr 2 (.s 21) (.s 22)),oo 24 (.load true 2 (.s 23)),
 oo 25 (.buildSlice 2 56 [(.s 24)]),oo 26 (.append 2 56 16 (.s 20) (.s 25)),oo 5 (.mov (.s 26))]) (.skip)))) [0, 1, 5, 6] (.region false [oo 11 (.mov (.s 6)),oo 12 (.bin .add false (.s 11) (.c (.int .i64 1))),oo 6 (.mov (.s 12))])))))) [5] (.seq (.region false [oo 27 (.mov (.s 5)),
 oo 4 (.mov (.s 27))]) [4] (.ret))))⟩
def tf91 : TFn := ⟨31, [.tmp 2],.seq (.region false [oo 2 (.mov (.c (.fsl [])))]) [0] (.seq (.region false [oo 3 (.mov (.c (.fsl [])))]) [0, 3] (.seq (.seq (.region false [oo 4 (.mov (.c (.int .i64 0)))]) [0, 3, 4] (.block 0 (.loop (.seq (.seq (.region false [oo 6 (.mov (.s 4)),
 oo 7 (.bin .lss false (.s 6) (.c (.int .i64 48)))]) [0, 3, 4, 7] (.cond (.s 7) (.skip) (.exit 0))) [0, 3, 4] (.seq (.block 1 (.seq (.region false [oo 5 (.mov (.c (.int .i64 0)))]) [0, 3, 4, 5] (.block 2 (.loop (.seq (.seq (.region false [oo 10 (.mov (.s 5)),oo 11 (.mov (.s 0)),
 oo 12 (.len (.s 11)),oo 13 (.bin .lss false (.s 10) (.s 12))]) [0, 3, 4, 5, 13] (.cond (.s 13) (.skip) (.exit 2))) [0, 3, 4, 5] (.seq (.block 3 (.seq (.region false [oo 16 (.mov (.s 0)),oo 17 (.mov (.s 5)),oo 18 (.indexAddr 2 (.s 16) (.s 17)),oo 19 (.fieldAddr 0 (.s 18)),
 oo 20 (.load false 1 (.s 19)),oo 21 (.mov (.s 4)),oo 22 (.bin .eql false (.s 20) (.s 21))]) [0, 3, 4, 5, 22] (.cond (.s 22) (.region false [oo 23 (.mov (.s 3)),oo 24 (.mov (.s 0)),oo 25 (.mov (.s 5)),oo 26 (.indexAddr 2 (.s 24) (.s 25)),oo 27 (.load true 2 (.s 26)),
 oo 28 (.buildSlice 2 56 [(.s 27)]),oo 29 (.append 2 56 16 (.s 23) (.s 28)),oo 3 (.mov (.s 29))]) (.skip)))) [0, 3, 4, 5] (.region false [oo 14 (.mov (.s 5)),oo 15 (.bin .add false (.s 14) (.c (.int .i64 1))),oo 5 (.mov (.s 15))]))))))) [0, 3, 4] (.region false [oo 8 (.mov (.s 4)),
 oo 9 (.bin .add false (.s 8) (.c (.int .i64 1))),oo 4 (.mov (.s 9))])))))) [3] (.seq (.region false [oo 30 (.mov (.s 3)),oo 2 (.mov (.s 30))]) [2] (.ret))))⟩
def tf92 : TFn := ⟨34, [.tmp 4],.seq (.region false [oo 4 (.mov (.c (.fsl [])))]) [0, 1] (.seq (.region false [oo 5 (.mov (.c (.fsl [])))]) [0, 1, 5] (.seq (.region false [oo 6 (.mov (.c (.int .i64 0)))]) [0, 1, 5, 6] (.seq (.seq (.region false [oo 7 (.mov (.c (.int .i64 0)))]) [0, 1, 5, 6, 7] (
 .block 0 (.loop (.seq (.seq (.region false [oo 8 (.mov (.s 7)),oo 9 (.mov (.s 0)),oo 10 (.lenStr (.s 9)),oo 11 (.bin .lss false (.s 8) (.s 10))]) [0, 1, 5, 6, 7, 11] (.cond (.s 11) (.skip) (.exit 0))) [0, 1, 5, 6, 7] (.seq (.block 1 (.seq (.region false [oo 14 (.mov (.s 0)),oo 15 (.mov (.s 7)),
 oo 16 (.indexStr (.s 14) (.s 15)),oo 17 (.mov (.s 1)),oo 18 (.bin .eql false (.s 16) (.s 17))]) [0, 1, 5, 6, 7, 18] (.cond (.s 18) (.seq (.region false [oo 19 (.mov (.s 5)),oo 20 (.mov (.s 0)),oo 21 (.mov (.s 6)),oo 22 (.mov (.s 7)),oo 23 (.sliceStr (.s 20) (some (.s 21)) (some (.s 22))),
 oo 24 (.buildSlice 1 9 [(.s 23)]),oo 25 (.append 1 9 16 (.s 19) (.s 24)),oo 5 (.mov (.s 25))]) [0, 1, 5, 7] (.region false [oo 26 (.mov (.s 7)),oo 27 (.bin .add false (.s 26) (.c (.int .i64 1))),oo 6 (.mov (.s 27))])) (.skip)))) [0, 1, 5, 6, 7] (.region false [oo 12 (.mov (.s 7)),
 oo 13 (.bin .add false (.s 12) (.c (.int .i64 1))),oo 7 (.mov (.s 13))])))))) [0, 5, 6] (.seq (.region false [oo 28 (.mov (.s 5)),oo 29 (.mov (.s 0)),oo 30 (.mov (.s 6)),oo 31 (.sliceStr (.s 29) (some (.s 30)) none),oo 32 (.buildSlice 1 9 [(.s 31)]),oo 33 (.append 1 9 16 (.s 28) (.s 32)),
 oo 4 (.mov (.s 33))]) [4] (.ret)))))⟩
def tf93 : TFn := ⟨40, [.tmp 2],.seq (.region false [oo 2 (.mov (.c (.bool false)))]) [0] (.seq (.seq (.region false [oo 5 (.mov (.s 0)),oo 6 (.lenStr (.s 5)),oo 7 (.bin .lss false (.s 6) (.c (.int .i64 1))),oo 8 (.mov (.s 7)),⟨some 9, .mov (.s 0), (some (8, false))⟩,
 ⟨some 10, .lenStr (.s 9), (some (8, false))⟩,⟨some 11, .bin .gtr false (.s 10) (.c (.int .i64 8)), (some (8, false))⟩,oo 12 (.pick (.s 8) (.c (.bool true)) (.s 11))]) [0, 12] (.cond (.s 12) (.seq (.region false [oo 2 (.mov (.c (.bool false)))]) [2] (.ret)) (.skip))) [0] (.seq (.seq (
 .region false [oo 3 (.mov (.c (.int .i64 0)))]) [0, 3] (.block 0 (.loop (.seq (.seq (.region false [oo 13 (.mov (.s 3)),oo 14 (.mov (.s 0)),oo 15 (.lenStr (.s 14)),oo 16 (.bin .lss false (.s 13) (.s 15))]) [0, 3, 16] (.cond (.s 16) (.skip) (.exit 0))) [0, 3] (.seq (.block 1 (.seq (
 .region false [oo 19 (.mov (.s 0)),oo 20 (.mov (.s 3)),oo 21 (.indexStr (.s 19) (.s 20)),oo 4 (.mov (.s 21))]) [0, 3, 4] (.seq (.region false [oo 22 (.mov (.s 4)),oo 23 (.bin .lss false (.s 22) (.c (.int .u8 97))),oo 24 (.mov (.s 23)),⟨some 25, .mov (.s 4), (some (24, false))⟩,
 ⟨some 26, .bin .gtr false (.s 25) (.c (.int .u8 122)), (some (24, false))⟩,oo 27 (.pick (.s 24) (.c (.bool true)) (.s 26)),oo 28 (.mov (.s 27)),⟨some 29, .mov (.s 4), (some (28, true))⟩,⟨some 30, .bin .lss false (.s 29) (.c (.int .u8 48)), (some (28, true))⟩,
 ⟨some 31, .mov (.s 30), (some (28, true))⟩,⟨some 32, .mov (.s 4), (some (31, false))⟩,⟨some 33, .bin .gtr false (.s 32) (.c (.int .u8 57)), (some (31, false))⟩,⟨some 34, .pick (.s 31) (.c (.bool true)) (.s 33), (some (28, true))⟩,oo 35 (.pick (.s 28) (.s 34) (.c (.bool false))),
 oo 36 (.mov (.s 35)),⟨some 37, .mov (.s 4), (some (36, true))⟩,⟨some 38, .bin .neq false (.s 37) (.c (.int .u8 45)), (some (36, true))⟩,oo 39 (.pick (.s 36) (.s 38) (.c (.bool false)))]) [0, 3, 39] (.cond (.s 39) (.seq (.region false [oo 2 (.mov (.c (.bool false)))]) [2] (.ret)) (
 .skip))))) [0, 3] (.region false [oo 17 (.mov (.s 3)),oo 18 (.bin .add false (.s 17) (.c (.int .i64 1))),oo 3 (.mov (.s 18))])))))) [] (.seq (.region false [oo 2 (.mov (.c (.bool true)))]) [2] (.ret))))⟩
def tf94 : TFn := ⟨46, [.tmp 2, .tmp 3],.seq (.region false [oo 2 (.mov (.c (.int .i64 0))),oo 3 (.mov (.c (.bool false)))]) [0] (.seq (.seq (.region false [oo 6 (.mov (.s 0)),oo 7 (.lenStr (.s 6)),oo 8 (.bin .lss false (.s 7) (.c (.int .i64 1))),oo 9 (.mov (.s 8)),
 ⟨some 10, .mov (.s 0), (some (9, false))⟩,⟨some 11, .lenStr (.s 10), (some (9, false))⟩,⟨some 12, .bin .gtr false (.s 11) (.c (.int .i64 9)), (some (9, false))⟩,oo 13 (.pick (.s 9) (.c (.bool true)) (.s 12)),oo 14 (.mov (.s 13)),⟨some 15, .mov (.s 0), (some (14, false))⟩,
 ⟨some 16, .lenStr (.s 15), (some (14, false))⟩,⟨some 17, .bin .gtr false (.s 16) (.c (.int .i64 1)), (some (14, false))⟩,⟨some 18, .mov (.s 17), (some (14, false))⟩,⟨some 19, .mov (.s 0), (some (18, true))⟩,⟨some 20, .indexStr (.s 19) (.c (.int .i64 0)), (some (18, true))⟩,
 ⟨some 21, .bin .eql false (.s 20) (.c (.int .u8 48)), (some (18, true))⟩,⟨some 22, .pick (.s 18) (.s 21) (.c (.bool false)), (some (14, false))⟩,oo 23 (.pick (.s 14) (.c (.bool true)) (.s 22))]) [0, 23] (.cond (.s 23) (.seq (.region false [oo 2 (.mov (.c (.int .i64 0))),
 oo 3 (.mov (.c (.bool false)))]) [2, 3] (.ret)) (.skip))) [0] (.seq (.region false [oo 4 (.mov (.c (.int .i64 0)))]) [0, 4] (.seq (.seq (.region false [oo 5 (.mov (.c (.int .i64 0)))]) [0, 4, 5] (.block 0 (.loop (.seq (.seq (.region false [oo 24 (.mov (.s 5)),oo 25 (.mov (.s 0)),
 oo 26 (.lenStr (.s 25)),oo 27 (.bin .lss false (.s 24) (.s 26))]) [0, 4, 5, 27] (.cond (.s 27) (.skip) (.exit 0))) [0, 4, 5] (.seq (.block 1 (.seq (.seq (.region false [oo 30 (.mov (.s 0)),oo 31 (.mov (.s 5)),oo 32 (.indexStr (.s 30) (.s 31)),oo 33 (.call 101 [(.s 32)]),
 oo 34 (.un .not (.s 33))]) [0, 4, 5, 34] (.cond (.s 34) (.seq (.region false [oo 2 (.mov (.c (.int .i64 0))),oo 3 (.mov (.c (.bool false)))]) [2, 3] (.ret)) (.skip))) [0, 4, 5] (.region false [oo 35 (.mov (.s 4)),oo 36 (.bin .mul false (.s 35) (.c (.int .i64 10))),oo 37 (.mov (.s 0)),
 oo 38 (.mov (.s 5)),oo 39 (.indexStr (.s 37) (.s 38)),oo 40 (.bin .sub false (.s 39) (.c (.int .u8 48))),oo 41 (.conv .i64 (.s 40)),oo 42 (.bin .add false (.s 36) (.s 41)),oo 4 (.mov (.s 42))]))) [0, 4, 5] (.region false [oo 28 (.mov (.s 5)),oo 29 (.bin .add false (.s 28) (.c (.int .i64 1))),
 oo 5 (.mov (.s 29))])))))) [4] (.seq (.seq (.region false [oo 43 (.mov (.s 4)),oo 44 (.bin .gtr false (.s 43) (.c (.int .i64 9999)))]) [4, 44] (.cond (.s 44) (.seq (.region false [oo 2 (.mov (.c (.int .i64 0))),oo 3 (.mov (.c (.bool false)))]) [2, 3] (.ret)) (.skip))) [4] (.seq (
 .region false [oo 45 (.mov (.s 4)),oo 2 (.mov (.s 45)),oo 3 (.mov (.c (.bool true)))]) [2, 3] (.ret))))))⟩
def tf95 : TFn := ⟨23, [.tmp 2],.seq (.region false [oo 2 (.mov (.c (.bool false)))]) [0] (.seq (.seq (.region false [oo 3 (.mov (.c (.int .i64 0)))]) [0, 3] (.block 0 (.loop (.seq (.seq (.region false [oo 4 (.mov (.s 3)),oo 5 (.mov (.s 0)),oo 6 (.lenStr (.s 5)),
 oo 7 (.bin .lss false (.s 4) (.s 6))]) [0, 3, 7] (.cond (.s 7) (.skip) (.exit 0))) [0, 3] (.seq (.block 1 (.seq (.region false [oo 10 (.mov (.s 0)),oo 11 (.mov (.s 3)),oo 12 (.indexStr (.s 10) (.s 11)),oo 13 (.bin .lss false (.s 12) (.c (.int .u8 48))),oo 14 (.mov (.s 13)),
 ⟨some 15, .mov (.s 0), (some (14, false))⟩,⟨some 16, .mov (.s 3), (some (14, false))⟩,⟨some 17, .indexStr (.s 15) (.s 16), (some (14, false))⟩,⟨some 18, .bin .gtr false (.s 17) (.c (.int .u8 57)), (some (14, false))⟩,oo 19 (.pick (.s 14) (.c (.bool true)) (.s 18))]) [0, 3, 19] (.cond (.s 19) (
 .seq (.region false [oo 2 (.mov (.c (.bool false)))]) [2] (.ret)) (.skip)))) [0, 3] (.region false [oo 8 (.mov (.s 3)),oo 9 (.bin .add false (.s 8) (.c (.int .i64 1))),oo 3 (.mov (.s 9))])))))) [0] (.seq (.region false [oo 20 (.mov (.s 0)),oo 21 (.lenStr (.s 20)),
 oo 22 (.bin .gtr false (.s 21) (.c (.int .i64 0))),oo 2 (.mov (.s 22))]) [2] (.ret)))⟩
def tf96 : TFn := ⟨47, [.cell 4 true 5, .tmp 5],.seq (.region false [oo 2 (.box 67 (.s 0)),oo 4 (.alloc 67 [(.int .i64 0), (.int .i64 0), (.int .i64 0), (.str []), (.str [])]),oo 5 (.mov (.c (.bool false)))]) [1, 2, 4] (.seq (.seq (.region false [oo 7 (.load true 5 (.s 2)),oo 8 (.call 55 [(.s 7)]),
 oo 9 (.un .not (.s 8)),oo 10 (.mov (.s 9)),⟨some 11, .mov (.s 1), (some (10, false))⟩,⟨some 12, .bin .lss false (.s 11) (.c (.int .i64 0)), (some (10, false))⟩,oo 13 (.pick (.s 10) (.c (.bool true)) (.s 12)),oo 14 (.mov (.s 13)),⟨some 15, .mov (.s 1), (some (14, false))⟩,
 ⟨some 16, .bin .gtr false (.s 15) (.c (.int .i64 2)), (some (14, false))⟩,oo 17 (.pick (.s 14) (.c (.bool true)) (.s 16))]) [1, 2, 4, 17] (.cond (.s 17) (.seq (.region false [oo 18 (.build [(.int .i64 0), (.int .i64 0), (.int .i64 0), (.str []), (.str [])] []),
 ⟨none, .store 5 (.s 4) (.s 18), none⟩,oo 5 (.mov (.c (.bool false)))]) [4, 5] (.ret)) (.skip))) [1, 2, 4] (.seq (.region false [oo 6 (.alloc 67 [(.int .i64 0), (.int .i64 0), (.int .i64 0), (.str []), (.str [])])]) [1, 2, 4, 6] (.seq (.seq (.region false [oo 19 (.mov (.s 1))]) [2, 4, 6, 19] (
 .block 0 (.seq (.region false [oo 29 (.bin .eql false (.s 19) (.c (.int .i64 0))),oo 28 (.mov (.s 29))]) [2, 4, 6, 19, 28] (.cond (.s 28) (.region false [oo 30 (.fieldAddr 0 (.s 2)),oo 31 (.load false 1 (.s 30)),oo 32 (.bin .add false (.s 31) (.c (.int .i64 1))),
 oo 33 (.build [(.int .i64 0), (.int .i64 0), (.int .i64 0), (.str []), (.str [])] [(0, 1, (.s 32))]),⟨none, .store 5 (.s 6) (.s 33), none⟩]) (.seq (.region false [oo 35 (.bin .eql false (.s 19) (.c (.int .i64 1))),oo 34 (.mov (.s 35))]) [2, 4, 6, 34] (.cond (.s 34) (
 .region false [oo 36 (.fieldAddr 0 (.s 2)),oo 37 (.load false 1 (.s 36)),oo 38 (.fieldAddr 1 (.s 2)),oo 39 (.load false 1 (.s 38)),oo 40 (.bin .add false (.s 39) (.c (.int .i64 1))),
 oo 41 (.build [(.int .i64 0), (.int .i64 0), (.int .i64 0), (.str []), (.str [])] [(0, 1, (.s 37)), (1, 1, (.s 40))]),⟨none, .store 5 (.s 6) (.s 41), none⟩]) (.region false [oo 20 (.fieldAddr 0 (.s 2)),oo 21 (.load false 1 (.s 20)),oo 22 (.fieldAddr 1 (.s 2)),oo 23 (.load false 1 (.s 22)),
 oo 24 (.fieldAddr 2 (.s 2)),oo 25 (.load false 1 (.s 24)),oo 26 (.bin .add false (.s 25) (.c (.int .i64 1))),oo 27 (.build [(.int .i64 0), (.int .i64 0), (.int .i64 0), (.str []), (.str [])] [(0, 1, (.s 21)), (1, 1, (.s 23)), (2, 1, (.s 26))]),⟨none, .store 5 (.s 6) (.s 27), none⟩]))))))) [4, 6] (
 .seq (.seq (.region false [oo 42 (.load true 5 (.s 6)),oo 43 (.call 55 [(.s 42)]),oo 44 (.un .not (.s 43))]) [4, 6, 44] (.cond (.s 44) (.seq (.region false [oo 45 (.build [(.int .i64 0), (.int .i64 0), (.int .i64 0), (.str []), (.str [])] []),⟨none, .store 5 (.s 4) (.s 45), none⟩,
 oo 5 (.mov (.c (.bool false)))]) [4, 5] (.ret)) (.skip))) [4, 6] (.seq (.region false [oo 46 (.load true 5 (.s 6)),⟨none, .store 5 (.s 4) (.s 46), none⟩,oo 5 (.mov (.c (.bool true)))]) [4, 5] (.ret))))))⟩
def tf97 : TFn := ⟨39, [.tmp 2],.seq (.region false [oo 1 (.box 74 (.s 0)),oo 2 (.mov (.c (.bool false)))]) [1] (.seq (.seq (.region false [oo 4 (.fieldAddr 0 (.s 1)),oo 5 (.load false 1 (.s 4)),oo 6 (.call 102 [(.s 5)]),oo 7 (.un .not (.s 6)),oo 8 (.mov (.s 7)),
 ⟨some 9, .fieldAddr 1 (.s 1), (some (8, false))⟩,⟨some 10, .load false 1 (.s 9), (some (8, false))⟩,⟨some 11, .call 102 [(.s 10)], (some (8, false))⟩,⟨some 12, .un .not (.s 11), (some (8, false))⟩,oo 13 (.pick (.s 8) (.c (.bool true)) (.s 12))]) [1, 13] (.cond (.s 13) (.seq (
 .region false [oo 2 (.mov (.c (.bool false)))]) [2] (.ret)) (.skip))) [1] (.seq (.seq (.region false [oo 3 (.mov (.c (.int .i64 0)))]) [1, 3] (.block 0 (.loop (.seq (.seq (.region false [oo 14 (.mov (.s 3)),oo 15 (.fieldAddr 0 (.s 1)),oo 16 (.load false 1 (.s 15)),oo 17 (.len (.s 16)),
 oo 18 (.bin .lss false (.s 14) (.s 17))]) [1, 3, 18] (.cond (.s 18) (.skip) (.exit 0))) [1, 3] (.seq (.block 1 (.seq (.region false [oo 21 (.fieldAddr 0 (.s 1)),oo 22 (.load false 1 (.s 21)),oo 23 (.mov (.s 3)),oo 24 (.indexAddr 14 (.s 22) (.s 23)),oo 25 (.fieldAddr 0 (.s 24)),
 oo 26 (.load true 7 (.s 25)),oo 27 (.call 103 [(.s 26)]),oo 28 (.un .not (.s 27)),oo 29 (.mov (.s 28)),⟨some 30, .fieldAddr 0 (.s 1), (some (29, false))⟩,⟨some 31, .load false 1 (.s 30), (some (29, false))⟩,⟨some 32, .mov (.s 3), (some (29, false))⟩,
 ⟨some 33, .indexAddr 14 (.s 31) (.s 32), (some (29, false))⟩,⟨some 34, .fieldAddr 7 (.s 33), (some (29, false))⟩,⟨some 35, .load true 7 (.s 34), (some (29, false))⟩,⟨some 36, .call 103 [(.s 35)], (some (29, false))⟩,⟨some 37, .un .not (.s 36), (some (29, false))⟩,
 oo 38 (.pick (.s 29) (.c (.bool true)) (.s 37))]) [1, 3, 38] (.cond (.s 38) (.seq (.region false [oo 2 (.mov (.c (.bool false)))]) [2] (.ret)) (.skip)))) [1, 3] (.region false [oo 19 (.mov (.s 3)),oo 20 (.bin .add false (.s 19) (.c (.int .i64 1))),oo 3 (.mov (.s 20))])))))) [] (.seq (
 .region false [oo 2 (.mov (.c (.bool true)))]) [2] (.ret))))⟩
def tf98 : TFn := ⟨24, [.tmp 4],.seq (.region false [oo 4 (.mov (.c (.fsl [])))]) [0, 1] (.seq (.seq (.region false [oo 7 (.mov (.s 0)),oo 8 (.call 102 [(.s 7)]),oo 9 (.un .not (.s 8)),oo 10 (.mov (.s 9)),⟨some 11, .mov (.s 1), (some (10, false))⟩,⟨some 12, .call 102 [(.s 11)], (some (10, false))⟩,
 ⟨some 13, .un .not (.s 12), (some (10, false))⟩,oo 14 (.pick (.s 10) (.c (.bool true)) (.s 13))]) [0, 1, 14] (.cond (.s 14) (.seq (.region false [oo 4 (.mov (.c (.fsl [])))]) [4] (.ret)) (.skip))) [0, 1] (.seq (.region false [oo 16 (.mov (.s 0)),oo 17 (.append 14 108 144 (.c (.fsl [])) (.s 16)),
 oo 18 (.mov (.s 1)),oo 19 (.append 14 108 144 (.s 17) (.s 18)),oo 20 (.call 104 [(.s 19)]),oo 15 (.mov (.s 20)),oo 21 (.extract 0 (.s 15)),oo 22 (.extract 1 (.s 15)),oo 5 (.mov (.s 21)),oo 6 (.mov (.s 22))]) [5] (.seq (.region false [oo 23 (.mov (.s 5)),oo 4 (.mov (.s 23))]) [4] (.ret))))⟩
def tf99 : TFn := ⟨42, [.tmp 2],.seq (.region false [oo 2 (.mov (.c (.fsl [])))]) [0] (.seq (.seq (.region false [oo 6 (.mov (.s 0)),oo 7 (.call 102 [(.s 6)]),oo 8 (.un .not (.s 7))]) [0, 8] (.cond (.s 8) (.seq (.region false [oo 2 (.mov (.c (.fsl [])))]) [2] (.ret)) (.skip))) [0] (.seq (
 .region false [oo 3 (.mov (.c (.fsl [])))]) [0, 3] (.seq (.region false [oo 9 (.mov (.s 0)),oo 10 (.call 105 [(.s 9)]),oo 4 (.mov (.s 10))]) [0, 3, 4] (.seq (.seq (.region false [oo 5 (.mov (.c (.int .i64 0)))]) [0, 3, 4, 5] (.block 0 (.loop (.seq (.seq (.region false [oo 11 (.mov (.s 5)),
 oo 12 (.bin .add false (.s 11) (.c (.int .i64 1))),oo 13 (.mov (.s 4)),oo 14 (.len (.s 13)),oo 15 (.bin .lss false (.s 12) (.s 14))]) [0, 3, 4, 5, 15] (.cond (.s 15) (.skip) (.exit 0))) [0, 3, 4, 5] (.seq (.block 1 (.seq (.region true [oo 18 (.mov (.s 0)),oo 19 (.mov (.s 4)),oo 20 (.mov (.s 5)),
 oo 21 (.indexAddr 7 (.s 19) (.s 20)),oo 22 (.load true 7 (.s 21)),oo 23 (.mov (.s 4)),oo 24 (.mov (.s 5)),oo 25 (.bin .add false (.s 24) (.c (.int .i64 1))),oo 26 (.indexAddr 7 (.s 23) (.s 25)),oo 27 (.load true 7 (.s 26)),oo 28 (.call 106 [(.s 18), (.s 22), (.s 27)]),
 oo 29 (.un .not (.s 28))]) [0, 3, 4, 5, 29] (.cond (.s 29) (.region true [oo 30 (.mov (.s 3)),oo 31 (.mov (.s 4)),oo 32 (.mov (.s 5)),oo 33 (.indexAddr 7 (.s 31) (.s 32)),oo 34 (.load true 7 (.s 33)),oo 35 (.mov (.s 4)),oo 36 (.mov (.s 5)),oo 37 (.bin .add false (.s 36) (.c (.int .i64 1))),
 oo 38 (.indexAddr 7 (.s 35) (.s 37)),oo 39 (.load true 7 (.s 38)),oo 40 (.call 107 [(.s 30), (.s 34), (.s 39)]),oo 3 (.mov (.s 40))]) (.skip)))) [0, 3, 4, 5] (.region false [oo 16 (.mov (.s 5)),oo 17 (.bin .add false (.s 16) (.c (.int .i64 1))),oo 5 (.mov (.s 17))])))))) [3] (.seq (
 .region false [oo 41 (.mov (.s 3)),oo 2 (.mov (.s 41))]) [2] (.ret))))))⟩
def tf100 : TFn := ⟨24, [.tmp 4],.seq (.region false [oo 2 (.box 74 (.s 0)),oo 3 (.box 67 (.s 1)),oo 4 (.mov (.c (.bool false)))]) [2, 3] (.seq (.seq (.region false [oo 5 (.load true 2 (.s 2)),oo 6 (.call 97 [(.s 5)]),oo 7 (.un .not (.s 6)),oo 8 (.mov (.s 7)),
 ⟨some 9, .load true 5 (.s 3), (some (8, false))⟩,⟨some 10, .call 55 [(.s 9)], (some (8, false))⟩,⟨some 11, .un .not (.s 10), (some (8, false))⟩,oo 12 (.pick (.s 8) (.c (.bool true)) (.s 11))]) [2, 3, 12] (.cond (.s 12) (.seq (.region false [oo 4 (.mov (.c (.bool false)))]) [4] (.ret)) (
 .skip))) [2, 3] (.seq (.seq (.region false [oo 13 (.fieldAddr 3 (.s 3)),oo 14 (.load false 1 (.s 13)),oo 15 (.bin .eql false (.s 14) (.c (.str [])))]) [2, 3, 15] (.cond (.s 15) (.seq (.region false [oo 16 (.fieldAddr 0 (.s 2)),oo 17 (.load false 1 (.s 16)),oo 18 (.load true 5 (.s 3)),
 oo 19 (.call 108 [(.s 17), (.s 18)]),oo 4 (.mov (.s 19))]) [4] (.ret)) (.skip))) [2, 3] (.seq (.region false [oo 20 (.fieldAddr 1 (.s 2)),oo 21 (.load false 1 (.s 20)),oo 22 (.load true 5 (.s 3)),oo 23 (.call 108 [(.s 21), (.s 22)]),oo 4 (.mov (.s 23))]) [4] (.ret))))⟩
def tf101 : TFn := ⟨9, [.tmp 2],.seq (.region false [oo 2 (.mov (.c (.bool false)))]) [0] (.seq (.region false [oo 3 (.mov (.s 0)),oo 4 (.bin .geq false (.s 3) (.c (.int .u8 48))),oo 5 (.mov (.s 4)),⟨some 6, .mov (.s 0), (some (5, true))⟩,
 ⟨some 7, .bin .leq false (.s 6) (.c (.int .u8 57)), (some (5, true))⟩,oo 8 (.pick (.s 5) (.s 7) (.c (.bool false))),oo 2 (.mov (.s 8))]) [2] (.ret))⟩
def tf102 : TFn := ⟨35, [.tmp 2],.seq (.region false [oo 2 (.mov (.c (.bool false)))]) [0] (.seq (.seq (.region false [oo 3 (.mov (.c (.int .i64 0)))]) [0, 3] (.block 0 (.loop (.seq (.seq (.region false [oo 4 (.mov (.s 3)),oo 5 (.mov (.s 0)),oo 6 (.len (.s 5)),
 oo 7 (.bin .lss false (.s 4) (.s 6))]) [0, 3, 7] (.cond (.s 7) (.skip) (.exit 0))) [0, 3] (.seq (.block 1 (.seq (.region true [oo 10 (.mov (.s 0)),oo 11 (.mov (.s 3)),oo 12 (.indexAddr 14 (.s 10) (.s 11)),oo 13 (.load true 14 (.s 12)),oo 14 (.call 109 [(.s 13)]),oo 15 (.un .not (.s 14)),
 oo 16 (.mov (.s 15)),⟨some 17, .mov (.s 3), (some (16, false))⟩,⟨some 18, .bin .gtr false (.s 17) (.c (.int .i64 0)), (some (16, false))⟩,⟨some 19, .mov (.s 18), (some (16, false))⟩,⟨some 20, .mov (.s 0), (some (19, true))⟩,⟨some 21, .mov (.s 3), (some (19, true))⟩,
 ⟨some 22, .bin .sub false (.s 21) (.c (.int .i64 1)), (some (19, true))⟩,⟨some 23, .indexAddr 14 (.s 20) (.s 22), (some (19, true))⟩,⟨some 24, .fieldAddr 7 (.s 23), (some (19, true))⟩,⟨some 25, .load true 7 (.s 24), (some (19, true))⟩,⟨some 26, .mov (.s 0), (some (19, true))⟩,
 ⟨some 27, .mov (.s 3), (some (19, true))⟩,⟨some 28, .indexAddr 14 (.s 26) (.s 27), (some (19, true))⟩,⟨some 29, .fieldAddr 0 (.s 28), (some (19, true))⟩,⟨some 30, .load true 7 (.s 29), (some (19, true))⟩,⟨some 31, .call 110 [(.s 25), (.s 30)], (some (19, true))⟩,
 ⟨some 32, .bin .geq false (.s 31) (.c (.int .i64 0)), (some (19, true))⟩,⟨some 33, .pick (.s 19) (.s 32) (.c (.bool false)), (some (16, false))⟩,oo 34 (.pick (.s 16) (.c (.bool true)) (.s 33))]) [0, 3, 34] (.cond (.s 34) (.seq (.region false [oo 2 (.mov (.c (.bool false)))]) [2] (.ret)) (
 .skip)))) [0, 3] (.region false [oo 8 (.mov (.s 3)),oo 9 (.bin .add false (.s 8) (.c (.int .i64 1))),oo 3 (.mov (.s 9))])))))) [] (.seq (.region false [oo 2 (.mov (.c (.bool true)))]) [2] (.ret)))⟩
def tf103 : TFn := ⟨23, [.tmp 2],.seq (.region false [oo 1 (.box 105 (.s 0)),oo 2 (.mov (.c (.bool false)))]) [1] (.seq (.region false [oo 3 (.fieldAddr 0 (.s 1)),oo 4 (.load false 1 (.s 3)),oo 5 (.bin .neq false (.s 4) (.c (.int .i64 0))),oo 6 (.mov (.s 5)),
 ⟨some 7, .fieldAddr 6 (.s 1), (some (6, false))⟩,⟨some 8, .load false 1 (.s 7), (some (6, false))⟩,⟨some 9, .un .not (.s 8), (some (6, false))⟩,⟨some 10, .mov (.s 9), (some (6, false))⟩,⟨some 11, .fieldAddr 1 (.s 1), (some (10, true))⟩,⟨some 12, .fieldAddr 3 (.s 11), (some (10, true))⟩,
 ⟨some 13, .load false 1 (.s 12), (some (10, true))⟩,⟨some 14, .bin .eql false (.s 13) (.c (.str [])), (some (10, true))⟩,⟨some 15, .pick (.s 10) (.s 14) (.c (.bool false)), (some (6, false))⟩,⟨some 16, .mov (.s 15), (some (6, false))⟩,⟨some 17, .fieldAddr 1 (.s 1), (some (16, true))⟩,
 ⟨some 18, .load true 5 (.s 17), (some (16, true))⟩,⟨some 19, .call 79 [(.s 18)], (some (16, true))⟩,⟨some 20, .un .not (.s 19), (some (16, true))⟩,⟨some 21, .pick (.s 16) (.s 20) (.c (.bool false)), (some (6, false))⟩,oo 22 (.pick (.s 6) (.c (.bool true)) (.s 21)),oo 2 (.mov (.s 22))]) [2] (
 .ret))⟩
def tf104 : TFn := ⟨52, [.tmp 2, .tmp 3],.seq (.region false [oo 2 (.mov (.c (.fsl []))),oo 3 (.mov (.c (.bool false)))]) [0] (.seq (.seq (.region false [oo 4 (.mov (.c (.int .i64 0)))]) [0, 4] (.block 0 (.loop (.seq (.seq (.region false [oo 8 (.mov (.s 4)),oo 9 (.mov (.s 0)),oo 10 (.len (.s 9)),
 oo 11 (.bin .lss false (.s 8) (.s 10))]) [0, 4, 11] (.cond (.s 11) (.skip) (.exit 0))) [0, 4] (.seq (.block 1 (.seq (.region false [oo 14 (.mov (.s 0)),oo 15 (.mov (.s 4)),oo 16 (.indexAddr 14 (.s 14) (.s 15)),oo 17 (.load true 14 (.s 16)),oo 18 (.call 109 [(.s 17)]),
 oo 19 (.un .not (.s 18))]) [0, 4, 19] (.cond (.s 19) (.seq (.region false [oo 2 (.mov (.c (.fsl []))),oo 3 (.mov (.c (.bool false)))]) [2, 3] (.ret)) (.skip)))) [0, 4] (.region false [oo 12 (.mov (.s 4)),oo 13 (.bin .add false (.s 12) (.c (.int .i64 1))),oo 4 (.mov (.s 13))])))))) [0] (.seq (
 .region false [oo 5 (.mov (.c (.fsl [])))]) [0, 5] (.seq (.region false [oo 20 (.mov (.s 0)),oo 21 (.call 105 [(.s 20)]),oo 6 (.mov (.s 21))]) [0, 5, 6] (.seq (.seq (.region false [oo 7 (.mov (.c (.int .i64 0)))]) [0, 5, 6, 7] (.block 2 (.loop (.seq (.seq (.region false [oo 22 (.mov (.s 7)),
 oo 23 (.bin .add false (.s 22) (.c (.int .i64 1))),oo 24 (.mov (.s 6)),oo 25 (.len (.s 24)),oo 26 (.bin .lss false (.s 23) (.s 25))]) [0, 5, 6, 7, 26] (.cond (.s 26) (.skip) (.exit 2))) [0, 5, 6, 7] (.seq (.block 3 (.seq (.region true [oo 29 (.mov (.s 0)),oo 30 (.mov (.s 6)),oo 31 (.mov (.s 7)),
 oo 32 (.indexAddr 7 (.s 30) (.s 31)),oo 33 (.load true 7 (.s 32)),oo 34 (.mov (.s 6)),oo 35 (.mov (.s 7)),oo 36 (.bin .add false (.s 35) (.c (.int .i64 1))),oo 37 (.indexAddr 7 (.s 34) (.s 36)),oo 38 (.load true 7 (.s 37)),oo 39 (.call 106 [(.s 29), (.s 33), (.s 38)])]) [0, 5, 6, 7, 39] (
 .cond (.s 39) (.region true [oo 40 (.mov (.s 5)),oo 41 (.mov (.s 6)),oo 42 (.mov (.s 7)),oo 43 (.indexAddr 7 (.s 41) (.s 42)),oo 44 (.load true 7 (.s 43)),oo 45 (.mov (.s 6)),oo 46 (.mov (.s 7)),oo 47 (.bin .add false (.s 46) (.c (.int .i64 1))),oo 48 (.indexAddr 7 (.s 45) (.s 47)),
 oo 49 (.load true 7 (.s 48)),oo 50 (.call 107 [(.s 40), (.s 44), (.s 49)]),oo 5 (.mov (.s 50))]) (.skip)))) [0, 5, 6, 7] (.region false [oo 27 (.mov (.s 7)),oo 28 (.bin .add false (.s 27) (.c (.int .i64 1))),oo 7 (.mov (.s 28))])))))) [5] (.seq (.region false [oo 51 (.mov (.s 5)),
 oo 2 (.mov (.s 51)),oo 3 (.mov (.c (.bool true)))]) [2, 3] (.ret))))))⟩
def tf105 : TFn := ⟨28, [.tmp 2],.seq (.region false [oo 2 (.mov (.c (.fsl [])))]) [0] (.seq (.region false [oo 5 (.call 80 []),oo 6 (.call 82 []),oo 7 (.buildSlice 7 105 [(.s 5), (.s 6)]),oo 3 (.mov (.s 7))]) [0, 3] (.seq (.seq (.region false [oo 4 (.mov (.c (.int .i64 0)))]) [0, 3, 4] (.block 0 (
 .loop (.seq (.seq (.region false [oo 8 (.mov (.s 4)),oo 9 (.mov (.s 0)),oo 10 (.len (.s 9)),oo 11 (.bin .lss false (.s 8) (.s 10))]) [0, 3, 4, 11] (.cond (.s 11) (.skip) (.exit 0))) [0, 3, 4] (.seq (.block 1 (.region true [oo 14 (.mov (.s 3)),oo 15 (.mov (.s 0)),oo 16 (.mov (.s 4)),
 oo 17 (.indexAddr 14 (.s 15) (.s 16)),oo 18 (.fieldAddr 0 (.s 17)),oo 19 (.load true 7 (.s 18)),oo 20 (.call 111 [(.s 14), (.s 19)]),oo 21 (.mov (.s 0)),oo 22 (.mov (.s 4)),oo 23 (.indexAddr 14 (.s 21) (.s 22)),oo 24 (.fieldAddr 7 (.s 23)),oo 25 (.load true 7 (.s 24)),
 oo 26 (.call 111 [(.s 20), (.s 25)]),oo 3 (.mov (.s 26))])) [0, 3, 4] (.region false [oo 12 (.mov (.s 4)),oo 13 (.bin .add false (.s 12) (.c (.int .i64 1))),oo 4 (.mov (.s 13))])))))) [3] (.seq (.region false [oo 27 (.mov (.s 3)),oo 2 (.mov (.s 27))]) [2] (.ret))))⟩
def tf106 : TFn := ⟨32, [.tmp 6],.seq (.region false [oo 4 (.box 105 (.s 1)),oo 5 (.box 105 (.s 2)),oo 6 (.mov (.c (.bool false)))]) [0, 4, 5] (.seq (.seq (.region false [oo 7 (.mov (.c (.int .i64 0)))]) [0, 4, 5, 7] (.block 0 (.loop (.seq (.seq (.region false [oo 8 (.mov (.s 7)),
 oo 9 (.mov (.s 0)),oo 10 (.len (.s 9)),oo 11 (.bin .lss false (.s 8) (.s 10))]) [0, 4, 5, 7, 11] (.cond (.s 11) (.skip) (.exit 0))) [0, 4, 5, 7] (.seq (.block 1 (.seq (.region true [oo 14 (.mov (.s 0)),oo 15 (.mov (.s 7)),oo 16 (.indexAddr 14 (.s 14) (.s 15)),oo 17 (.fieldAddr 0 (.s 16)),
 oo 18 (.load true 7 (.s 17)),oo 19 (.load true 7 (.s 4)),oo 20 (.call 110 [(.s 18), (.s 19)]),oo 21 (.bin .leq false (.s 20) (.c (.int .i64 0))),oo 22 (.mov (.s 21)),⟨some 23, .load true 7 (.s 5), (some (22, true))⟩,⟨some 24, .mov (.s 0), (some (22, true))⟩,
 ⟨some 25, .mov (.s 7), (some (22, true))⟩,⟨some 26, .indexAddr 14 (.s 24) (.s 25), (some (22, true))⟩,⟨some 27, .fieldAddr 7 (.s 26), (some (22, true))⟩,⟨some 28, .load true 7 (.s 27), (some (22, true))⟩,⟨some 29, .call 110 [(.s 23), (.s 28)], (some (22, true))⟩,
 ⟨some 30, .bin .leq false (.s 29) (.c (.int .i64 0)), (some (22, true))⟩,oo 31 (.pick (.s 22) (.s 30) (.c (.bool false)))]) [0, 4, 5, 7, 31] (.cond (.s 31) (.seq (.region false [oo 6 (.mov (.c (.bool true)))]) [6] (.ret)) (.skip)))) [0, 4, 5, 7] (.region false [oo 12 (.mov (.s 7)),
 oo 13 (.bin .add false (.s 12) (.c (.int .i64 1))),oo 7 (.mov (.s 13))])))))) [] (.seq (.region false [oo 6 (.mov (.c (.bool false)))]) [6] (.ret)))⟩
def tf107 : TFn := ⟨35, [.tmp 6],.seq (.region false [oo 4 (.box 105 (.s 1)),oo 5 (.box 105 (.s 2)),oo 6 (.mov (.c (.fsl [])))]) [0, 4, 5] (.seq (.seq (.region false [oo 8 (.mov (.s 0)),oo 9 (.len (.s 8)),oo 10 (.bin .sub false (.s 9) (.c (.int .i64 1))),oo 7 (.mov (.s 10))]) [0, 4, 5, 7] (.seq (
 .region true [oo 11 (.mov (.s 7)),oo 12 (.bin .geq false (.s 11) (.c (.int .i64 0))),oo 13 (.mov (.s 12)),⟨some 14, .mov (.s 0), (some (13, true))⟩,⟨some 15, .mov (.s 7), (some (13, true))⟩,⟨some 16, .indexAddr 14 (.s 14) (.s 15), (some (13, true))⟩,
 ⟨some 17, .fieldAddr 7 (.s 16), (some (13, true))⟩,⟨some 18, .load true 7 (.s 17), (some (13, true))⟩,⟨some 19, .load true 7 (.s 4), (some (13, true))⟩,⟨some 20, .call 110 [(.s 18), (.s 19)], (some (13, true))⟩,⟨some 21, .bin .eql false (.s 20) (.c (.int .i64 0)), (some (13, true))⟩,
 oo 22 (.pick (.s 13) (.s 21) (.c (.bool false)))]) [0, 4, 5, 7, 22] (.cond (.s 22) (.seq (.region false [oo 23 (.mov (.s 0)),oo 24 (.mov (.s 7)),oo 25 (.load true 7 (.s 5)),oo 26 (.indexAddr 14 (.s 23) (.s 24)),oo 27 (.fieldAddr 7 (.s 26)),⟨none, .store 7 (.s 27) (.s 25), none⟩]) [0] (.seq (
 .region false [oo 28 (.mov (.s 0)),oo 6 (.mov (.s 28))]) [6] (.ret))) (.skip)))) [0, 4, 5] (.seq (.region false [oo 29 (.mov (.s 0)),oo 30 (.load true 7 (.s 4)),oo 31 (.load true 7 (.s 5)),
 oo 32 (.build [(.int .i64 0), (.int .i64 0), (.int .i64 0), (.int .i64 0), (.str []), (.str []), (.bool false), (.int .i64 0), (.int .i64 0), (.int .i64 0), (.int .i64 0), (.str []), (.str []), (.bool false)] [(0, 7, (.s 30)), (7, 7, (.s 31))]),oo 33 (.buildSlice 14 108 [(.s 32)]),
 oo 34 (.append 14 108 144 (.s 29) (.s 33)),oo 6 (.mov (.s 34))]) [6] (.ret)))⟩
def tf108 : TFn := ⟨22, [.tmp 4],.seq (.region false [oo 3 (.box 67 (.s 1)),oo 4 (.mov (.c (.bool false)))]) [0, 3] (.seq (.seq (.region false [oo 5 (.mov (.c (.int .i64 0)))]) [0, 3, 5] (.block 0 (.loop (.seq (.seq (.region false [oo 6 (.mov (.s 5)),oo 7 (.mov (.s 0)),oo 8 (.len (.s 7)),
 oo 9 (.bin .lss false (.s 6) (.s 8)),oo 10 (.mov (.s 9)),⟨some 11, .mov (.s 0), (some (10, true))⟩,⟨some 12, .call 102 [(.s 11)], (some (10, true))⟩,oo 13 (.pick (.s 10) (.s 12) (.c (.bool false)))]) [0, 3, 5, 13] (.cond (.s 13) (.skip) (.exit 0))) [0, 3, 5] (.seq (.block 1 (.seq (
 .region true [oo 16 (.mov (.s 0)),oo 17 (.mov (.s 5)),oo 18 (.indexAddr 14 (.s 16) (.s 17)),oo 19 (.load true 14 (.s 18)),oo 20 (.load true 5 (.s 3)),oo 21 (.call 112 [(.s 19), (.s 20)])]) [0, 3, 5, 21] (.cond (.s 21) (.seq (.region false [oo 4 (.mov (.c (.bool true)))]) [4] (.ret)) (
 .skip)))) [0, 3, 5] (.region false [oo 14 (.mov (.s 5)),oo 15 (.bin .add false (.s 14) (.c (.int .i64 1))),oo 5 (.mov (.s 15))])))))) [] (.seq (.region false [oo 4 (.mov (.c (.bool false)))]) [4] (.ret)))⟩
def tf109 : TFn := ⟨19, [.tmp 2],.seq (.region false [oo 1 (.box 108 (.s 0)),oo 2 (.mov (.c (.bool false)))]) [1] (.seq (.region false [oo 3 (.fieldAddr 0 (.s 1)),oo 4 (.load true 7 (.s 3)),oo 5 (.call 113 [(.s 4)]),oo 6 (.mov (.s 5)),⟨some 7, .fieldAddr 7 (.s 1), (some (6, true))⟩,
 ⟨some 8, .load true 7 (.s 7), (some (6, true))⟩,⟨some 9, .call 113 [(.s 8)], (some (6, true))⟩,oo 10 (.pick (.s 6) (.s 9) (.c (.bool false))),oo 11 (.mov (.s 10)),⟨some 12, .fieldAddr 0 (.s 1), (some (11, true))⟩,⟨some 13, .load true 7 (.s 12), (some (11, true))⟩,
 ⟨some 14, .fieldAddr 7 (.s 1), (some (11, true))⟩,⟨some 15, .load true 7 (.s 14), (some (11, true))⟩,⟨some 16, .call 110 [(.s 13), (.s 15)], (some (11, true))⟩,⟨some 17, .bin .lss false (.s 16) (.c (.int .i64 0)), (some (11, true))⟩,oo 18 (.pick (.s 11) (.s 17) (.c (.bool false))),
 oo 2 (.mov (.s 18))]) [2] (.ret))⟩
def tf110 : TFn := ⟨46, [.tmp 4],.seq (.region false [oo 2 (.box 105 (.s 0)),oo 3 (.box 105 (.s 1)),oo 4 (.mov (.c (.int .i64 0)))]) [2, 3] (.seq (.seq (.region false [oo 6 (.load true 7 (.s 2)),oo 7 (.call 113 [(.s 6)]),oo 8 (.un .not (.s 7)),oo 9 (.mov (.s 8)),
 ⟨some 10, .load true 7 (.s 3), (some (9, false))⟩,⟨some 11, .call 113 [(.s 10)], (some (9, false))⟩,⟨some 12, .un .not (.s 11), (some (9, false))⟩,oo 13 (.pick (.s 9) (.c (.bool true)) (.s 12))]) [2, 3, 13] (.cond (.s 13) (.seq (.region false [oo 4 (.mov (.c (.int .i64 0)))]) [4] (.ret)) (
 .skip))) [2, 3] (.seq (.seq (.region false [oo 14 (.fieldAddr 0 (.s 2)),oo 15 (.load false 1 (.s 14)),oo 16 (.fieldAddr 0 (.s 3)),oo 17 (.load false 1 (.s 16)),oo 18 (.bin .neq false (.s 15) (.s 17)),oo 19 (.mov (.s 18)),⟨some 20, .fieldAddr 0 (.s 2), (some (19, false))⟩,
 ⟨some 21, .load false 1 (.s 20), (some (19, false))⟩,⟨some 22, .bin .neq false (.s 21) (.c (.int .i64 0)), (some (19, false))⟩,oo 23 (.pick (.s 19) (.c (.bool true)) (.s 22))]) [2, 3, 23] (.cond (.s 23) (.seq (.region false [oo 24 (.fieldAddr 0 (.s 2)),oo 25 (.load false 1 (.s 24)),
 oo 26 (.fieldAddr 0 (.s 3)),oo 27 (.load false 1 (.s 26)),oo 28 (.call 114 [(.s 25), (.s 27)]),oo 4 (.mov (.s 28))]) [4] (.ret)) (.skip))) [2, 3] (.seq (.seq (.region false [oo 29 (.fieldAddr 1 (.s 2)),oo 30 (.load true 5 (.s 29)),oo 31 (.fieldAddr 1 (.s 3)),oo 32 (.load true 5 (.s 31)),
 oo 33 (.call 115 [(.s 30), (.s 32)]),oo 5 (.mov (.s 33))]) [2, 3, 5] (.seq (.region false [oo 34 (.mov (.s 5)),oo 35 (.bin .neq false (.s 34) (.c (.int .i64 0)))]) [2, 3, 5, 35] (.cond (.s 35) (.seq (.region false [oo 36 (.mov (.s 5)),oo 4 (.mov (.s 36))]) [4] (.ret)) (.skip)))) [2, 3] (.seq (
 .block 0 (.seq (.region false [oo 38 (.fieldAddr 6 (.s 2)),oo 39 (.load false 1 (.s 38)),oo 40 (.fieldAddr 6 (.s 3)),oo 41 (.load false 1 (.s 40)),oo 42 (.bin .eql true (.s 39) (.s 41)),oo 37 (.mov (.s 42))]) [3, 37] (.cond (.s 37) (.seq (.region false [oo 4 (.mov (.c (.int .i64 0)))]) [4] (
 .ret)) (.seq (.region false [oo 44 (.fieldAddr 6 (.s 3)),oo 45 (.load false 1 (.s 44)),oo 43 (.mov (.s 45))]) [43] (.cond (.s 43) (.seq (.region false [oo 4 (.mov (.c (.int .i64 (-1))))]) [4] (.ret)) (.skip)))))) [] (.seq (.region false [oo 4 (.mov (.c (.int .i64 1)))]) [4] (.ret))))))⟩
def tf111 : TFn := ⟨46, [.tmp 4],.seq (.region false [oo 3 (.box 105 (.s 1)),oo 4 (.mov (.c (.fsl [])))]) [0, 3] (.seq (.region false [oo 5 (.mov (.c (.int .i64 0)))]) [0, 3, 5] (.seq (.block 0 (.loop (.seq (.seq (.region true [oo 6 (.mov (.s 5)),oo 7 (.mov (.s 0)),oo 8 (.len (.s 7)),
 oo 9 (.bin .lss false (.s 6) (.s 8)),oo 10 (.mov (.s 9)),⟨some 11, .mov (.s 0), (some (10, true))⟩,⟨some 12, .mov (.s 5), (some (10, true))⟩,⟨some 13, .indexAddr 7 (.s 11) (.s 12), (some (10, true))⟩,⟨some 14, .load true 7 (.s 13), (some (10, true))⟩,
 ⟨some 15, .load true 7 (.s 3), (some (10, true))⟩,⟨some 16, .call 110 [(.s 14), (.s 15)], (some (10, true))⟩,⟨some 17, .bin .lss false (.s 16) (.c (.int .i64 0)), (some (10, true))⟩,oo 18 (.pick (.s 10) (.s 17) (.c (.bool false)))]) [0, 3, 5, 18] (.cond (.s 18) (.skip) (.exit 0))) [0, 3, 5] (
 .block 1 (.region false [oo 19 (.mov (.s 5)),oo 20 (.bin .add false (.s 19) (.c (.int .i64 1))),oo 5 (.mov (.s 20))]))))) [0, 3, 5] (.seq (.seq (.region true [oo 21 (.mov (.s 5)),oo 22 (.mov (.s 0)),oo 23 (.len (.s 22)),oo 24 (.bin .lss false (.s 21) (.s 23)),oo 25 (.mov (.s 24)),
 ⟨some 26, .mov (.s 0), (some (25, true))⟩,⟨some 27, .mov (.s 5), (some (25, true))⟩,⟨some 28, .indexAddr 7 (.s 26) (.s 27), (some (25, true))⟩,⟨some 29, .load true 7 (.s 28), (some (25, true))⟩,⟨some 30, .load true 7 (.s 3), (some (25, true))⟩,
 ⟨some 31, .call 110 [(.s 29), (.s 30)], (some (25, true))⟩,⟨some 32, .bin .eql false (.s 31) (.c (.int .i64 0)), (some (25, true))⟩,oo 33 (.pick (.s 25) (.s 32) (.c (.bool false)))]) [0, 3, 5, 33] (.cond (.s 33) (.seq (.region false [oo 34 (.mov (.s 0)),oo 4 (.mov (.s 34))]) [4] (.ret)) (
 .skip))) [0, 3, 5] (.seq (.region true [oo 35 (.mov (.s 0)),oo 36 (.mov (.s 5)),oo 37 (.slice 7 (.s 35) none (some (.s 36)) none),oo 38 (.append 7 105 72 (.c (.fsl [])) (.s 37)),oo 39 (.load true 7 (.s 3)),oo 40 (.buildSlice 7 105 [(.s 39)]),oo 41 (.append 7 105 72 (.s 38) (.s 40)),
 oo 42 (.mov (.s 0)),oo 43 (.mov (.s 5)),oo 44 (.slice 7 (.s 42) (some (.s 43)) none none),oo 45 (.append 7 105 72 (.s 41) (.s 44)),oo 4 (.mov (.s 45))]) [4] (.ret)))))⟩
def tf112 : TFn := ⟨24, [.tmp 4],.seq (.region false [oo 2 (.box 108 (.s 0)),oo 3 (.box 67 (.s 1)),oo 4 (.mov (.c (.bool false)))]) [2, 3] (.seq (.region false [oo 5 (.load true 14 (.s 2)),oo 6 (.call 109 [(.s 5)]),oo 7 (.mov (.s 6)),⟨some 8, .load true 5 (.s 3), (some (7, true))⟩,
 ⟨some 9, .call 55 [(.s 8)], (some (7, true))⟩,oo 10 (.pick (.s 7) (.s 9) (.c (.bool false))),oo 11 (.mov (.s 10)),⟨some 12, .fieldAddr 0 (.s 2), (some (11, true))⟩,⟨some 13, .load true 7 (.s 12), (some (11, true))⟩,⟨some 14, .load true 5 (.s 3), (some (11, true))⟩,
 ⟨some 15, .call 116 [(.s 13), (.s 14)], (some (11, true))⟩,oo 16 (.pick (.s 11) (.s 15) (.c (.bool false))),oo 17 (.mov (.s 16)),⟨some 18, .fieldAddr 7 (.s 2), (some (17, true))⟩,⟨some 19, .load true 7 (.s 18), (some (17, true))⟩,⟨some 20, .load true 5 (.s 3), (some (17, true))⟩,
 ⟨some 21, .call 116 [(.s 19), (.s 20)], (some (17, true))⟩,⟨some 22, .un .not (.s 21), (some (17, true))⟩,oo 23 (.pick (.s 17) (.s 22) (.c (.bool false))),oo 4 (.mov (.s 23))]) [4] (.ret))⟩
def tf113 : TFn := ⟨34, [.tmp 2],.seq (.region false [oo 1 (.box 105 (.s 0)),oo 2 (.mov (.c (.bool false)))]) [1] (.seq (.seq (.region false [oo 3 (.fieldAddr 0 (.s 1)),oo 4 (.load false 1 (.s 3)),oo 5 (.bin .eql false (.s 4) (.c (.int .i64 0)))]) [1, 5] (.cond (.s 5) (.seq (
 .region false [oo 6 (.fieldAddr 1 (.s 1)),oo 7 (.load true 5 (.s 6)),oo 8 (.call 55 [(.s 7)]),oo 9 (.mov (.s 8)),⟨some 10, .fieldAddr 1 (.s 1), (some (9, true))⟩,⟨some 11, .fieldAddr 4 (.s 10), (some (9, true))⟩,⟨some 12, .load false 1 (.s 11), (some (9, true))⟩,
 ⟨some 13, .bin .eql false (.s 12) (.c (.str [])), (some (9, true))⟩,oo 14 (.pick (.s 9) (.s 13) (.c (.bool false))),oo 2 (.mov (.s 14))]) [2] (.ret)) (.skip))) [1] (.seq (.region false [oo 15 (.fieldAddr 0 (.s 1)),oo 16 (.load false 1 (.s 15)),oo 17 (.bin .eql false (.s 16) (.c (.int .i64 (-1)))),
 oo 18 (.mov (.s 17)),⟨some 19, .fieldAddr 0 (.s 1), (some (18, false))⟩,⟨some 20, .load false 1 (.s 19), (some (18, false))⟩,⟨some 21, .bin .eql false (.s 20) (.c (.int .i64 1)), (some (18, false))⟩,oo 22 (.pick (.s 18) (.c (.bool true)) (.s 21)),oo 23 (.mov (.s 22)),
 ⟨some 24, .fieldAddr 1 (.s 1), (some (23, true))⟩,⟨some 25, .load true 5 (.s 24), (some (23, true))⟩,⟨some 26, .build [(.int .i64 0), (.int .i64 0), (.int .i64 0), (.str []), (.str [])] [], (some (23, true))⟩,⟨some 27, .eqs false [0, 0, 0, 2, 2] (.s 25) (.s 26), (some (23, true))⟩,
 oo 28 (.pick (.s 23) (.s 27) (.c (.bool false))),oo 29 (.mov (.s 28)),⟨some 30, .fieldAddr 6 (.s 1), (some (29, true))⟩,⟨some 31, .load false 1 (.s 30), (some (29, true))⟩,⟨some 32, .un .not (.s 31), (some (29, true))⟩,oo 33 (.pick (.s 29) (.s 32) (.c (.bool false))),oo 2 (.mov (.s 33))]) [2] (
 .ret)))⟩
def tf114 : TFn := ⟨13, [.tmp 4],.seq (.region false [oo 4 (.mov (.c (.int .i64 0)))]) [0, 1] (.seq (.block 0 (.seq (.region false [oo 6 (.mov (.s 0)),oo 7 (.mov (.s 1)),oo 8 (.bin .lss false (.s 6) (.s 7)),oo 5 (.mov (.s 8))]) [0, 1, 5] (.cond (.s 5) (.seq (
 .region false [oo 4 (.mov (.c (.int .i64 (-1))))]) [4] (.ret)) (.seq (.region false [oo 10 (.mov (.s 0)),oo 11 (.mov (.s 1)),oo 12 (.bin .gtr false (.s 10) (.s 11)),oo 9 (.mov (.s 12))]) [9] (.cond (.s 9) (.seq (.region false [oo 4 (.mov (.c (.int .i64 1)))]) [4] (.ret)) (.skip)))))) [] (.seq (
 .region false [oo 4 (.mov (.c (.int .i64 0)))]) [4] (.ret)))⟩
def tf115 : TFn := ⟨45, [.tmp 4],.seq (.region false [oo 2 (.box 67 (.s 0)),oo 3 (.box 67 (.s 1)),oo 4 (.mov (.c (.int .i64 0)))]) [2, 3] (.seq (.seq (.region false [oo 8 (.load true 5 (.s 2)),oo 9 (.call 55 [(.s 8)]),oo 10 (.un .not (.s 9)),oo 11 (.mov (.s 10)),
 ⟨some 12, .load true 5 (.s 3), (some (11, false))⟩,⟨some 13, .call 55 [(.s 12)], (some (11, false))⟩,⟨some 14, .un .not (.s 13), (some (11, false))⟩,oo 15 (.pick (.s 11) (.c (.bool true)) (.s 14))]) [2, 3, 15] (.cond (.s 15) (.seq (.region false [oo 4 (.mov (.c (.int .i64 0)))]) [4] (.ret)) (
 .skip))) [2, 3] (.seq (.seq (.region false [oo 16 (.fieldAddr 0 (.s 2)),oo 17 (.load false 1 (.s 16)),oo 18 (.fieldAddr 0 (.s 3)),oo 19 (.load false 1 (.s 18)),oo 20 (.call 114 [(.s 17), (.s 19)]),oo 5 (.mov (.s 20))]) [2, 3, 5] (.seq (.region false [oo 21 (.mov (.s 5)),
 oo 22 (.bin .neq false (.s 21) (.c (.int .i64 0)))]) [2, 3, 5, 22] (.cond (.s 22) (.seq (.region false [oo 23 (.mov (.s 5)),oo 4 (.mov (.s 23))]) [4] (.ret)) (.skip)))) [2, 3] (.seq (.seq (.region false [oo 24 (.fieldAddr 1 (.s 2)),oo 25 (.load false 1 (.s 24)),oo 26 (.fieldAddr 1 (.s 3)),
 oo 27 (.load false 1 (.s 26)),oo 28 (.call 114 [(.s 25), (.s 27)]),oo 6 (.mov (.s 28))]) [2, 3, 6] (.seq (.region false [oo 29 (.mov (.s 6)),oo 30 (.bin .neq false (.s 29) (.c (.int .i64 0)))]) [2, 3, 6, 30] (.cond (.s 30) (.seq (.region false [oo 31 (.mov (.s 6)),oo 4 (.mov (.s 31))]) [4] (
 .ret)) (.skip)))) [2, 3] (.seq (.seq (.region false [oo 32 (.fieldAddr 2 (.s 2)),oo 33 (.load false 1 (.s 32)),oo 34 (.fieldAddr 2 (.s 3)),oo 35 (.load false 1 (.s 34)),oo 36 (.call 114 [(.s 33), (.s 35)]),oo 7 (.mov (.s 36))]) [2, 3, 7] (.seq (.region false [oo 37 (.mov (.s 7)),
 oo 38 (.bin .neq false (.s 37) (.c (.int .i64 0)))]) [2, 3, 7, 38] (.cond (.s 38) (.seq (.region false [oo 39 (.mov (.s 7)),oo 4 (.mov (.s 39))]) [4] (.ret)) (.skip)))) [2, 3] (.seq (.region false [oo 40 (.fieldAddr 3 (.s 2)),oo 41 (.load false 1 (.s 40)),oo 42 (.fieldAddr 3 (.s 3)),
 oo 43 (.load false 1 (.s 42)),oo 44 (.call 117 [(.s 41), (.s 43)]),oo 4 (.mov (.s 44))]) [4] (.ret))))))⟩
def tf116 : TFn := ⟨35, [.tmp 4],.seq (.region false [oo 2 (.box 105 (.s 0)),oo 3 (.box 67 (.s 1)),oo 4 (.mov (.c (.bool false)))]) [2, 3] (.seq (.seq (.region false [oo 6 (.load true 7 (.s 2)),oo 7 (.call 113 [(.s 6)]),oo 8 (.un .not (.s 7)),oo 9 (.mov (.s 8)),
 ⟨some 10, .load true 5 (.s 3), (some (9, false))⟩,⟨some 11, .call 55 [(.s 10)], (some (9, false))⟩,⟨some 12, .un .not (.s 11), (some (9, false))⟩,oo 13 (.pick (.s 9) (.c (.bool true)) (.s 12))]) [2, 3, 13] (.cond (.s 13) (.seq (.region false [oo 4 (.mov (.c (.bool false)))]) [4] (.ret)) (
 .skip))) [2, 3] (.seq (.seq (.region false [oo 14 (.fieldAddr 0 (.s 2)),oo 15 (.load false 1 (.s 14)),oo 16 (.bin .neq false (.s 15) (.c (.int .i64 0)))]) [2, 3, 16] (.cond (.s 16) (.seq (.region false [oo 17 (.fieldAddr 0 (.s 2)),oo 18 (.load false 1 (.s 17)),
 oo 19 (.bin .lss false (.s 18) (.c (.int .i64 0))),oo 4 (.mov (.s 19))]) [4] (.ret)) (.skip))) [2, 3] (.seq (.region false [oo 20 (.fieldAddr 1 (.s 2)),oo 21 (.load true 5 (.s 20)),oo 22 (.load true 5 (.s 3)),oo 23 (.call 115 [(.s 21), (.s 22)]),oo 5 (.mov (.s 23))]) [2, 5] (.seq (
 .region false [oo 24 (.mov (.s 5)),oo 25 (.bin .lss false (.s 24) (.c (.int .i64 0))),oo 26 (.mov (.s 25)),⟨some 27, .mov (.s 5), (some (26, false))⟩,⟨some 28, .bin .eql false (.s 27) (.c (.int .i64 0)), (some (26, false))⟩,⟨some 29, .mov (.s 28), (some (26, false))⟩,
 ⟨some 30, .fieldAddr 6 (.s 2), (some (29, true))⟩,⟨some 31, .load false 1 (.s 30), (some (29, true))⟩,⟨some 32, .un .not (.s 31), (some (29, true))⟩,⟨some 33, .pick (.s 29) (.s 32) (.c (.bool false)), (some (26, false))⟩,oo 34 (.pick (.s 26) (.c (.bool true)) (.s 33)),oo 4 (.mov (.s 34))]) [4] (
 .ret)))))⟩
def tf117 : TFn := ⟨52, [.tmp 4],.seq (.region false [oo 4 (.mov (.c (.int .i64 0)))]) [0, 1] (.seq (.block 0 (.seq (.region false [oo 10 (.mov (.s 0)),oo 11 (.mov (.s 1)),oo 12 (.bin .eql false (.s 10) (.s 11)),oo 9 (.mov (.s 12))]) [0, 1, 9] (.cond (.s 9) (.seq (
 .region false [oo 4 (.mov (.c (.int .i64 0)))]) [4] (.ret)) (.seq (.region false [oo 14 (.mov (.s 0)),oo 15 (.bin .eql false (.s 14) (.c (.str []))),oo 13 (.mov (.s 15))]) [0, 1, 13] (.cond (.s 13) (.seq (.region false [oo 4 (.mov (.c (.int .i64 1)))]) [4] (.ret)) (.seq (
 .region false [oo 17 (.mov (.s 1)),oo 18 (.bin .eql false (.s 17) (.c (.str []))),oo 16 (.mov (.s 18))]) [0, 1, 16] (.cond (.s 16) (.seq (.region false [oo 4 (.mov (.c (.int .i64 (-1))))]) [4] (.ret)) (.skip)))))))) [0, 1] (.seq (.region false [oo 19 (.mov (.s 0)),
 oo 20 (.call 92 [(.s 19), (.c (.int .u8 46))]),oo 21 (.mov (.s 1)),oo 22 (.call 92 [(.s 21), (.c (.int .u8 46))]),oo 5 (.mov (.s 20)),oo 6 (.mov (.s 22))]) [5, 6] (.seq (.seq (.region false [oo 7 (.mov (.c (.int .i64 0)))]) [5, 6, 7] (.block 1 (.loop (.seq (.seq (
 .region false [oo 23 (.mov (.s 7)),oo 24 (.mov (.s 5)),oo 25 (.len (.s 24)),oo 26 (.bin .lss false (.s 23) (.s 25)),oo 27 (.mov (.s 26)),⟨some 28, .mov (.s 7), (some (27, true))⟩,⟨some 29, .mov (.s 6), (some (27, true))⟩,⟨some 30, .len (.s 29), (some (27, true))⟩,
 ⟨some 31, .bin .lss false (.s 28) (.s 30), (some (27, true))⟩,oo 32 (.pick (.s 27) (.s 31) (.c (.bool false)))]) [5, 6, 7, 32] (.cond (.s 32) (.skip) (.exit 1))) [5, 6, 7] (.seq (.block 2 (.seq (.region true [oo 35 (.mov (.s 5)),oo 36 (.mov (.s 7)),oo 37 (.indexAddr 1 (.s 35) (.s 36)),
 oo 38 (.load false 1 (.s 37)),oo 39 (.mov (.s 6)),oo 40 (.mov (.s 7)),oo 41 (.indexAddr 1 (.s 39) (.s 40)),oo 42 (.load false 1 (.s 41)),oo 43 (.call 118 [(.s 38), (.s 42)]),oo 8 (.mov (.s 43))]) [5, 6, 7, 8] (.seq (.region false [oo 44 (.mov (.s 8)),
 oo 45 (.bin .neq false (.s 44) (.c (.int .i64 0)))]) [5, 6, 7, 8, 45] (.cond (.s 45) (.seq (.region false [oo 46 (.mov (.s 8)),oo 4 (.mov (.s 46))]) [4] (.ret)) (.skip))))) [5, 6, 7] (.region false [oo 33 (.mov (.s 7)),oo 34 (.bin .add false (.s 33) (.c (.int .i64 1))),
 oo 7 (.mov (.s 34))])))))) [5, 6] (.seq (.region false [oo 47 (.mov (.s 5)),oo 48 (.len (.s 47)),oo 49 (.mov (.s 6)),oo 50 (.len (.s 49)),oo 51 (.call 114 [(.s 48), (.s 50)]),oo 4 (.mov (.s 51))]) [4] (.ret)))))⟩
def tf118 : TFn := ⟨40, [.tmp 4],.seq (.region false [oo 4 (.mov (.c (.int .i64 0)))]) [0, 1] (.seq (.region false [oo 11 (.mov (.s 0)),oo 12 (.call 95 [(.s 11)]),oo 13 (.mov (.s 1)),oo 14 (.call 95 [(.s 13)]),oo 5 (.mov (.s 12)),oo 6 (.mov (.s 14))]) [0, 1, 5, 6] (.seq (.block 0 (.seq (
 .region false [oo 16 (.mov (.s 5)),oo 17 (.mov (.s 16)),⟨some 18, .mov (.s 6), (some (17, true))⟩,oo 19 (.pick (.s 17) (.s 18) (.c (.bool false))),oo 15 (.mov (.s 19))]) [0, 1, 5, 6, 15] (.cond (.s 15) (.seq (.region false [oo 21 (.mov (.s 0)),oo 22 (.call 94 [(.s 21)]),oo 20 (.mov (.s 22)),
 oo 23 (.extract 0 (.s 20)),oo 24 (.extract 1 (.s 20)),oo 7 (.mov (.s 23)),oo 8 (.mov (.s 24))]) [1, 7] (.seq (.region false [oo 26 (.mov (.s 1)),oo 27 (.call 94 [(.s 26)]),oo 25 (.mov (.s 27)),oo 28 (.extract 0 (.s 25)),oo 29 (.extract 1 (.s 25)),oo 9 (.mov (.s 28)),oo 10 (.mov (.s 29))]) [7, 9] (
 .seq (.region false [oo 30 (.mov (.s 7)),oo 31 (.mov (.s 9)),oo 32 (.call 114 [(.s 30), (.s 31)]),oo 4 (.mov (.s 32))]) [4] (.ret)))) (.seq (.region false [oo 34 (.mov (.s 5)),oo 33 (.mov (.s 34))]) [0, 1, 6, 33] (.cond (.s 33) (.seq (.region false [oo 4 (.mov (.c (.int .i64 (-1))))]) [4] (
 .ret)) (.seq (.region false [oo 36 (.mov (.s 6)),oo 35 (.mov (.s 36))]) [0, 1, 35] (.cond (.s 35) (.seq (.region false [oo 4 (.mov (.c (.int .i64 1)))]) [4] (.ret)) (.skip)))))))) [0, 1] (.seq (.region false [oo 37 (.mov (.s 0)),oo 38 (.mov (.s 1)),oo 39 (.call 119 [(.s 37), (.s 38)]),
 oo 4 (.mov (.s 39))]) [4] (.ret))))⟩
def tf119 : TFn := ⟨13, [.tmp 4],.seq (.region false [oo 4 (.mov (.c (.int .i64 0)))]) [0, 1] (.seq (.block 0 (.seq (.region false [oo 6 (.mov (.s 0)),oo 7 (.mov (.s 1)),oo 8 (.bin .lss false (.s 6) (.s 7)),oo 5 (.mov (.s 8))]) [0, 1, 5] (.cond (.s 5) (.seq (
 .region false [oo 4 (.mov (.c (.int .i64 (-1))))]) [4] (.ret)) (.seq (.region false [oo 10 (.mov (.s 0)),oo 11 (.mov (.s 1)),oo 12 (.bin .gtr false (.s 10) (.s 11)),oo 9 (.mov (.s 12))]) [9] (.cond (.s 9) (.seq (.region false [oo 4 (.mov (.c (.int .i64 1)))]) [4] (.ret)) (.skip)))))) [] (.seq (
 .region false [oo 4 (.mov (.c (.int .i64 0)))]) [4] (.ret)))⟩
theorem tp6 : QM Tryz.prog Tryz.f6 = some tf6.erase := by kernel_rfl
theorem tp9 : QM Tryz.prog Tryz.f9 = some tf9.erase := by kernel_rfl
theorem QrQ : QM Tryz.prog Tryz.f10 = some tf10.erase := by kernel_rfl
theorem QrR : QM Tryz.prog Tryz.f11 = some tf11.erase := by kernel_rfl
theorem QrS : QM Tryz.prog Tryz.f12 = some tf12.erase := by kernel_rfl
theorem QrT : QM Tryz.prog Tryz.f14 = some tf14.erase := by kernel_rfl
theorem QrU : QM Tryz.prog Tryz.f15 = some tf15.erase := by kernel_rfl
theorem QrV : QM Tryz.prog Tryz.f16 = some tf16.erase := by kernel_rfl
theorem QrW : QM Tryz.prog Tryz.f17 = some tf17.erase := by kernel_rfl
theorem QrX : QM Tryz.prog Tryz.f19 = some tf19.erase := by kernel_rfl
theorem QrY : QM Tryz.prog Tryz.f25 = some tf25.erase := by kernel_rfl
theorem QrZ : QM Tryz.prog Tryz.f26 = some tf26.erase := by kernel_rfl
theorem Qr0 : QM Tryz.prog Tryz.f27 = some tf27.erase := by kernel_rfl
theorem Qr1 : QM Tryz.prog Tryz.f28 = some tf28.erase := by kernel_rfl
theorem Qr2 : QM Tryz.prog Tryz.f29 = some tf29.erase := by kernel_rfl
theorem QrK : QM Tryz.prog Tryz.f30 = some tf30.erase := by kernel_rfl
theorem Qr3 : QM Tryz.prog Tryz.f31 = some tf31.erase := by kernel_rfl
theorem Qr4 : QM Tryz.prog Tryz.f32 = some tf32.erase := by kernel_rfl
theorem Qr5 : QM Tryz.prog Tryz.f33 = some tf33.erase := by kernel_rfl
theorem Qr6 : QM Tryz.prog Tryz.f34 = some tf34.erase := by kernel_rfl
theorem Qr7 : QM Tryz.prog Tryz.f35 = some tf35.erase := by kernel_rfl
theorem Qr8 : QM Tryz.prog Tryz.f36 = some tf36.erase := by kernel_rfl
theorem Qr9 : QM Tryz.prog Tryz.f37 = some tf37.erase := by kernel_rfl
theorem Qsa : QM Tryz.prog Tryz.f38 = some tf38.erase := by kernel_rfl
theorem Qsb : QM Tryz.prog Tryz.f39 = some tf39.erase := by kernel_rfl
theorem Qsc : QM Tryz.prog Tryz.f40 = some tf40.erase := by kernel_rfl
theorem Qsd : QM Tryz.prog Tryz.f41 = some tf41.erase := by kernel_rfl
theorem Qse : QM Tryz.prog Tryz.f42 = some tf42.erase := by kernel_rfl
theorem Qsf : QM Tryz.prog Tryz.f43 = some tf43.erase := by kernel_rfl
theorem Qsg : QM Tryz.prog Tryz.f44 = some tf44.erase := by kernel_rfl
theorem Qsh : QM Tryz.prog Tryz.f45 = some tf45.erase := by kernel_rfl
theorem Qsi : QM Tryz.prog Tryz.f46 = some tf46.erase := by kernel_rfl
theorem Qsj : QM Tryz.prog Tryz.f47 = some tf47.erase := by kernel_rfl
theorem Qsk : QM Tryz.prog Tryz.f50 = some tf50.erase := by kernel_rfl
theorem Qsl : QM Tryz.prog Tryz.f51 = some tf51.erase := by kernel_rfl
theorem Qsm : QM Tryz.prog Tryz.f52 = some tf52.erase := by kernel_rfl
theorem Qsn : QM Tryz.prog Tryz.f53 = some tf53.erase := by kernel_rfl
theorem Qso : QM Tryz.prog Tryz.f54 = some tf54.erase := by kernel_rfl
theorem Qsp : QM Tryz.prog Tryz.f55 = some tf55.erase := by kernel_rfl
theorem Qsq : QM Tryz.prog Tryz.f56 = some tf56.erase := by kernel_rfl
theorem Qsr : QM Tryz.prog Tryz.f57 = some tf57.erase := by kernel_rfl
theorem Qss : QM Tryz.prog Tryz.f58 = some tf58.erase := by kernel_rfl
theorem Qst : QM Tryz.prog Tryz.f59 = some tf59.erase := by kernel_rfl
theorem Qsu : QM Tryz.prog Tryz.f60 = some tf60.erase := by kernel_rfl
theorem Qsv : QM Tryz.prog Tryz.f61 = some tf61.erase := by kernel_rfl
theorem Qsw : QM Tryz.prog Tryz.f62 = some tf62.erase := by kernel_rfl
theorem Qsx : QM Tryz.prog Tryz.f63 = some tf63.erase := by kernel_rfl
theorem Qsy : QM Tryz.prog Tryz.f64 = some tf64.erase := by kernel_rfl
theorem Qsz : QM Tryz.prog Tryz.f65 = some tf65.erase := by kernel_rfl
theorem QsA : QM Tryz.prog Tryz.f66 = some tf66.erase := by kernel_rfl
theorem QsB : QM Tryz.prog Tryz.f67 = some tf67.erase := by kernel_rfl
theorem QsC : QM Tryz.prog Tryz.f68 = some tf68.erase := by kernel_rfl
theorem QsD : QM Tryz.prog Tryz.f69 = some tf69.erase := by kernel_rfl
theorem QsE : QM Tryz.prog Tryz.f71 = some tf71.erase := by kernel_rfl
theorem QsF : QM Tryz.prog Tryz.f72 = some tf72.erase := by kernel_rfl
theorem QsG : QM Tryz.prog Tryz.f73 = some tf73.erase := by kernel_rfl
theorem QsH : QM Tryz.prog Tryz.f74 = some tf74.erase := by kernel_rfl
theorem QsI : QM Tryz.prog Tryz.f75 = some tf75.erase := by kernel_rfl
theorem QsJ : QM Tryz.prog Tryz.f76 = some tf76.erase := by kernel_rfl
theorem QsK : QM Tryz.prog Tryz.f77 = some tf77.erase := by kernel_rfl
theorem QsL : QM Tryz.prog Tryz.f78 = some tf78.erase := by kernel_rfl
theorem QsM : QM Tryz.prog Tryz.f79 = some tf79.erase := by kernel_rfl
theorem QsN : QM Tryz.prog Tryz.f80 = some tf80.erase := by kernel_rfl
theorem QsO : QM Tryz.prog Tryz.f81 = some tf81.erase := by kernel_rfl
theorem QsP : QM Tryz.prog Tryz.f82 = some tf82.erase := by kernel_rfl
theorem QsQ : QM Tryz.prog Tryz.f83 = some tf83.erase := by kernel_rfl
theorem QsR : QM Tryz.prog Tryz.f84 = some tf84.erase := by kernel_rfl
theorem QsS : QM Tryz.prog Tryz.f85 = some tf85.erase := by kernel_rfl
theorem QsT : QM Tryz.prog Tryz.f86 = some tf86.erase := by kernel_rfl
theorem QsU : QM Tryz.prog Tryz.f87 = some tf87.erase := by kernel_rfl
theorem QsV : QM Tryz.prog Tryz.f88 = some tf88.erase := by kernel_rfl
theorem QsW : QM Tryz.prog Tryz.f89 = some tf89.erase := by kernel_rfl
theorem QsX : QM Tryz.prog Tryz.f90 = some tf90.erase := by kernel_rfl
theorem QsY : QM Tryz.prog Tryz.f91 = some tf91.erase := by kernel_rfl
theorem QsZ : QM Tryz.prog Tryz.f92 = some tf92.erase := by kernel_rfl
theorem Qs0 : QM Tryz.prog Tryz.f93 = some tf93.erase := by kernel_rfl
theorem Qs1 : QM Tryz.prog Tryz.f94 = some tf94.erase := by kernel_rfl
theorem Qs2 : QM Tryz.prog Tryz.f95 = some tf95.erase := by kernel_rfl
theorem Qs3 : QM Tryz.prog Tryz.f96 = some tf96.erase := by kernel_rfl
theorem Qs4 : QM Tryz.prog Tryz.f97 = some tf97.erase := by kernel_rfl
theorem Qs5 : QM Tryz.prog Tryz.f98 = some tf98.erase := by kernel_rfl
theorem Qs6 : QM Tryz.prog Tryz.f99 = some tf99.erase := by kernel_rfl
theorem Qrk : QM Tryz.prog Tryz.f100 = some tf100.erase := by kernel_rfl
theorem Qrl : QM Tryz.prog Tryz.f101 = some tf101.erase := by kernel_rfl
theorem Qrm : QM Tryz.prog Tryz.f102 = some tf102.erase := by kernel_rfl
theorem Qrn : QM Tryz.prog Tryz.f103 = some tf103.erase := by kernel_rfl
theorem Qro : QM Tryz.prog Tryz.f104 = some tf104.erase := by kernel_rfl
theorem Qrp : QM Tryz.prog Tryz.f105 = some tf105.erase := by kernel_rfl
theorem Qrq : QM Tryz.prog Tryz.f106 = some tf106.erase := by kernel_rfl
theorem Qrr : QM Tryz.prog Tryz.f107 = some tf107.erase := by kernel_rfl
theorem Qrs : QM Tryz.prog Tryz.f108 = some tf108.erase := by kernel_rfl
theorem Qrt : QM Tryz.prog Tryz.f109 = some tf109.erase := by kernel_rfl
theorem Qru : QM Tryz.prog Tryz.f110 = some tf110.erase := by kernel_rfl
theorem Qrv : QM Tryz.prog Tryz.f111 = some tf111.erase := by kernel_rfl
theorem Qrw : QM Tryz.prog Tryz.f112 = some tf112.erase := by kernel_rfl
theorem Qrx : QM Tryz.prog Tryz.f113 = some tf113.erase := by kernel_rfl
theorem Qry : QM Tryz.prog Tryz.f114 = some tf114.erase := by kernel_rfl
theorem Qrz : QM Tryz.prog Tryz.f115 = some tf115.erase := by kernel_rfl
theorem QrA : QM Tryz.prog Tryz.f116 = some tf116.erase := by kernel_rfl
theorem QrB : QM Tryz.prog Tryz.f117 = some tf117.erase := by kernel_rfl
theorem QrC : QM Tryz.prog Tryz.f118 = some tf118.erase := by kernel_rfl
theorem QrD : QM Tryz.prog Tryz.f119 = some tf119.erase := by kernel_rfl
theorem Z1 : Tryz.prog.follows .mixedOrders = true := by kernel_rfl
end Go.Proofs
namespace M3
open Go Go.Abs
def QjQ (n : Int) : Bool := decide (0 <= n) && decide (n <= 9999)
def QcX (m n : Int) : Int := if m < n then -1 else if n < m then 1 else 0
def Qas (c : UInt8) : Bool := decide (48 <= c.toNat) && decide (c.toNat <= 57)
def XH (s : List UInt8) : Bool := s.all Qas && !decide (s = [])
theorem QgZ {s : List UInt8} {i : Nat} (h : i < s.length) (hd : Qas s[i] = false) : XH s = false := by
 have : s.all Qas = false := by
  rw [Bool.eq_false_iff]
  intro ha
  rw [List.all_eq_true] at ha
  rw [ha _ (List.getElem_mem h)] at hd
  cases hd
 rw [XH, this]; rfl
theorem QjT {s : List UInt8} {i : Nat} (hi : s.length <= i) (h : (s.take i).all Qas = true) : XH s = !decide (s = []) := by
 rw [List.take_of_length_le hi] at h
 rw [XH, h]; rfl
def Qf3 (v n : Int) : Int := if v.tmod n < 0 then v.tmod n + n else v.tmod n
def Zp (l : List Int) : D := .sl (l.map fun x => [.int .i64 x])
theorem Qop {v n : Int} (h : 0 < n) : 0 <= Qf3 v n := by
 unfold Qf3
 have h1 := Int.tmod_lt_of_pos v h
 have h2 := Int.lt_tmod_of_pos v h
 split <;> omega
theorem Qoo {v n : Int} (h : 0 < n) : Qf3 v n < n := by
 unfold Qf3
 have h1 := Int.tmod_lt_of_pos v h
 split <;> omega
end M3
namespace M3
open Go Go.Abs
def QaR (c : Int) : List UInt8 -> List UInt8 -> List (List UInt8)
 | [], cur => [cur]
 | x :: xs, cur => if (x.toNat : Int) = c then cur :: QaR c xs [] else QaR c xs (cur ++ [x])
def Ys (s : List UInt8) (c : Int) : List (List UInt8) := QaR c s []
def Qa0 (l : List (List UInt8)) : List (List D) := l.map fun x => [.str x]
def SplitI (s : List UInt8) (c : Int) (i k : Nat) (acc : List (List UInt8)) : Prop :=
 i <= s.length /\ k <= i /\ acc.length <= i /\ Ys s c = acc ++ QaR c (s.drop i) ((s.take i).drop k)
theorem SplitI.zero {s : List UInt8} {c : Int} : SplitI s c 0 0 [] := ⟨Nat.zero_le _, Nat.le_refl _, Nat.le_refl _, by simp [Ys]⟩
theorem SplitI.hit {s : List UInt8} {c : Int} {i k : Nat} {acc : List (List UInt8)} (h : SplitI s c i k acc) (hi : i < s.length) (he : ((s[i]).toNat : Int) = c) : SplitI s c (i + 1) (i + 1) (acc ++ [(s.take i).drop k]) := by
 obtain ⟨h1, h2, h3, h4⟩ := h
 refine ⟨hi, Nat.le_refl _, by simp; omega, ?_⟩
 rw [List.drop_eq_getElem_cons hi] at h4
 simp only [QaR, he, if_true] at h4
 rw [h4, List.append_assoc]
 simp
theorem SplitI.miss {s : List UInt8} {c : Int} {i k : Nat} {acc : List (List UInt8)} (h : SplitI s c i k acc) (hi : i < s.length) (he : ¬ ((s[i]).toNat : Int) = c) : SplitI s c (i + 1) k acc := by
 obtain ⟨h1, h2, h3, h4⟩ := h
 refine ⟨hi, by omega, by omega, ?_⟩
 rw [List.drop_eq_getElem_cons hi] at h4
 simp only [QaR, he, if_false] at h4
 rw [h4, List.take_succ_eq_append_getElem hi, List.drop_append_of_le_length (by simp; omega)]
theorem SplitI.done {s : List UInt8} {c : Int} {i k : Nat} {acc : List (List UInt8)} (h : SplitI s c i k acc) (hi : s.length <= i) : Ys s c = acc ++ [s.drop k] := by
 obtain ⟨h1, h2, h3, h4⟩ := h
 rw [h4, List.drop_eq_nil_of_le hi, List.take_of_length_le hi]
 rfl
end M3
namespace M3
open Go Go.Abs
def QiR (a b : List UInt8) : Int := if Op.bytesLess a b = true then -1 else if a = b then 0 else 1
def XQ (c : Int) : Bool := decide (48 <= c) && decide (c <= 57)
def Xk (c : UInt8) : Bool := (decide (97 <= c.toNat) && decide (c.toNat <= 122)) || (decide (48 <= c.toNat) && decide (c.toNat <= 57)) || decide (c.toNat = 45)
def Qf5 (s : List UInt8) : Bool := decide (1 <= s.length) && decide (s.length <= 8) && s.all Xk
def val (s : List UInt8) : Nat := s.foldl (fun n c => 10 * n + (c.toNat - 48)) 0
def Xe (s : List UInt8) : Int × Bool :=
 if s.length < 1 \/ 9 < s.length \/ (1 < s.length /\ s.head? = some 48) \/ s.all Qas = false \/ 9999 < val s then (0, false) else ((val s : Int), true)
def QnB (a b : List UInt8) : Int :=
 if XH a = true /\ XH b = true then QcX (Xe a).1 (Xe b).1
 else if XH a = true then -1 else if XH b = true then 1 else QiR a b
def QlR : List (List UInt8) -> List (List UInt8) -> Int
 | [], [] => 0
 | [], _ :: _ => -1
 | _ :: _, [] => 1
 | a :: l, b :: m => if QnB a b ≠ 0 then QnB a b else QlR l m
def Qgs (a b : List UInt8) : Int := if a = b then 0 else if a = [] then 1 else if b = [] then -1 else QlR (Ys a 46) (Ys b 46)
def Qe3 (pre : Bool) (t : List UInt8) : Bool := Qf5 t && !(pre && XH t && !(Xe t).2)
def Qcf (s : List UInt8) (pre : Bool) : Bool := decide (s = []) || (decide ((Ys s 46).length <= 4) && (Ys s 46).all (Qe3 pre))
def Qh9 (a b c : Int) (p q : List UInt8) : Bool := QjQ a && QjQ b && QjQ c && Qcf p true && Qcf q false
def QmF (a b c : Int) (p q : List UInt8) (a' b' c' : Int) (p' q' : List UInt8) : Int :=
 if Qh9 a b c p q = false \/ Qh9 a' b' c' p' q' = false then 0
 else if QcX a a' ≠ 0 then QcX a a' else if QcX b b' ≠ 0 then QcX b b' else if QcX c c' ≠ 0 then QcX c c' else Qgs p p'
theorem XN {α : Type} {s : List α} {p : α -> Bool} {i : Nat} (h : i < s.length) (hd : p s[i] = false) : s.all p = false := by
 rw [Bool.eq_false_iff]
 intro ha
 rw [List.all_eq_true] at ha
 rw [ha _ (List.getElem_mem h)] at hd
 cases hd
theorem XC {α : Type} {s : List α} {p : α -> Bool} {i : Nat} (hi : s.length <= i) (h : (s.take i).all p = true) : s.all p = true := by rwa [List.take_of_length_le hi] at h
theorem Qlf {s : List UInt8} {i : Nat} (h : i < s.length) : val (s.take (i + 1)) = 10 * val (s.take i) + (s[i].toNat - 48) := by
 rw [List.take_succ_eq_append_getElem h]; simp only [val, List.foldl_append, List.foldl_cons, List.foldl_nil]
theorem QqM : ∀ {s : List UInt8}, s.all Qas = true -> val s < 10 ^ s.length := by
 intro s
 rw [<- List.reverse_reverse s]
 generalize s.reverse = r
 induction r with
 | nil => intro _; decide
 | cons c r ih =>
  intro h
  rw [List.reverse_cons, List.all_append, Bool.and_eq_true] at h
  have h1 := ih h.1
  have h2 : Qas c = true := by simpa using h.2
  simp only [Qas, Bool.and_eq_true, decide_eq_true_eq] at h2
  rw [List.reverse_cons]
  simp only [val, List.foldl_append, List.foldl_cons, List.foldl_nil, List.length_append, List.length_cons, List.length_nil] at h1 ⊢
  rw [Nat.pow_succ]
  omega
theorem QmP {l m : List (List UInt8)} {i : Nat} (h1 : i < l.length) (h2 : i < m.length) (h : QnB l[i] m[i] = 0) : QlR (l.drop i) (m.drop i) = QlR (l.drop (i + 1)) (m.drop (i + 1)) := by
 rw [List.drop_eq_getElem_cons h1, List.drop_eq_getElem_cons h2]
 simp [QlR, h]
theorem Qcw {l m : List (List UInt8)} {i : Nat} (h1 : i < l.length) (h2 : i < m.length) (h : QnB l[i] m[i] ≠ 0) : QlR (l.drop i) (m.drop i) = QnB l[i] m[i] := by
 rw [List.drop_eq_getElem_cons h1, List.drop_eq_getElem_cons h2]
 simp [QlR, h]
theorem Qcv {l m : List (List UInt8)} {i : Nat} (hl : i <= l.length) (hm : i <= m.length) (h : l.length <= i \/ m.length <= i) : QlR (l.drop i) (m.drop i) = QcX l.length m.length := by
 rcases Nat.lt_or_ge i l.length with h1 | h1 <;> rcases Nat.lt_or_ge i m.length with h2 | h2
 ·omega
 ·rw [List.drop_eq_getElem_cons h1, List.drop_eq_nil_of_le h2]
  simp only [QlR, QcX]
  rw [if_neg (by omega), if_pos (by omega)]
 ·rw [List.drop_eq_getElem_cons h2, List.drop_eq_nil_of_le h1]
  simp only [QlR, QcX]
  rw [if_pos (by omega)]
 ·rw [List.drop_eq_nil_of_le h1, List.drop_eq_nil_of_le h2]
  simp only [QlR, QcX]
  rw [if_neg (by omega), if_neg (by omega)]
end M3
namespace M3
end M3
namespace M3
theorem Qqp {s : List UInt8} (h : 0 < s.length) (e : ((s[0]).toNat : Int) = 48) : s.head? = some 48 := by
 cases s with
 | nil => simp at h
 | cons x r =>
  simp only [List.getElem_cons_zero] at e
  have : x = 48 := UInt8.toNat_inj.1 (by simpa using (by omega : x.toNat = 48))
  simp [this]
theorem Qmu {s : List UInt8} (h : 0 < s.length) (e : ¬ ((s[0]).toNat : Int) = 48) : s.head? ≠ some 48 := by
 cases s with
 | nil => simp at h
 | cons x r =>
  simp only [List.getElem_cons_zero] at e
  intro hh
  simp at hh
  subst hh
  exact e rfl
theorem QgY {s : List UInt8} {i : Nat} (h : ¬ (s.length < 1 \/ 9 < s.length \/ (1 < s.length /\ s.head? = some 48))) (hi : s.length <= i) (ha : (s.take i).all Qas = true) (hv : val (s.take i) <= 9999) : Xe s = ((val (s.take i) : Int), true) := by
 have h1 := XC hi ha
 rw [List.take_of_length_le hi] at hv ⊢
 rw [Xe, if_neg]
 rintro (q | q | q | q | q)
 ·exact h (.inl q)
 ·exact h (.inr (.inl q))
 ·exact h (.inr (.inr q))
 ·rw [h1] at q; cases q
 ·omega
theorem QeA {s : List UInt8} {i : Nat} (hi : s.length <= i) (hv : 9999 < val (s.take i)) : Xe s = (0, false) := by
 rw [List.take_of_length_le hi] at hv
 rw [Xe, if_pos (.inr (.inr (.inr (.inr hv))))]
theorem QeB {s : List UInt8} {i : Nat} (h : i < s.length) (hd : Qas s[i] = false) : Xe s = (0, false) := by
 rw [Xe, if_pos (.inr (.inr (.inr (.inl (XN h hd)))))]
theorem QeC {s : List UInt8} (h : s.length < 1 \/ 9 < s.length) : Xe s = (0, false) := by
 rw [Xe, if_pos (by rcases h with h | h; exact .inl h; exact .inr (.inl h))]
theorem Qcy {s : List UInt8} (h : 1 < s.length) (e : ((s[0]).toNat : Int) = 48) : Xe s = (0, false) := by
 rw [Xe, if_pos (.inr (.inr (.inl ⟨h, Qqp (by omega) e⟩)))]
end M3
namespace M3
open Go Go.Abs
theorem Ze (l : List (List UInt8)) : (Qa0 l).length = l.length := by simp [Qa0]
theorem QdI {l : List (List UInt8)} {i : Nat} (h : i < l.length) : (Qa0 l)[((i : Nat) : Int).toNat]? = some [.str l[i]] := by simp [Qa0, h]
theorem Qbz {c : Int} : ∀ (s cur : List UInt8), (QaR c s cur).length <= s.length + 1 /\ ∀ x ∈ QaR c s cur, x.length <= s.length + cur.length
 | [], cur => by simp [QaR]
 | x :: xs, cur => by
  simp only [QaR]
  split
  ·obtain ⟨h1, h2⟩ := Qbz (c := c) xs []
   refine ⟨by simp; omega, fun y hy => ?_⟩
   rcases List.mem_cons.1 hy with rfl | hy
   ·simp <;> omega
   ·have := h2 y hy; simp at this ⊢; omega
  ·obtain ⟨h1, h2⟩ := Qbz (c := c) xs (cur ++ [x])
   refine ⟨by simp; omega, fun y hy => ?_⟩
   have := h2 y hy; simp at this ⊢; omega
theorem Qno {s : List UInt8} {c : Int} : (Ys s c).length <= s.length + 1 := (Qbz s []).1
theorem Qd7 {s : List UInt8} {c : Int} {i : Nat} (h : i < (Ys s c).length) (hl : s.length <= 1000000) : ((Ys s c)[i]).length <= 1000000 := by
 have := (Qbz (c := c) s []).2 _ (List.getElem_mem h)
 simp only [List.length_nil, Nat.add_zero] at this
 exact Nat.le_trans this hl
end M3
namespace M3
open Go Go.Abs
theorem QdU {s : List UInt8} {pre : Bool} {i : Nat} (hs : s ≠ []) (h : i < (Ys s 46).length) (hd : Qe3 pre (Ys s 46)[i] = false) : Qcf s pre = false := by
 rw [Qcf, XN h hd]; simp [hs]
theorem Qcg {s : List UInt8} {pre : Bool} {i : Nat} (h4 : (Ys s 46).length <= 4) (hi : (Ys s 46).length <= i) (h : ((Ys s 46).take i).all (Qe3 pre) = true) : Qcf s pre = true := by
 rw [Qcf, XC hi h]; simp [h4]
end M3
namespace M3
open Go Go.Abs
structure Cu where
 e : Int
 a : Int
 b : Int
 c : Int
 p : List UInt8
 q : List UInt8
 f : Bool
def Qev (e a b c : Int) (p q : List UInt8) (f : Bool) : Bool :=
 if e = 0 then Qh9 a b c p q && decide (q = [])
 else (decide (e = -1) || decide (e = 1)) && (decide (a = 0) && (decide (b = 0) && (decide (c = 0) && (decide (p = []) && (decide (q = []) && true))))) && !f
def Qbs (e a b c : Int) (p q : List UInt8) (f : Bool) (e' a' b' c' : Int) (p' q' : List UInt8) (f' : Bool) : Int :=
 if Qev e a b c p q f = false \/ Qev e' a' b' c' p' q' f' = false then 0
 else if e ≠ e' \/ e ≠ 0 then QcX e e'
 else if QmF a b c p q a' b' c' p' q' ≠ 0 then QmF a b c p q a' b' c' p' q'
 else if f = f' then 0 else if f' = true then -1 else 1
def Qal (e a b c : Int) (p q : List UInt8) (f : Bool) (a' b' c' : Int) (p' q' : List UInt8) : Bool :=
 if Qev e a b c p q f = false \/ Qh9 a' b' c' p' q' = false then false
 else if e ≠ 0 then decide (e < 0)
 else decide (QmF a b c p q a' b' c' p' q' < 0) || (decide (QmF a b c p q a' b' c' p' q' = 0) && !f)
end M3
namespace M3
def QhP (e a b c : Int) (p q : List UInt8) (f : Bool) (e' a' b' c' : Int) (p' q' : List UInt8) (f' : Bool) : Bool :=
 Qev e a b c p q f && Qev e' a' b' c' p' q' f' && decide (Qbs e a b c p q f e' a' b' c' p' q' f' < 0)
def Qc2 (e a b c : Int) (p q : List UInt8) (f : Bool) (e' a' b' c' : Int) (p' q' : List UInt8) (f' : Bool) (x y z : Int) (r s : List UInt8) : Bool :=
 QhP e a b c p q f e' a' b' c' p' q' f' && Qh9 x y z r s && Qal e a b c p q f x y z r s && !Qal e' a' b' c' p' q' f' x y z r s
end M3
namespace M3
open Go Go.Abs
end M3
namespace M3
open Go Go.Abs
end M3
namespace M3
open Go Go.Abs
end M3
namespace M3
open Go Go.Abs
end M3
namespace Go.Proofs
open Go Go.Abs M3
set_option linter.unusedVariables false
set_option linter.unusedSimpArgs false
theorem Xp {n : Int} : Ok Tryz.prog 76 [.int .i64 n] (.bool (QjQ n)) := by
 refine Ok.ofT Z1 Tryz.func76 QsJ (Nat.le_of_ble_eq_true rfl) ?_
 show TW _ _ tf76.body _ _
 refine Qf fun K hK => Qa rfl ?_
 refine hK _ _ (Qb (kp1 rfl) ?_)
 refine Qf fun K hK => Qa rfl (QeX rfl rfl (Qa rfl ?_))
 refine QE (g := 5) rfl (fun h1 => ?_) (fun h1 => ?_)
 ·try rw [h1]
  try simp only [qa, qb, qc, qd, qe] at h1
  refine Qj rfl (Qa rfl (Qj rfl (QoK rfl rfl (Qp rfl rfl (Qa rfl ?_)))))
  refine hK _ _ (Qb (kp1 rfl) ?_)
  refine Qu (Qt rfl ?_)
  simp_all [QjQ] <;> omega
 ·try rw [h1]
  try simp only [qa, qb, qc, qd, qe] at h1
  refine Qs rfl (Qs rfl (Qp rfl rfl (Qa rfl ?_)))
  refine hK _ _ (Qb (kp1 rfl) ?_)
  refine Qu (Qt rfl ?_)
  simp_all [QjQ] <;> omega
theorem Zw {m n : Int} : Ok Tryz.prog 114 [.int .i64 m, .int .i64 n] (.int .i64 (QcX m n)) := by
 refine Ok.ofT Z1 Tryz.func114 Qry (Nat.le_of_ble_eq_true rfl) ?_
 show TW _ _ tf114.body _ _
 refine Qf fun K hK => Qa rfl ?_
 refine hK _ _ (Qb (kp2 rfl rfl) ?_)
 refine QB ?_ -- 0
 refine Qz (Qf fun K hK => Qa rfl (Qa rfl (Z8 rfl rfl (Qa rfl ?_))))
 refine hK _ _ (Qb (kp3 rfl rfl rfl) ?_)
 refine Qw rfl (fun h1 => ?_) (fun h1 => ?_)
 ·try rw [h1]
  try simp only [qa, qb, qc, qd, qe] at h1
  refine Qf fun K hK => Qa rfl ?_
  refine hK _ _ (Qb (kp1 rfl) ?_)
  refine Qu (Qr (Qk (QG rfl ?_)))
  simp_all [QcX] <;> omega
 ·try rw [h1]
  try simp only [qa, qb, qc, qd, qe] at h1
  refine Qf fun K hK => Qa rfl (Qa rfl (Qh7 rfl rfl (Qa rfl ?_)))
  refine hK _ _ (Qb (kp1 rfl) ?_)
  refine Qw rfl (fun h2 => ?_) (fun h2 => ?_)
  ·try rw [h2]
   try simp only [qa, qb, qc, qd, qe] at h2
   refine Qf fun K hK => Qa rfl ?_
   refine hK _ _ (Qb (kp1 rfl) ?_)
   refine Qu (Qr (Qk (QG rfl ?_)))
   simp_all [QcX] <;> omega
  ·try rw [h2]
   try simp only [qa, qb, qc, qd, qe] at h2
   refine Qv (Qg (Qd (Q8) (Qf fun K hK => Qa rfl ?_)))
   refine hK _ _ (Qb (kp1 rfl) ?_)
   refine Qu (QG rfl ?_)
   simp_all [QcX] <;> omega
theorem YZ {s : List UInt8} {c : Int} (hl : s.length <= 1000000) : Ok Tryz.prog 92 [.str s, .int .u8 c] (.sl (Qa0 (Ys s c))) := by
 refine Ok.ofT Z1 Tryz.func92 QsZ (Nat.le_of_ble_eq_true rfl) ?_
 show TW _ _ tf92.body _ _
 refine Qf fun K hK => Qa rfl ?_
 refine hK _ _ (Qb (kp2 rfl rfl) ?_)
 refine Qf fun K hK => Qa rfl ?_
 refine hK _ _ (Qb (kp3 rfl rfl rfl) ?_)
 refine Qf fun K hK => Qa rfl ?_
 refine hK _ _ (Qb (kp4 rfl rfl rfl rfl) ?_)
 refine QB ?_ -- 0
 refine Qf fun K hK => Qa rfl ?_
 refine hK _ _ (Qb (kp5 rfl rfl rfl rfl rfl) ?_)
 refine Qz ?_
 refine Zk (ι := Nat × Nat × List (List UInt8)) (fun ⟨i, k, acc⟩ => ⟨[(0, .str s), (1, .int .u8 c), (5, .osl 25 acc.length), (6, .int .i64 k), (7, .int .i64 i)], [(25, ⟨Qa0 acc, 1, 9, true⟩)]⟩) (fun ⟨i, k, acc⟩ => SplitI s c i k acc) (fun ⟨i, k, acc⟩ => s.length - i) (0, 0, []) ?_ ?_ ?_
 ·exact le_trans (Yj 5 25 1 9 rfl rfl) (Q2 (l := [0, 1, 5, 6, 7]) (lH := [25]) (kp5 rfl rfl rfl rfl rfl) (Qe rfl Ql) rfl rfl rfl)
 ·exact SplitI.zero
 intro ⟨i, k, acc⟩ hI
 have hI1 := hI.1
 have hI2 := hI.2.1
 have hI3 := hI.2.2.1
 try dsimp only
 refine QB ?_ -- 1
 refine Qf fun K hK => Qa rfl (Qa rfl (XE rfl (Z8 rfl rfl ?_)))
 refine hK _ _ (Qb (kp6 rfl rfl rfl rfl rfl rfl) ?_)
 refine Qw rfl (fun h1 => ?_) (fun h1 => ?_)
 ·try rw [h1]
  try simp only [qa, qb, qc, qd, qe] at h1
  refine Qv (Qd (kp5 rfl rfl rfl rfl rfl) ?_)
  refine QB ?_ -- 2
  refine Qz (Qf fun K hK => Qa rfl (Qa rfl (XB rfl rfl (by omega) (QfN (by omega)) (Qa rfl (ZN rfl rfl ?_)))))
  refine hK _ _ (Qb (kp6 rfl rfl rfl rfl rfl rfl) ?_)
  refine Qw rfl (fun h2 => ?_) (fun h2 => ?_)
  ·try rw [h2]
   try simp only [qa, qb, qc, qd, qe] at h2
   refine Qf fun K hK => Qa rfl (Qa rfl (Qa rfl (Qa rfl (Qgv rfl rfl rfl (by omega) (by omega) (by omega) rfl (QC rfl rfl (Xl rfl rfl (fun _ h => Y5 rfl rfl rfl h) rfl (by simp [Qa0]) rfl rfl rfl (by simp; omega) (by simp; omega) (Qa rfl ?_)))))))
   refine hK _ _ (Qb (kp4 rfl rfl rfl rfl) ?_)
   refine QL fun K hK => Qa rfl (Q1 rfl rfl (by first | exact Qq (by omega) (by omega) | exact Z0 (by omega) (by omega) | exact Yu (by omega) (by omega) | rfl) (Qa rfl (hK _ ?_)))
   refine Qg (Qd (kp5 rfl rfl rfl rfl rfl) (QL fun K hK => Qa rfl (Q1 rfl rfl (by first | exact Qq (by omega) (by omega) | exact Z0 (by omega) (by omega) | exact Yu (by omega) (by omega) | rfl) (Qa rfl (hK _ ?_)))))
   refine Qi (i + 1, i + 1, acc ++ [(s.take i).drop k]) ?_ ?_ ?_
   ·exact Q2 (l := [0, 1, 5, 6, 7]) (lH := [25]) (kp5 rfl rfl rfl rfl rfl) (Qe rfl Ql) (by simp [Qa0, D.scrub]) (by simp [Qa0, Box.scrub]) rfl
   ·exact hI.hit (by omega) (by assumption)
   ·show s.length - (i + 1) < s.length - i; omega
  ·try rw [h2]
   try simp only [qa, qb, qc, qd, qe] at h2
   refine Qv (Qg (Qd (kp5 rfl rfl rfl rfl rfl) (QL fun K hK => Qa rfl (Q1 rfl rfl (by first | exact Qq (by omega) (by omega) | exact Z0 (by omega) (by omega) | exact Yu (by omega) (by omega) | rfl) (Qa rfl (hK _ ?_))))))
   refine Qi (i + 1, k, acc) ?_ ?_ ?_
   ·exact Q2 (l := [0, 1, 5, 6, 7]) (lH := [25]) (kp5 rfl rfl rfl rfl rfl) (Qe rfl Ql) (by simp [Qa0, D.scrub]) (by simp [Qa0, Box.scrub]) rfl
   ·exact hI.miss (by omega) (by assumption)
   ·show s.length - (i + 1) < s.length - i; omega
 ·try rw [h1]
  try simp only [qa, qb, qc, qd, qe] at h1
  refine Zi (QK (Qx (QD (Qd (kp3 rfl rfl rfl) (Qf fun K hK => Qa rfl (Qa rfl (Qa rfl (Qgv rfl rfl rfl (by omega) (by omega) (by omega) rfl (QC rfl rfl (Xl rfl rfl (fun _ h => Y5 rfl rfl rfl h) rfl (by simp [Qa0]) rfl rfl rfl (by simp; omega) (by simp; omega) ?_))))))))))
  refine Qa rfl ?_
  refine hK _ _ (Qb (kp1 rfl) ?_)
  refine Qu (Yk rfl ?_)
  rw [hI.done (by omega)]; simp [QbT, D.fz, D.fzS, Qc3, lk, D.can, D.canS, Qa0]
end Go.Proofs
namespace Go.Proofs
open Go Go.Abs M3
set_option linter.unusedVariables false
set_option linter.unusedSimpArgs false
theorem QcU {a b : List UInt8} : Ok Tryz.prog 119 [.str a, .str b] (.int .i64 (QiR a b)) := by
 refine Ok.ofT Z1 Tryz.func119 QrD (Nat.le_of_ble_eq_true rfl) ?_
 show TW _ _ tf119.body _ _
 refine Qf fun K hK => Qa rfl ?_
 refine hK _ _ (Qb (kp2 rfl rfl) ?_)
 refine QB ?_ -- 0
 refine Qz (Qf fun K hK => Qa rfl (Qa rfl (QqZ rfl rfl (Qa rfl ?_))))
 refine hK _ _ (Qb (kp3 rfl rfl rfl) ?_)
 refine Qw rfl (fun h1 => ?_) (fun h1 => ?_)
 ·try rw [h1]
  try simp only [qa, qb, qc, qd, qe] at h1
  refine Qf fun K hK => Qa rfl ?_
  refine hK _ _ (Qb (kp1 rfl) ?_)
  refine Qu (Qr (Qk (QG rfl ?_)))
  simp_all [QiR]
 ·try rw [h1]
  try simp only [qa, qb, qc, qd, qe] at h1
  refine Qf fun K hK => Qa rfl (Qa rfl (QqY rfl rfl (Qa rfl ?_)))
  refine hK _ _ (Qb (kp1 rfl) ?_)
  refine Qw rfl (fun h2 => ?_) (fun h2 => ?_)
  ·try rw [h2]
   try simp only [qa, qb, qc, qd, qe] at h2
   refine Qf fun K hK => Qa rfl ?_
   refine hK _ _ (Qb (kp1 rfl) ?_)
   refine Qu (Qr (Qk (QG rfl ?_)))
   simp_all [QiR]
  ·try rw [h2]
   try simp only [qa, qb, qc, qd, qe] at h2
   refine Qv (Qg (Qd (Q8) (Qf fun K hK => Qa rfl ?_)))
   refine hK _ _ (Qb (kp1 rfl) ?_)
   refine Qu (QG rfl ?_)
   simp_all [QiR]
theorem QcN {c : Int} : Ok Tryz.prog 101 [.int .u8 c] (.bool (XQ c)) := by
 refine Ok.ofT Z1 Tryz.func101 Qrl (Nat.le_of_ble_eq_true rfl) ?_
 show TW _ _ tf101.body _ _
 refine Qf fun K hK => Qa rfl ?_
 refine hK _ _ (Qb (kp1 rfl) ?_)
 refine Qf fun K hK => Qa rfl (QeX rfl rfl (Qa rfl ?_))
 refine QE (g := 5) rfl (fun h1 => ?_) (fun h1 => ?_)
 ·try rw [h1]
  try simp only [qa, qb, qc, qd, qe] at h1
  refine Qj rfl (Qa rfl (Qj rfl (QoK rfl rfl (Qp rfl rfl (Qa rfl ?_)))))
  refine hK _ _ (Qb (kp1 rfl) ?_)
  refine Qu (Qt rfl ?_)
  simp_all [XQ] <;> omega
 ·try rw [h1]
  try simp only [qa, qb, qc, qd, qe] at h1
  refine Qs rfl (Qs rfl (Qp rfl rfl (Qa rfl ?_)))
  refine hK _ _ (Qb (kp1 rfl) ?_)
  refine Qu (Qt rfl ?_)
  simp_all [XQ] <;> omega
theorem YH {s : List UInt8} (hl : s.length <= 1000000) : Ok Tryz.prog 95 [.str s] (.bool (XH s)) := by
 refine Ok.ofT Z1 Tryz.func95 Qs2 (Nat.le_of_ble_eq_true rfl) ?_
 show TW _ _ tf95.body _ _
 refine Qf fun K hK => Qa rfl ?_
 refine hK _ _ (Qb (kp1 rfl) ?_)
 refine QB ?_ -- 0
 refine Qf fun K hK => Qa rfl ?_
 refine hK _ _ (Qb (kp2 rfl rfl) ?_)
 refine Qz ?_
 refine Zk (ι := Nat) (fun i => ⟨[(0, .str s), (3, .int .i64 i)], []⟩) (fun i => i <= s.length /\ (s.take i).all Qas = true) (fun i => s.length - i) 0 ?_ ?_ ?_
 ·exact Zg (kp2 rfl rfl)
 ·exact ⟨Nat.zero_le _, rfl⟩
 intro i hI
 try dsimp only
 refine QB ?_ -- 1
 refine Qf fun K hK => Qa rfl (Qa rfl (XE rfl (Z8 rfl rfl ?_)))
 refine hK _ _ (Qb (kp3 rfl rfl rfl) ?_)
 refine Qw rfl (fun h1 => ?_) (fun h1 => ?_)
 ·try rw [h1]
  try simp only [qa, qb, qc, qd, qe] at h1
  refine Qv (Qd (kp2 rfl rfl) ?_)
  refine QB ?_ -- 2
  refine Qz (Qf fun K hK => Qa rfl (Qa rfl (XB rfl rfl (by omega) (QfN (by omega)) (Z8 rfl rfl (Qa rfl ?_)))))
  refine QE (g := 14) rfl (fun h2 => ?_) (fun h2 => ?_)
  ·try rw [h2]
   try simp only [qa, qb, qc, qd, qe] at h2
   refine Qs rfl (Qs rfl (Qs rfl (Qs rfl (Qp rfl rfl ?_))))
   refine hK _ _ (Qb (kp3 rfl rfl rfl) ?_)
   refine Zv rfl (Qf fun K hK => Qa rfl ?_)
   refine hK _ _ (Qb (kp1 rfl) ?_)
   refine Qu (Qr (Qk (Q4 (Qr (Qk (Qt rfl ?_))))))
   exact (QgZ (i := i) (by omega) (by simp [Qas]; omega)).symm
  ·try rw [h2]
   try simp only [qa, qb, qc, qd, qe] at h2
   refine Qj rfl (Qa rfl (Qj rfl (Qa rfl (Qj rfl (XB rfl rfl (by omega) (QfN (by omega)) (Qj rfl (Qh7 rfl rfl (Qp rfl rfl ?_))))))))
   refine hK _ _ (Qb (kp3 rfl rfl rfl) ?_)
   refine Qw rfl (fun h3 => ?_) (fun h3 => ?_)
   ·try rw [h3]
    try simp only [qa, qb, qc, qd, qe] at h3
    refine Qf fun K hK => Qa rfl ?_
    refine hK _ _ (Qb (kp1 rfl) ?_)
    refine Qu (Qr (Qk (Q4 (Qr (Qk (Qt rfl ?_))))))
    exact (QgZ (i := i) (by omega) (by simp [Qas]; omega)).symm
   ·try rw [h3]
    try simp only [qa, qb, qc, qd, qe] at h3
    refine Qv (Qg (Qd (kp2 rfl rfl) (QL fun K hK => Qa rfl (Q1 rfl rfl (by first | exact Qq (by omega) (by omega) | exact Z0 (by omega) (by omega) | exact Yu (by omega) (by omega) | rfl) (Qa rfl (hK _ ?_))))))
    refine Qi (i + 1) ?_ ?_ ?_
    ·exact Zg (kp2 rfl rfl)
    ·exact ⟨by omega, Yf (by omega) hI.2 (by simp [Qas]; omega)⟩
    ·first | omega | (simp only; omega) | (dsimp only; omega)
 ·try rw [h1]
  try simp only [qa, qb, qc, qd, qe] at h1
  refine Zi (QK (Qx (QD (Qd (kp1 rfl) (Qf fun K hK => Qa rfl (XE rfl (Qh7 rfl rfl (Qa rfl ?_))))))))
  refine hK _ _ (Qb (kp1 rfl) ?_)
  refine Qu (Qt rfl ?_)
  rw [QjT (i := i) (by omega) hI.2]; cases s <;> simp
theorem Qdv {s : List UInt8} (hl : s.length <= 1000000) : Ok Tryz.prog 93 [.str s] (.bool (Qf5 s)) := by
 refine Ok.ofT Z1 Tryz.func93 Qs0 (Nat.le_of_ble_eq_true rfl) ?_
 show TW _ _ tf93.body _ _
 refine Qf fun K hK => Qa rfl ?_
 refine hK _ _ (Qb (kp1 rfl) ?_)
 refine QB ?_ -- 0
 refine Qf fun K hK => Qa rfl (XE rfl (Z8 rfl rfl (Qa rfl ?_)))
 refine QE (g := 8) rfl (fun h1 => ?_) (fun h1 => ?_)
 ·try rw [h1]
  try simp only [qa, qb, qc, qd, qe] at h1
  refine Qs rfl (Qs rfl (Qs rfl (Qp rfl rfl ?_)))
  refine hK _ _ (Qb (kp2 rfl rfl) ?_)
  refine Zv rfl (Qf fun K hK => Qa rfl ?_)
  refine hK _ _ (Qb (kp1 rfl) ?_)
  refine Qu (Qk (Qt rfl ?_))
  first | (have hz := XC (p := Xk) (s := s) (i := i) (by omega) hI.2; simp [Qf5, hz]; omega) | (have hz := XN (p := Xk) (s := s) (i := i) (by omega) (by simp [Xk]; omega); simp [Qf5, hz]; done) | (simp [Qf5]; omega)
 ·try rw [h1]
  try simp only [qa, qb, qc, qd, qe] at h1
  refine Qj rfl (Qa rfl (Qj rfl (XE rfl (Qj rfl (Qh7 rfl rfl (Qp rfl rfl ?_))))))
  refine hK _ _ (Qb (kp2 rfl rfl) ?_)
  refine Qw rfl (fun h2 => ?_) (fun h2 => ?_)
  ·try rw [h2]
   try simp only [qa, qb, qc, qd, qe] at h2
   refine Qf fun K hK => Qa rfl ?_
   refine hK _ _ (Qb (kp1 rfl) ?_)
   refine Qu (Qk (Qt rfl ?_))
   first | (have hz := XC (p := Xk) (s := s) (i := i) (by omega) hI.2; simp [Qf5, hz]; omega) | (have hz := XN (p := Xk) (s := s) (i := i) (by omega) (by simp [Xk]; omega); simp [Qf5, hz]; done) | (simp [Qf5]; omega)
  ·try rw [h2]
   try simp only [qa, qb, qc, qd, qe] at h2
   refine Qv (Qd (kp1 rfl) ?_)
   refine QB ?_ -- 1
   refine Qf fun K hK => Qa rfl ?_
   refine hK _ _ (Qb (kp2 rfl rfl) ?_)
   refine Qz ?_
   refine Zk (ι := Nat) (fun i => ⟨[(0, .str s), (3, .int .i64 i)], []⟩) (fun i => i <= s.length /\ (s.take i).all Xk = true) (fun i => s.length - i) 0 ?_ ?_ ?_
   ·exact Zg (kp2 rfl rfl)
   ·exact ⟨Nat.zero_le _, rfl⟩
   intro i hI
   try dsimp only
   refine QB ?_ -- 2
   refine Qf fun K hK => Qa rfl (Qa rfl (XE rfl (Z8 rfl rfl ?_)))
   refine hK _ _ (Qb (kp3 rfl rfl rfl) ?_)
   refine Qw rfl (fun h3 => ?_) (fun h3 => ?_)
   ·try rw [h3]
    try simp only [qa, qb, qc, qd, qe] at h3
    refine Qv (Qd (kp2 rfl rfl) ?_)
    refine QB ?_ -- 3
    refine Qz (Qf fun K hK => Qa rfl (Qa rfl (XB rfl rfl (by omega) (QfN (by omega)) (Qa rfl ?_))))
    refine hK _ _ (Qb (kp3 rfl rfl rfl) ?_)
    refine Qf fun K hK => Qa rfl (Z8 rfl rfl (Qa rfl ?_))
    refine QE (g := 24) rfl (fun h4 => ?_) (fun h4 => ?_)
    ·try rw [h4]
     try simp only [qa, qb, qc, qd, qe] at h4
     refine Qs rfl (Qs rfl (Qp rfl rfl (Qa rfl (Qj rfl (Qa rfl (Qj rfl (Z8 rfl rfl (Qj rfl (Qa rfl ?_)))))))))
     refine QE (g := 31) rfl (fun h5 => ?_) (fun h5 => ?_)
     ·try rw [h5]
      try simp only [qa, qb, qc, qd, qe] at h5
      refine Qs rfl (Qs rfl (Qj rfl (Qp rfl rfl (Qp rfl rfl (Qa rfl (Qj rfl (Qa rfl (Qj rfl (XM rfl rfl (Qp rfl rfl ?_))))))))))
      refine hK _ _ (Qb (kp3 rfl rfl rfl) ?_)
      refine Qw rfl (fun h6 => ?_) (fun h6 => ?_)
      ·try rw [h6]
       try simp only [qa, qb, qc, qd, qe] at h6
       refine Qf fun K hK => Qa rfl ?_
       refine hK _ _ (Qb (kp1 rfl) ?_)
       refine Qu (Qr (Qk (Q4 (Qr (Qk (Qt rfl ?_))))))
       first | (have hz := XC (p := Xk) (s := s) (i := i) (by omega) hI.2; simp [Qf5, hz]; omega) | (have hz := XN (p := Xk) (s := s) (i := i) (by omega) (by simp [Xk]; omega); simp [Qf5, hz]; done) | (simp [Qf5]; omega)
      ·try rw [h6]
       try simp only [qa, qb, qc, qd, qe] at h6
       refine Qv (Qg (Qd (kp2 rfl rfl) (QL fun K hK => Qa rfl (Q1 rfl rfl (by first | exact Qq (by omega) (by omega) | exact Z0 (by omega) (by omega) | exact Yu (by omega) (by omega) | rfl) (Qa rfl (hK _ ?_))))))
       refine Qi (i + 1) ?_ ?_ ?_
       ·exact Zg (kp2 rfl rfl)
       ·exact ⟨by omega, Yf (by omega) hI.2 (by simp [Xk]; omega)⟩
       ·first | omega | (simp only; omega) | (dsimp only; omega)
     ·try rw [h5]
      try simp only [qa, qb, qc, qd, qe] at h5
      refine Qj rfl (Qa rfl (Qj rfl (Qh7 rfl rfl (Qj rfl (Qp rfl rfl (Qp rfl rfl (Qa rfl ?_)))))))
      refine QE (g := 36) rfl (fun h7 => ?_) (fun h7 => ?_)
      ·try rw [h7]
       try simp only [qa, qb, qc, qd, qe] at h7
       refine Qj rfl (Qa rfl (Qj rfl (XM rfl rfl (Qp rfl rfl ?_))))
       refine hK _ _ (Qb (kp3 rfl rfl rfl) ?_)
       refine Qw rfl (fun h8 => ?_) (fun h8 => ?_)
       ·try rw [h8]
        try simp only [qa, qb, qc, qd, qe] at h8
        refine Qf fun K hK => Qa rfl ?_
        refine hK _ _ (Qb (kp1 rfl) ?_)
        refine Qu (Qr (Qk (Q4 (Qr (Qk (Qt rfl ?_))))))
        first | (have hz := XC (p := Xk) (s := s) (i := i) (by omega) hI.2; simp [Qf5, hz]; omega) | (have hz := XN (p := Xk) (s := s) (i := i) (by omega) (by simp [Xk]; omega); simp [Qf5, hz]; done) | (simp [Qf5]; omega)
       ·try rw [h8]
        try simp only [qa, qb, qc, qd, qe] at h8
        refine Qv (Qg (Qd (kp2 rfl rfl) (QL fun K hK => Qa rfl (Q1 rfl rfl (by first | exact Qq (by omega) (by omega) | exact Z0 (by omega) (by omega) | exact Yu (by omega) (by omega) | rfl) (Qa rfl (hK _ ?_))))))
        refine Qi (i + 1) ?_ ?_ ?_
        ·exact Zg (kp2 rfl rfl)
        ·exact ⟨by omega, Yf (by omega) hI.2 (by simp [Xk]; omega)⟩
        ·first | omega | (simp only; omega) | (dsimp only; omega)
      ·try rw [h7]
       try simp only [qa, qb, qc, qd, qe] at h7
       refine Qs rfl (Qs rfl (Qp rfl rfl ?_))
       refine hK _ _ (Qb (kp3 rfl rfl rfl) ?_)
       refine ZJ rfl (Qv (Qg (Qd (kp2 rfl rfl) (QL fun K hK => Qa rfl (Q1 rfl rfl (by first | exact Qq (by omega) (by omega) | exact Z0 (by omega) (by omega) | exact Yu (by omega) (by omega) | rfl) (Qa rfl (hK _ ?_)))))))
       refine Qi (i + 1) ?_ ?_ ?_
       ·exact Zg (kp2 rfl rfl)
       ·exact ⟨by omega, Yf (by omega) hI.2 (by simp [Xk]; omega)⟩
       ·first | omega | (simp only; omega) | (dsimp only; omega)
    ·try rw [h4]
     try simp only [qa, qb, qc, qd, qe] at h4
     refine Qj rfl (Qa rfl (Qj rfl (Qh7 rfl rfl (Qp rfl rfl (Qa rfl ?_)))))
     refine QE (g := 28) rfl (fun h9 => ?_) (fun h9 => ?_)
     ·try rw [h9]
      try simp only [qa, qb, qc, qd, qe] at h9
      refine Qj rfl (Qa rfl (Qj rfl (Z8 rfl rfl (Qj rfl (Qa rfl ?_)))))
      refine QE (g := 31) rfl (fun h10 => ?_) (fun h10 => ?_)
      ·try rw [h10]
       try simp only [qa, qb, qc, qd, qe] at h10
       refine Qs rfl (Qs rfl (Qj rfl (Qp rfl rfl (Qp rfl rfl (Qa rfl (Qj rfl (Qa rfl (Qj rfl (XM rfl rfl (Qp rfl rfl ?_))))))))))
       refine hK _ _ (Qb (kp3 rfl rfl rfl) ?_)
       refine Qw rfl (fun h11 => ?_) (fun h11 => ?_)
       ·try rw [h11]
        try simp only [qa, qb, qc, qd, qe] at h11
        refine Qf fun K hK => Qa rfl ?_
        refine hK _ _ (Qb (kp1 rfl) ?_)
        refine Qu (Qr (Qk (Q4 (Qr (Qk (Qt rfl ?_))))))
        first | (have hz := XC (p := Xk) (s := s) (i := i) (by omega) hI.2; simp [Qf5, hz]; omega) | (have hz := XN (p := Xk) (s := s) (i := i) (by omega) (by simp [Xk]; omega); simp [Qf5, hz]; done) | (simp [Qf5]; omega)
       ·try rw [h11]
        try simp only [qa, qb, qc, qd, qe] at h11
        refine Qv (Qg (Qd (kp2 rfl rfl) (QL fun K hK => Qa rfl (Q1 rfl rfl (by first | exact Qq (by omega) (by omega) | exact Z0 (by omega) (by omega) | exact Yu (by omega) (by omega) | rfl) (Qa rfl (hK _ ?_))))))
        refine Qi (i + 1) ?_ ?_ ?_
        ·exact Zg (kp2 rfl rfl)
        ·exact ⟨by omega, Yf (by omega) hI.2 (by simp [Xk]; omega)⟩
        ·first | omega | (simp only; omega) | (dsimp only; omega)
      ·try rw [h10]
       try simp only [qa, qb, qc, qd, qe] at h10
       refine Qj rfl (Qa rfl (Qj rfl (Qh7 rfl rfl (Qj rfl (Qp rfl rfl (Qp rfl rfl (Qa rfl ?_)))))))
       refine QE (g := 36) rfl (fun h12 => ?_) (fun h12 => ?_)
       ·try rw [h12]
        try simp only [qa, qb, qc, qd, qe] at h12
        refine Qj rfl (Qa rfl (Qj rfl (XM rfl rfl (Qp rfl rfl ?_))))
        refine hK _ _ (Qb (kp3 rfl rfl rfl) ?_)
        refine Qw rfl (fun h13 => ?_) (fun h13 => ?_)
        ·try rw [h13]
         try simp only [qa, qb, qc, qd, qe] at h13
         refine Qf fun K hK => Qa rfl ?_
         refine hK _ _ (Qb (kp1 rfl) ?_)
         refine Qu (Qr (Qk (Q4 (Qr (Qk (Qt rfl ?_))))))
         first | (have hz := XC (p := Xk) (s := s) (i := i) (by omega) hI.2; simp [Qf5, hz]; omega) | (have hz := XN (p := Xk) (s := s) (i := i) (by omega) (by simp [Xk]; omega); simp [Qf5, hz]; done) | (simp [Qf5]; omega)
        ·try rw [h13]
         try simp only [qa, qb, qc, qd, qe] at h13
         refine Qv (Qg (Qd (kp2 rfl rfl) (QL fun K hK => Qa rfl (Q1 rfl rfl (by first | exact Qq (by omega) (by omega) | exact Z0 (by omega) (by omega) | exact Yu (by omega) (by omega) | rfl) (Qa rfl (hK _ ?_))))))
         refine Qi (i + 1) ?_ ?_ ?_
         ·exact Zg (kp2 rfl rfl)
         ·exact ⟨by omega, Yf (by omega) hI.2 (by simp [Xk]; omega)⟩
         ·first | omega | (simp only; omega) | (dsimp only; omega)
       ·try rw [h12]
        try simp only [qa, qb, qc, qd, qe] at h12
        refine Qs rfl (Qs rfl (Qp rfl rfl ?_))
        refine hK _ _ (Qb (kp3 rfl rfl rfl) ?_)
        refine ZJ rfl (Qv (Qg (Qd (kp2 rfl rfl) (QL fun K hK => Qa rfl (Q1 rfl rfl (by first | exact Qq (by omega) (by omega) | exact Z0 (by omega) (by omega) | exact Yu (by omega) (by omega) | rfl) (Qa rfl (hK _ ?_)))))))
        refine Qi (i + 1) ?_ ?_ ?_
        ·exact Zg (kp2 rfl rfl)
        ·exact ⟨by omega, Yf (by omega) hI.2 (by simp [Xk]; omega)⟩
        ·first | omega | (simp only; omega) | (dsimp only; omega)
     ·try rw [h9]
      try simp only [qa, qb, qc, qd, qe] at h9
      refine Qs rfl (Qs rfl (Qs rfl (Zy rfl (Zy rfl (Qs rfl (Qp rfl rfl (Qa rfl (Qs rfl (Qs rfl (Qp rfl rfl ?_))))))))))
      refine hK _ _ (Qb (kp3 rfl rfl rfl) ?_)
      refine ZJ rfl (Qv (Qg (Qd (kp2 rfl rfl) (QL fun K hK => Qa rfl (Q1 rfl rfl (by first | exact Qq (by omega) (by omega) | exact Z0 (by omega) (by omega) | exact Yu (by omega) (by omega) | rfl) (Qa rfl (hK _ ?_)))))))
      refine Qi (i + 1) ?_ ?_ ?_
      ·exact Zg (kp2 rfl rfl)
      ·exact ⟨by omega, Yf (by omega) hI.2 (by simp [Xk]; omega)⟩
      ·first | omega | (simp only; omega) | (dsimp only; omega)
   ·try rw [h3]
    try simp only [qa, qb, qc, qd, qe] at h3
    refine Zi (QK (Qx (QD (Qd (Q8) (Qf fun K hK => Qa rfl ?_)))))
    refine hK _ _ (Qb (kp1 rfl) ?_)
    refine Qu (Qt rfl ?_)
    first | (have hz := XC (p := Xk) (s := s) (i := i) (by omega) hI.2; simp [Qf5, hz]; omega) | (have hz := XN (p := Xk) (s := s) (i := i) (by omega) (by simp [Xk]; omega); simp [Qf5, hz]; done) | (simp [Qf5]; omega)
theorem YN {s : List UInt8} (hl : s.length <= 1000000) : Ok Tryz.prog 94 [.str s] (.tup [.int .i64 (Xe s).1, .bool (Xe s).2]) := by
 refine Ok.ofT Z1 Tryz.func94 Qs1 (Nat.le_of_ble_eq_true rfl) ?_
 show TW _ _ tf94.body _ _
 refine Qf fun K hK => Qa rfl (Qa rfl ?_)
 refine hK _ _ (Qb (kp1 rfl) ?_)
 refine Qgw (ι := Unit) (fun _u => ⟨[(0, .str s)], []⟩) (fun _u => ¬ (s.length < 1 \/ 9 < s.length \/ (1 < s.length /\ s.head? = some 48))) ?_ ?_
 ·skip
  refine Qf fun K hK => Qa rfl (XE rfl (Z8 rfl rfl (Qa rfl ?_)))
  refine QE (g := 9) rfl (fun h1 => ?_) (fun h1 => ?_)
  ·try rw [h1]
   try simp only [qa, qb, qc, qd, qe, XQ, Bool.and_eq_true, Bool.and_eq_false_iff] at h1
   refine Qs rfl (Qs rfl (Qs rfl (Qp rfl rfl (Qa rfl (Qs rfl (Qs rfl (Qs rfl (Qs rfl (Zy rfl (Zy rfl (Zy rfl ?_)))))))))))
   refine Qs rfl (Qp rfl rfl ?_)
   refine hK _ _ (Qb (kp2 rfl rfl) ?_)
   refine Zv rfl (Qf fun K hK => Qa rfl (Qa rfl ?_))
   refine hK _ _ (Qb (kp2 rfl rfl) ?_)
   refine Qu (QdK (QT rfl rfl ?_))
   first | (rw [QeC (s := s) (by omega)]; exact ⟨rfl, rfl⟩) | (rw [Qcy (s := s) (by omega) (by assumption)]; exact ⟨rfl, rfl⟩) | (rw [QeB (s := s) (i := i) (by omega) (by simp [Qas]; omega)]; exact ⟨rfl, rfl⟩) | (rw [QeA (s := s) (i := i) (by omega) (by omega)]; exact ⟨rfl, rfl⟩) | (rw [QgY (s := s) (i := i) hJ (by omega) hI.2.1 (by omega)]; exact ⟨rfl, rfl⟩)
  ·try rw [h1]
   try simp only [qa, qb, qc, qd, qe, XQ, Bool.and_eq_true, Bool.and_eq_false_iff] at h1
   refine Qj rfl (Qa rfl (Qj rfl (XE rfl (Qj rfl (Qh7 rfl rfl (Qp rfl rfl (Qa rfl ?_)))))))
   refine QE (g := 14) rfl (fun h2 => ?_) (fun h2 => ?_)
   ·try rw [h2]
    try simp only [qa, qb, qc, qd, qe, XQ, Bool.and_eq_true, Bool.and_eq_false_iff] at h2
    refine Qs rfl (Qs rfl (Qs rfl (Qs rfl (Zy rfl (Zy rfl (Zy rfl (Qs rfl (Qp rfl rfl ?_))))))))
    refine hK _ _ (Qb (kp2 rfl rfl) ?_)
    refine Zv rfl (Qf fun K hK => Qa rfl (Qa rfl ?_))
    refine hK _ _ (Qb (kp2 rfl rfl) ?_)
    refine Qu (QdK (QT rfl rfl ?_))
    first | (rw [QeC (s := s) (by omega)]; exact ⟨rfl, rfl⟩) | (rw [Qcy (s := s) (by omega) (by assumption)]; exact ⟨rfl, rfl⟩) | (rw [QeB (s := s) (i := i) (by omega) (by simp [Qas]; omega)]; exact ⟨rfl, rfl⟩) | (rw [QeA (s := s) (i := i) (by omega) (by omega)]; exact ⟨rfl, rfl⟩) | (rw [QgY (s := s) (i := i) hJ (by omega) hI.2.1 (by omega)]; exact ⟨rfl, rfl⟩)
   ·try rw [h2]
    try simp only [qa, qb, qc, qd, qe, XQ, Bool.and_eq_true, Bool.and_eq_false_iff] at h2
    refine Qj rfl (Qa rfl (Qj rfl (XE rfl (Qj rfl (Qh7 rfl rfl (Qj rfl (Qa rfl ?_)))))))
    refine QE (g := 18) rfl (fun h3 => ?_) (fun h3 => ?_)
    ·try rw [h3]
     try simp only [qa, qb, qc, qd, qe, XQ, Bool.and_eq_true, Bool.and_eq_false_iff] at h3
     refine Qj rfl (Qa rfl (Qj rfl (XB rfl rfl (by omega) (QfN (i := 0) (by omega)) (Qj rfl (ZN rfl rfl (Qj rfl (Qp rfl rfl (Qp rfl rfl ?_))))))))
     refine hK _ _ (Qb (kp2 rfl rfl) ?_)
     refine Qw rfl (fun h4 => ?_) (fun h4 => ?_)
     ·try rw [h4]
      try simp only [qa, qb, qc, qd, qe, XQ, Bool.and_eq_true, Bool.and_eq_false_iff] at h4
      refine Qf fun K hK => Qa rfl (Qa rfl ?_)
      refine hK _ _ (Qb (kp2 rfl rfl) ?_)
      refine Qu (QdK (QT rfl rfl ?_))
      first | (rw [QeC (s := s) (by omega)]; exact ⟨rfl, rfl⟩) | (rw [Qcy (s := s) (by omega) (by assumption)]; exact ⟨rfl, rfl⟩) | (rw [QeB (s := s) (i := i) (by omega) (by simp [Qas]; omega)]; exact ⟨rfl, rfl⟩) | (rw [QeA (s := s) (i := i) (by omega) (by omega)]; exact ⟨rfl, rfl⟩) | (rw [QgY (s := s) (i := i) hJ (by omega) hI.2.1 (by omega)]; exact ⟨rfl, rfl⟩)
     ·try rw [h4]
      try simp only [qa, qb, qc, qd, qe, XQ, Bool.and_eq_true, Bool.and_eq_false_iff] at h4
      refine Qv ?_
      refine Yb () ?_ ?_
      ·exact Zg (kp1 rfl)
      ·rintro (q | q | q) <;> first | omega | exact Qmu (s := s) (by omega) (by assumption) q.2
    ·try rw [h3]
     try simp only [qa, qb, qc, qd, qe, XQ, Bool.and_eq_true, Bool.and_eq_false_iff] at h3
     refine Qs rfl (Qs rfl (Qs rfl (Qj rfl (Qp rfl rfl (Qp rfl rfl ?_)))))
     refine hK _ _ (Qb (kp2 rfl rfl) ?_)
     refine ZJ rfl (Qv ?_)
     refine Yb () ?_ ?_
     ·exact Zg (kp1 rfl)
     ·rintro (q | q | q) <;> first | omega | exact Qmu (s := s) (by omega) (by assumption) q.2
 intro _u hJ
 try dsimp only
 refine Qf fun K hK => Qa rfl ?_
 refine hK _ _ (Qb (kp2 rfl rfl) ?_)
 refine QB ?_ -- 1
 refine Qf fun K hK => Qa rfl ?_
 refine hK _ _ (Qb (kp3 rfl rfl rfl) ?_)
 refine Qz ?_
 refine Zk (ι := Nat) (fun i => ⟨[(0, .str s), (4, .int .i64 (val (s.take i))), (5, .int .i64 i)], []⟩) (fun i => i <= s.length /\ (s.take i).all Qas = true /\ s.length <= 9) (fun i => s.length - i) 0 ?_ ?_ ?_
 ·first | exact Zg (kp3 rfl rfl rfl) | exact Q2 (l := [0, 4, 5]) (kp3 rfl rfl rfl) Ql (by rw [Qlf (by omega)]; simp; omega) rfl rfl
 ·exact ⟨Nat.zero_le _, rfl, by omega⟩
 intro i hI
 have hv := QqM (s := s.take i) hI.2.1
 have hp : 10 ^ (s.take i).length <= 10 ^ 9 := Nat.pow_le_pow_right (by omega) (by simp; omega)
 try dsimp only
 refine QB ?_ -- 2
 refine Qf fun K hK => Qa rfl (Qa rfl (XE rfl (Z8 rfl rfl ?_)))
 refine hK _ _ (Qb (kp4 rfl rfl rfl rfl) ?_)
 refine Qw rfl (fun h5 => ?_) (fun h5 => ?_)
 ·try rw [h5]
  try simp only [qa, qb, qc, qd, qe, XQ, Bool.and_eq_true, Bool.and_eq_false_iff] at h5
  refine Qv (Qd (kp3 rfl rfl rfl) ?_)
  refine QB ?_ -- 3
  refine Qz ?_
  refine QB ?_ -- 4
  refine Qf fun K hK => Qa rfl (Qa rfl (XB rfl rfl (by omega) (QfN (by omega)) (QI (QcN) rfl rfl (.inr rfl) (Yp rfl ?_))))
  refine hK _ _ (Qb (kp4 rfl rfl rfl rfl) ?_)
  refine Qw rfl (fun h6 => ?_) (fun h6 => ?_)
  ·try rw [h6]
   try simp only [qa, qb, qc, qd, qe, XQ, Bool.and_eq_true, Bool.and_eq_false_iff] at h6
   refine Qf fun K hK => Qa rfl (Qa rfl ?_)
   refine hK _ _ (Qb (kp2 rfl rfl) ?_)
   refine Qu (Qk (Qr (Qk (Q4 (Qr (Qk (QT rfl rfl ?_)))))))
   first | (rw [QeC (s := s) (by omega)]; exact ⟨rfl, rfl⟩) | (rw [Qcy (s := s) (by omega) (by assumption)]; exact ⟨rfl, rfl⟩) | (rw [QeB (s := s) (i := i) (by omega) (by simp [Qas]; omega)]; exact ⟨rfl, rfl⟩) | (rw [QeA (s := s) (i := i) (by omega) (by omega)]; exact ⟨rfl, rfl⟩) | (rw [QgY (s := s) (i := i) hJ (by omega) hI.2.1 (by omega)]; exact ⟨rfl, rfl⟩)
  ·try rw [h6]
   try simp only [qa, qb, qc, qd, qe, XQ, Bool.and_eq_true, Bool.and_eq_false_iff] at h6
   refine Qv (Qd (kp3 rfl rfl rfl) (QL fun K hK => Qa rfl (Qpi rfl rfl (by first | exact Qq (by omega) (by omega) | exact Z0 (by omega) (by omega) | exact Yu (by omega) (by omega) | rfl) (Qa rfl (Qa rfl (XB rfl rfl (by omega) (QfN (by omega)) (Qaq rfl rfl (by first | exact Qq (by omega) (by omega) | exact Z0 (by omega) (by omega) | exact Yu (by omega) (by omega) | rfl) (Qic rfl (by first | exact Qq (by omega) (by omega) | exact Z0 (by omega) (by omega) | exact Yu (by omega) (by omega) | rfl) (Q1 rfl rfl (by first | exact Qq (by omega) (by omega) | exact Z0 (by omega) (by omega) | exact Yu (by omega) (by omega) | rfl) (Qa rfl ?_))))))))))
   refine hK _ ?_
   refine Qg (Qd (kp3 rfl rfl rfl) (QL fun K hK => Qa rfl (Q1 rfl rfl (by first | exact Qq (by omega) (by omega) | exact Z0 (by omega) (by omega) | exact Yu (by omega) (by omega) | rfl) (Qa rfl (hK _ ?_)))))
   refine Qi (i + 1) ?_ ?_ ?_
   ·first | exact Zg (kp3 rfl rfl rfl) | exact Q2 (l := [0, 4, 5]) (kp3 rfl rfl rfl) Ql (by rw [Qlf (by omega)]; simp; omega) rfl rfl
   ·exact ⟨by omega, Yf (by omega) hI.2.1 (by simp [Qas]; omega), hI.2.2⟩
   ·first | omega | (simp only; omega) | (dsimp only; omega)
 ·try rw [h5]
  try simp only [qa, qb, qc, qd, qe, XQ, Bool.and_eq_true, Bool.and_eq_false_iff] at h5
  refine Zi (QK (Qx (QD (Qd (kp1 rfl) ?_))))
  refine QB ?_ -- 5
  refine Qf fun K hK => Qa rfl (Qh7 rfl rfl ?_)
  refine hK _ _ (Qb (kp2 rfl rfl) ?_)
  refine Qw rfl (fun h7 => ?_) (fun h7 => ?_)
  ·try rw [h7]
   try simp only [qa, qb, qc, qd, qe, XQ, Bool.and_eq_true, Bool.and_eq_false_iff] at h7
   refine Qf fun K hK => Qa rfl (Qa rfl ?_)
   refine hK _ _ (Qb (kp2 rfl rfl) ?_)
   refine Qu (Qk (QT rfl rfl ?_))
   first | (rw [QeC (s := s) (by omega)]; exact ⟨rfl, rfl⟩) | (rw [Qcy (s := s) (by omega) (by assumption)]; exact ⟨rfl, rfl⟩) | (rw [QeB (s := s) (i := i) (by omega) (by simp [Qas]; omega)]; exact ⟨rfl, rfl⟩) | (rw [QeA (s := s) (i := i) (by omega) (by omega)]; exact ⟨rfl, rfl⟩) | (rw [QgY (s := s) (i := i) hJ (by omega) hI.2.1 (by omega)]; exact ⟨rfl, rfl⟩)
  ·try rw [h7]
   try simp only [qa, qb, qc, qd, qe, XQ, Bool.and_eq_true, Bool.and_eq_false_iff] at h7
   refine Qv (Qd (kp1 rfl) (Qf fun K hK => Qa rfl (Qa rfl (Qa rfl ?_))))
   refine hK _ _ (Qb (kp2 rfl rfl) ?_)
   refine Qu (QT rfl rfl ?_)
   first | (rw [QeC (s := s) (by omega)]; exact ⟨rfl, rfl⟩) | (rw [Qcy (s := s) (by omega) (by assumption)]; exact ⟨rfl, rfl⟩) | (rw [QeB (s := s) (i := i) (by omega) (by simp [Qas]; omega)]; exact ⟨rfl, rfl⟩) | (rw [QeA (s := s) (i := i) (by omega) (by omega)]; exact ⟨rfl, rfl⟩) | (rw [QgY (s := s) (i := i) hJ (by omega) hI.2.1 (by omega)]; exact ⟨rfl, rfl⟩)
end Go.Proofs
namespace Go.Proofs
open Go Go.Abs M3
set_option linter.unusedVariables false
set_option linter.unusedSimpArgs false
theorem Qdu {a b : List UInt8} (ha : a.length <= 1000000) (hb : b.length <= 1000000) : Ok Tryz.prog 118 [.str a, .str b] (.int .i64 (QnB a b)) := by
 refine Ok.ofT Z1 Tryz.func118 QrC (Nat.le_of_ble_eq_true rfl) ?_
 show TW _ _ tf118.body _ _
 refine Qf fun K hK => Qa rfl ?_
 refine hK _ _ (Qb (kp2 rfl rfl) ?_)
 refine Qf fun K hK => Qa rfl (QI (YH (by omega)) rfl rfl (.inr rfl) (Qa rfl (QI (YH (by omega)) rfl rfl (.inr rfl) (Qa rfl (Qa rfl ?_)))))
 refine hK _ _ (Qb (kp4 rfl rfl rfl rfl) ?_)
 refine QB ?_ -- 0
 refine Qz (Qf fun K hK => Qa rfl (Qa rfl ?_))
 refine QE (g := 17) rfl (fun h1 => ?_) (fun h1 => ?_)
 ·try rw [h1]
  try simp only [qa, qb, qc, qd, qe] at h1
  refine Qj rfl (Qa rfl (Qp rfl rfl (Qa rfl ?_)))
  refine hK _ _ (Qb (kp5 rfl rfl rfl rfl rfl) ?_)
  refine Qw rfl (fun h2 => ?_) (fun h2 => ?_)
  ·try rw [h2]
   try simp only [qa, qb, qc, qd, qe] at h2
   refine Qf fun K hK => Qa rfl (QI (YN (by omega)) rfl rfl (.inr rfl) (Qa rfl (QW rfl rfl (QW rfl rfl (Qa rfl (Qa rfl ?_))))))
   refine hK _ _ (Qb (kp2 rfl rfl) ?_)
   refine Qf fun K hK => Qa rfl (QI (YN (by omega)) rfl rfl (.inr rfl) (Qa rfl (QW rfl rfl (QW rfl rfl (Qa rfl (Qa rfl ?_))))))
   refine hK _ _ (Qb (kp2 rfl rfl) ?_)
   refine Qf fun K hK => Qa rfl (Qa rfl (QI (Zw) rfl rfl (.inr rfl) (Qa rfl ?_)))
   refine hK _ _ (Qb (kp1 rfl) ?_)
   refine Qu (Qr (Qk (QG rfl ?_)))
   simp [QnB, h1, h2]
  ·try rw [h2]
   try simp only [qa, qb, qc, qd, qe] at h2
   refine Qf fun K hK => Qa rfl (Qa rfl ?_)
   refine hK _ _ (Qb (kp4 rfl rfl rfl rfl) ?_)
   refine Zv rfl (Qf fun K hK => Qa rfl ?_)
   refine hK _ _ (Qb (kp1 rfl) ?_)
   refine Qu (Qr (Qk (QG rfl ?_)))
   simp [QnB, h1, h2]
 ·try rw [h1]
  try simp only [qa, qb, qc, qd, qe] at h1
  refine Qs rfl (Qp rfl rfl (Qa rfl ?_))
  refine hK _ _ (Qb (kp5 rfl rfl rfl rfl rfl) ?_)
  refine ZJ rfl (Qf fun K hK => Qa rfl (Qa rfl ?_))
  refine hK _ _ (Qb (kp4 rfl rfl rfl rfl) ?_)
  refine ZJ rfl (Qf fun K hK => Qa rfl (Qa rfl ?_))
  refine hK _ _ (Qb (kp3 rfl rfl rfl) ?_)
  refine Qw rfl (fun h3 => ?_) (fun h3 => ?_)
  ·try rw [h3]
   try simp only [qa, qb, qc, qd, qe] at h3
   refine Qf fun K hK => Qa rfl ?_
   refine hK _ _ (Qb (kp1 rfl) ?_)
   refine Qu (Qr (Qk (QG rfl ?_)))
   simp [QnB, h1, h3]
  ·try rw [h3]
   try simp only [qa, qb, qc, qd, qe] at h3
   refine Qv (Qg (Qd (kp2 rfl rfl) (Qf fun K hK => Qa rfl (Qa rfl (QI (QcU) rfl rfl (.inr rfl) (Qa rfl ?_))))))
   refine hK _ _ (Qb (kp1 rfl) ?_)
   refine Qu (QG rfl ?_)
   simp [QnB, h1, h3]
theorem Qc9 {a b : List UInt8} (ha : a.length <= 1000000) (hb : b.length <= 1000000) : Ok Tryz.prog 117 [.str a, .str b] (.int .i64 (Qgs a b)) := by
 refine Ok.ofT Z1 Tryz.func117 QrB (Nat.le_of_ble_eq_true rfl) ?_
 show TW _ _ tf117.body _ _
 refine Qf fun K hK => Qa rfl ?_
 refine hK _ _ (Qb (kp2 rfl rfl) ?_)
 refine QB ?_ -- 0
 refine Qz (Qf fun K hK => Qa rfl (Qa rfl (Qhe rfl rfl (Qa rfl ?_))))
 refine hK _ _ (Qb (kp3 rfl rfl rfl) ?_)
 refine Qw rfl (fun h1 => ?_) (fun h1 => ?_)
 ·try rw [h1]
  try simp only [qa, qb, qc, qd, qe, Ze] at h1
  refine Qf fun K hK => Qa rfl ?_
  refine hK _ _ (Qb (kp1 rfl) ?_)
  refine Qu (Qr (Qk (QG rfl ?_)))
  first | (simp_all [Qgs]; done) | (rw [hI.2.2, Qcw (by omega) (by omega) (by assumption)]) | (rw [hI.2.2, Qcv (by omega) (by omega) (by omega)]; simp [Ze])
 ·try rw [h1]
  try simp only [qa, qb, qc, qd, qe, Ze] at h1
  refine Qf fun K hK => Qa rfl (Qhe rfl rfl (Qa rfl ?_))
  refine hK _ _ (Qb (kp3 rfl rfl rfl) ?_)
  refine Qw rfl (fun h2 => ?_) (fun h2 => ?_)
  ·try rw [h2]
   try simp only [qa, qb, qc, qd, qe, Ze] at h2
   refine Qf fun K hK => Qa rfl ?_
   refine hK _ _ (Qb (kp1 rfl) ?_)
   refine Qu (Qr (Qk (QG rfl ?_)))
   first | (simp_all [Qgs]; done) | (rw [hI.2.2, Qcw (by omega) (by omega) (by assumption)]) | (rw [hI.2.2, Qcv (by omega) (by omega) (by omega)]; simp [Ze])
  ·try rw [h2]
   try simp only [qa, qb, qc, qd, qe, Ze] at h2
   refine Qf fun K hK => Qa rfl (Qhe rfl rfl (Qa rfl ?_))
   refine hK _ _ (Qb (kp3 rfl rfl rfl) ?_)
   refine Qw rfl (fun h3 => ?_) (fun h3 => ?_)
   ·try rw [h3]
    try simp only [qa, qb, qc, qd, qe, Ze] at h3
    refine Qf fun K hK => Qa rfl ?_
    refine hK _ _ (Qb (kp1 rfl) ?_)
    refine Qu (Qr (Qk (QG rfl ?_)))
    first | (simp_all [Qgs]; done) | (rw [hI.2.2, Qcw (by omega) (by omega) (by assumption)]) | (rw [hI.2.2, Qcv (by omega) (by omega) (by omega)]; simp [Ze])
   ·try rw [h3]
    try simp only [qa, qb, qc, qd, qe, Ze] at h3
    refine Qv (Qg (Qd (kp2 rfl rfl) (Qf fun K hK => Qa rfl (QI (YZ (by omega)) rfl rfl (.inl rfl) (Qa rfl (QI (YZ (by omega)) rfl rfl (.inl rfl) (Qa rfl (Qa rfl ?_))))))))
    refine hK _ _ (Qb (kp2 rfl rfl) ?_)
    refine QB ?_ -- 1
    refine Qf fun K hK => Qa rfl ?_
    refine hK _ _ (Qb (kp3 rfl rfl rfl) ?_)
    refine Qz ?_
    refine Zk (ι := Nat) (fun i => ⟨[(5, .sl (Qa0 (Ys a 46))), (6, .sl (Qa0 (Ys b 46))), (7, .int .i64 i)], []⟩) (fun i => i <= (Ys a 46).length /\ i <= (Ys b 46).length /\ Qgs a b = QlR ((Ys a 46).drop i) ((Ys b 46).drop i)) (fun i => (Ys a 46).length - i) 0 ?_ ?_ ?_
    ·exact Zg (kp3 rfl rfl rfl)
    ·exact ⟨Nat.zero_le _, Nat.zero_le _, by simp_all [Qgs]⟩
    intro i hI
    have sl := Qno (s := a) (c := 46)
    try dsimp only
    refine QB ?_ -- 2
    refine Qf fun K hK => Qa rfl (Qa rfl (QR rfl rfl (Z8 rfl rfl (Qa rfl ?_))))
    refine QE (g := 27) rfl (fun h4 => ?_) (fun h4 => ?_)
    ·try rw [h4]
     try simp only [qa, qb, qc, qd, qe, Ze] at h4
     refine Qj rfl (Qa rfl (Qj rfl (Qa rfl (Qj rfl (QR rfl rfl (Qj rfl (Z8 rfl rfl (Qp rfl rfl ?_))))))))
     refine hK _ _ (Qb (kp4 rfl rfl rfl rfl) ?_)
     refine Qw rfl (fun h5 => ?_) (fun h5 => ?_)
     ·try rw [h5]
      try simp only [qa, qb, qc, qd, qe, Ze] at h5
      refine Qv (Qd (kp3 rfl rfl rfl) ?_)
      refine QB ?_ -- 3
      refine Qz (Qf fun K hK => Qa rfl (Qa rfl (QJ rfl rfl rfl (by omega) (QdI (by omega)) rfl (QO (ds0 := [1, 0]) rfl rfl rfl rfl rfl (Qa rfl (Qa rfl (QJ rfl rfl rfl (by omega) (QdI (by omega)) rfl (QO (ds0 := [1, 0]) rfl rfl rfl rfl rfl (QV (ds0 := [0]) (Qdu (Qd7 (by omega) ha) (Qd7 (by omega) hb)) rfl rfl (.inr rfl) rfl rfl (Qa rfl ?_))))))))))
      refine hK _ _ (Qb (kp4 rfl rfl rfl rfl) ?_)
      refine Qf fun K hK => Qa rfl (XM rfl rfl ?_)
      refine hK _ _ (Qb (kp5 rfl rfl rfl rfl rfl) ?_)
      refine Qw rfl (fun h6 => ?_) (fun h6 => ?_)
      ·try rw [h6]
       try simp only [qa, qb, qc, qd, qe, Ze] at h6
       refine Qf fun K hK => Qa rfl (Qa rfl ?_)
       refine hK _ _ (Qb (kp1 rfl) ?_)
       refine Qu (Qr (Qk (Q4 (Qr (Qk (QG rfl ?_))))))
       first | (simp_all [Qgs]; done) | (rw [hI.2.2, Qcw (by omega) (by omega) (by assumption)]) | (rw [hI.2.2, Qcv (by omega) (by omega) (by omega)]; simp [Ze])
      ·try rw [h6]
       try simp only [qa, qb, qc, qd, qe, Ze] at h6
       refine Qv (Qg (Qd (kp3 rfl rfl rfl) (QL fun K hK => Qa rfl (Q1 rfl rfl (by first | exact Qq (by omega) (by omega) | exact Z0 (by omega) (by omega) | exact Yu (by omega) (by omega) | rfl) (Qa rfl (hK _ ?_))))))
       refine Qi (i + 1) ?_ ?_ ?_
       ·exact Zg (kp3 rfl rfl rfl)
       ·exact ⟨by omega, by omega, by rw [hI.2.2, QmP (by omega) (by omega) (by assumption)]⟩
       ·first | omega | (simp only; omega) | (dsimp only; omega)
     ·try rw [h5]
      try simp only [qa, qb, qc, qd, qe, Ze] at h5
      refine Zi (QK (Qx (QD (Qd (kp2 rfl rfl) (Qf fun K hK => Qa rfl (QR rfl rfl (Qa rfl (QR rfl rfl (QI (Zw) rfl rfl (.inr rfl) (Qa rfl ?_))))))))))
      refine hK _ _ (Qb (kp1 rfl) ?_)
      refine Qu (QG rfl ?_)
      first | (simp_all [Qgs]; done) | (rw [hI.2.2, Qcw (by omega) (by omega) (by assumption)]) | (rw [hI.2.2, Qcv (by omega) (by omega) (by omega)]; simp [Ze])
    ·try rw [h4]
     try simp only [qa, qb, qc, qd, qe, Ze] at h4
     refine Qs rfl (Qs rfl (Qs rfl (Qs rfl (Qp rfl rfl ?_))))
     refine hK _ _ (Qb (kp4 rfl rfl rfl rfl) ?_)
     refine ZJ rfl (Zi (QK (Qx (QD (Qd (kp2 rfl rfl) (Qf fun K hK => Qa rfl (QR rfl rfl (Qa rfl (QR rfl rfl (QI (Zw) rfl rfl (.inr rfl) ?_))))))))))
     refine Qa rfl ?_
     refine hK _ _ (Qb (kp1 rfl) ?_)
     refine Qu (QG rfl ?_)
     first | (simp_all [Qgs]; done) | (rw [hI.2.2, Qcw (by omega) (by omega) (by assumption)]) | (rw [hI.2.2, Qcv (by omega) (by omega) (by omega)]; simp [Ze])
theorem Qag {s : List UInt8} {pre : Bool} (hl : s.length <= 1000000) : Ok Tryz.prog 77 [.str s, .bool pre] (.bool (Qcf s pre)) := by
 refine Ok.ofT Z1 Tryz.func77 QsK (Nat.le_of_ble_eq_true rfl) ?_
 show TW _ _ tf77.body _ _
 refine Qf fun K hK => Qa rfl ?_
 refine hK _ _ (Qb (kp2 rfl rfl) ?_)
 refine QB ?_ -- 0
 refine Qf fun K hK => Qa rfl (Qhe rfl rfl ?_)
 refine hK _ _ (Qb (kp3 rfl rfl rfl) ?_)
 refine Qw rfl (fun h1 => ?_) (fun h1 => ?_)
 ·try rw [h1]
  try simp only [qa, qb, qc, qd, qe, Ze] at h1
  refine Qf fun K hK => Qa rfl ?_
  refine hK _ _ (Qb (kp1 rfl) ?_)
  refine Qu (Qk (Qt rfl ?_))
  first | (simp_all [Qcf]; done) | (simp [Qcf, h1]; omega) | exact (QdU (i := i) (by assumption) (by omega) (by simp [Qe3, h1])).symm | exact (Qcg (i := i) (by omega) (by omega) hI.2).symm
 ·try rw [h1]
  try simp only [qa, qb, qc, qd, qe, Ze] at h1
  refine Qv (Qd (kp2 rfl rfl) (Qf fun K hK => Qa rfl (QI (YZ (by omega)) rfl rfl (.inl rfl) (Qa rfl ?_))))
  refine hK _ _ (Qb (kp2 rfl rfl) ?_)
  refine QB ?_ -- 1
  refine Qf fun K hK => Qa rfl (QR rfl rfl (Qh7 rfl rfl ?_))
  refine hK _ _ (Qb (kp3 rfl rfl rfl) ?_)
  refine Qw rfl (fun h2 => ?_) (fun h2 => ?_)
  ·try rw [h2]
   try simp only [qa, qb, qc, qd, qe, Ze] at h2
   refine Qf fun K hK => Qa rfl ?_
   refine hK _ _ (Qb (kp1 rfl) ?_)
   refine Qu (Qk (Qt rfl ?_))
   first | (simp_all [Qcf]; done) | (simp [Qcf, h1, h2]; omega) | exact (QdU (i := i) (by assumption) (by omega) (by simp [Qe3, h1, h2])).symm | exact (Qcg (i := i) (by omega) (by omega) hI.2).symm
  ·try rw [h2]
   try simp only [qa, qb, qc, qd, qe, Ze] at h2
   refine Qv (Qd (kp2 rfl rfl) ?_)
   refine QB ?_ -- 2
   refine Qf fun K hK => Qa rfl ?_
   refine hK _ _ (Qb (kp3 rfl rfl rfl) ?_)
   refine Qz ?_
   refine Zk (ι := Nat) (fun i => ⟨[(1, .bool pre), (5, .sl (Qa0 (Ys s 46))), (6, .int .i64 i)], []⟩) (fun i => i <= (Ys s 46).length /\ ((Ys s 46).take i).all (Qe3 pre) = true) (fun i => (Ys s 46).length - i) 0 ?_ ?_ ?_
   ·first | exact Zg (kp3 rfl rfl rfl) | exact Q2 (l := [1, 5, 6]) (kp3 rfl rfl rfl) Ql (by simp [h1, h2]) rfl rfl
   ·exact ⟨Nat.zero_le _, rfl⟩
   intro i hI
   try dsimp only
   refine QB ?_ -- 3
   refine Qf fun K hK => Qa rfl (Qa rfl (QR rfl rfl (Z8 rfl rfl ?_)))
   refine hK _ _ (Qb (kp4 rfl rfl rfl rfl) ?_)
   refine Qw rfl (fun h3 => ?_) (fun h3 => ?_)
   ·try rw [h3]
    try simp only [qa, qb, qc, qd, qe, Ze] at h3
    refine Qv (Qd (kp3 rfl rfl rfl) ?_)
    refine QB ?_ -- 4
    refine Qz ?_
    refine QB ?_ -- 5
    refine Qf fun K hK => Qa rfl (Qa rfl (QJ rfl rfl rfl (by omega) (QdI (by omega)) rfl (QA rfl rfl rfl (QI (Qdv (Qd7 (by omega) hl)) rfl rfl (.inr rfl) (Yp rfl ?_)))))
    refine hK _ _ (Qb (kp4 rfl rfl rfl rfl) ?_)
    refine Qw rfl (fun h4 => ?_) (fun h4 => ?_)
    ·try rw [h4]
     try simp only [qa, qb, qc, qd, qe, Ze] at h4
     refine Qf fun K hK => Qa rfl ?_
     refine hK _ _ (Qb (kp1 rfl) ?_)
     refine Qu (Qk (Qr (Qk (Q4 (Qr (Qk (Qt rfl ?_)))))))
     first | (simp_all [Qcf]; done) | (simp [Qcf, h1, h2, h3, h4]; omega) | exact (QdU (i := i) (by assumption) (by omega) (by simp [Qe3, h1, h2, h3, h4])).symm | exact (Qcg (i := i) (by omega) (by omega) hI.2).symm
    ·try rw [h4]
     try simp only [qa, qb, qc, qd, qe, Ze] at h4
     refine Qv (Qd (kp3 rfl rfl rfl) (Qf fun K hK => Qa rfl (Qa rfl (QJ rfl rfl rfl (by omega) (QdI (by omega)) rfl (QA rfl rfl rfl (QI (YN (Qd7 (by omega) hl)) rfl rfl (.inr rfl) (Qa rfl (QW rfl rfl (QW rfl rfl (Qa rfl ?_))))))))))
     refine Qa rfl ?_
     refine hK _ _ (Qb (kp4 rfl rfl rfl rfl) ?_)
     refine Qf fun K hK => Qa rfl (Qa rfl ?_)
     refine QE (g := 37) rfl (fun h5 => ?_) (fun h5 => ?_)
     ·try rw [h5]
      try simp only [qa, qb, qc, qd, qe, Ze] at h5
      refine Qj rfl (Qa rfl (Qj rfl (Qa rfl (Qj rfl (QJ rfl rfl rfl (by omega) (QdI (by omega)) rfl (Qj rfl (QA rfl rfl rfl (Qj rfl (QI (YH (Qd7 (by omega) hl)) rfl rfl (.inr rfl) (Qp rfl rfl (Qa rfl ?_)))))))))))
      refine QE (g := 44) rfl (fun h6 => ?_) (fun h6 => ?_)
      ·try rw [h6]
       try simp only [qa, qb, qc, qd, qe, Ze] at h6
       refine Qj rfl (Qa rfl (Qj rfl (Yp rfl (Qp rfl rfl ?_))))
       refine hK _ _ (Qb (kp4 rfl rfl rfl rfl) ?_)
       refine Qw rfl (fun h7 => ?_) (fun h7 => ?_)
       ·try rw [h7]
        try simp only [qa, qb, qc, qd, qe, Ze] at h7
        refine Qf fun K hK => Qa rfl ?_
        refine hK _ _ (Qb (kp1 rfl) ?_)
        refine Qu (Qr (Qk (Q4 (Qr (Qk (Qt rfl ?_))))))
        first | (simp_all [Qcf]; done) | (simp [Qcf, h1, h2, h3, h4, h5, h6, h7]; omega) | exact (QdU (i := i) (by assumption) (by omega) (by simp [Qe3, h1, h2, h3, h4, h5, h6, h7])).symm | exact (Qcg (i := i) (by omega) (by omega) hI.2).symm
       ·try rw [h7]
        try simp only [qa, qb, qc, qd, qe, Ze] at h7
        refine Qv (Qg (Qd (kp3 rfl rfl rfl) (QL fun K hK => Qa rfl (Q1 rfl rfl (by first | exact Qq (by omega) (by omega) | exact Z0 (by omega) (by omega) | exact Yu (by omega) (by omega) | rfl) (Qa rfl (hK _ ?_))))))
        refine Qi (i + 1) ?_ ?_ ?_
        ·first | exact Zg (kp3 rfl rfl rfl) | exact Q2 (l := [1, 5, 6]) (kp3 rfl rfl rfl) Ql (by simp [h1, h2, h3, h4, h5, h6, h7]) rfl rfl
        ·exact ⟨by omega, Yf (by omega) hI.2 (by simp [Qe3, h1, h2, h3, h4, h5, h6, h7])⟩
        ·first | omega | (simp only; omega) | (dsimp only; omega)
      ·try rw [h6]
       try simp only [qa, qb, qc, qd, qe, Ze] at h6
       refine Qs rfl (Qs rfl (Qp rfl rfl ?_))
       refine hK _ _ (Qb (kp4 rfl rfl rfl rfl) ?_)
       refine ZJ rfl (Qv (Qg (Qd (kp3 rfl rfl rfl) (QL fun K hK => Qa rfl (Q1 rfl rfl (by first | exact Qq (by omega) (by omega) | exact Z0 (by omega) (by omega) | exact Yu (by omega) (by omega) | rfl) (Qa rfl (hK _ ?_)))))))
       refine Qi (i + 1) ?_ ?_ ?_
       ·first | exact Zg (kp3 rfl rfl rfl) | exact Q2 (l := [1, 5, 6]) (kp3 rfl rfl rfl) Ql (by simp [h1, h2, h3, h4, h5, h6]) rfl rfl
       ·exact ⟨by omega, Yf (by omega) hI.2 (by simp [Qe3, h1, h2, h3, h4, h5, h6])⟩
       ·first | omega | (simp only; omega) | (dsimp only; omega)
     ·try rw [h5]
      try simp only [qa, qb, qc, qd, qe, Ze] at h5
      refine Qs rfl (Qs rfl (Qs rfl (Qs rfl (Qs rfl (Qp rfl rfl (Qa rfl (Qs rfl (Qs rfl (Qp rfl rfl ?_)))))))))
      refine hK _ _ (Qb (kp4 rfl rfl rfl rfl) ?_)
      refine ZJ rfl (Qv (Qg (Qd (kp3 rfl rfl rfl) (QL fun K hK => Qa rfl (Q1 rfl rfl (by first | exact Qq (by omega) (by omega) | exact Z0 (by omega) (by omega) | exact Yu (by omega) (by omega) | rfl) (Qa rfl (hK _ ?_)))))))
      refine Qi (i + 1) ?_ ?_ ?_
      ·first | exact Zg (kp3 rfl rfl rfl) | exact Q2 (l := [1, 5, 6]) (kp3 rfl rfl rfl) Ql (by simp [h1, h2, h3, h4, h5]) rfl rfl
      ·exact ⟨by omega, Yf (by omega) hI.2 (by simp [Qe3, h1, h2, h3, h4, h5])⟩
      ·first | omega | (simp only; omega) | (dsimp only; omega)
   ·try rw [h3]
    try simp only [qa, qb, qc, qd, qe, Ze] at h3
    refine Zi (QK (Qx (QD (Qd (Q8) (Qf fun K hK => Qa rfl ?_)))))
    refine hK _ _ (Qb (kp1 rfl) ?_)
    refine Qu (Qt rfl ?_)
    first | (simp_all [Qcf]; done) | (simp [Qcf, h1, h2, h3]; omega) | exact (QdU (i := i) (by assumption) (by omega) (by simp [Qe3, h1, h2, h3])).symm | exact (Qcg (i := i) (by omega) (by omega) hI.2).symm
theorem Zf {a b c : Int} {p q : List UInt8} (hp : p.length <= 1000000) (hq : q.length <= 1000000) : Ok Tryz.prog 55 [.agg [.int .i64 a, .int .i64 b, .int .i64 c, .str p, .str q]] (.bool (Qh9 a b c p q)) := by
 refine Ok.ofT Z1 Tryz.func55 Qsp (Nat.le_of_ble_eq_true rfl) ?_
 show TW _ _ tf55.body _ _
 refine Qf fun K hK => Zx rfl rfl rfl (Qa rfl ?_)
 refine hK _ _ (Qb (kp1 rfl) ?_)
 refine Qf fun K hK => Qh rfl rfl (QA rfl rfl rfl (QI (Xp) rfl rfl (.inr rfl) (Qa rfl ?_)))
 refine QE (g := 6) rfl (fun h1 => ?_) (fun h1 => ?_)
 ·try rw [h1]
  try simp only [qa, qb, qc, qd, qe] at h1
  refine Qj rfl (Qh rfl rfl (Qj rfl (QA rfl rfl rfl (Qj rfl (QI (Xp) rfl rfl (.inr rfl) (Qp rfl rfl (Qa rfl ?_)))))))
  refine QE (g := 11) rfl (fun h2 => ?_) (fun h2 => ?_)
  ·try rw [h2]
   try simp only [qa, qb, qc, qd, qe] at h2
   refine Qj rfl (Qh rfl rfl (Qj rfl (QA rfl rfl rfl (Qj rfl (QI (Xp) rfl rfl (.inr rfl) (Qp rfl rfl (Qa rfl ?_)))))))
   refine QE (g := 16) rfl (fun h3 => ?_) (fun h3 => ?_)
   ·try rw [h3]
    try simp only [qa, qb, qc, qd, qe] at h3
    refine Qj rfl (Qh rfl rfl (Qj rfl (QA rfl rfl rfl (Qj rfl (QI (Qag (by omega)) rfl rfl (.inr rfl) (Qp rfl rfl (Qa rfl ?_)))))))
    refine QE (g := 21) rfl (fun h4 => ?_) (fun h4 => ?_)
    ·try rw [h4]
     try simp only [qa, qb, qc, qd, qe] at h4
     refine Qj rfl (Qh rfl rfl (Qj rfl (QA rfl rfl rfl (Qj rfl (QI (Qag (by omega)) rfl rfl (.inr rfl) (Qp rfl rfl (Qa rfl ?_)))))))
     refine hK _ _ (Qb (kp1 rfl) ?_)
     refine Qu (Qt rfl ?_)
     simp [Qh9, h1, h2, h3, h4]
    ·try rw [h4]
     try simp only [qa, qb, qc, qd, qe] at h4
     refine Qs rfl (Qs rfl (Qs rfl (Qp rfl rfl (Qa rfl ?_))))
     refine hK _ _ (Qb (kp1 rfl) ?_)
     refine Qu (Qt rfl ?_)
     simp [Qh9, h1, h2, h3, h4]
   ·try rw [h3]
    try simp only [qa, qb, qc, qd, qe] at h3
    refine Qs rfl (Qs rfl (Qs rfl (Qp rfl rfl (Qa rfl (Qs rfl (Qs rfl (Qs rfl (Qp rfl rfl (Qa rfl ?_)))))))))
    refine hK _ _ (Qb (kp1 rfl) ?_)
    refine Qu (Qt rfl ?_)
    simp [Qh9, h1, h2, h3]
  ·try rw [h2]
   try simp only [qa, qb, qc, qd, qe] at h2
   refine Qs rfl (Qs rfl (Qs rfl (Qp rfl rfl (Qa rfl (Qs rfl (Qs rfl (Qs rfl (Qp rfl rfl (Qa rfl (Qs rfl (Qs rfl ?_)))))))))))
   refine Qs rfl (Qp rfl rfl (Qa rfl ?_))
   refine hK _ _ (Qb (kp1 rfl) ?_)
   refine Qu (Qt rfl ?_)
   simp [Qh9, h1, h2]
 ·try rw [h1]
  try simp only [qa, qb, qc, qd, qe] at h1
  refine Qs rfl (Qs rfl (Qs rfl (Qp rfl rfl (Qa rfl (Qs rfl (Qs rfl (Qs rfl (Qp rfl rfl (Qa rfl (Qs rfl (Qs rfl ?_)))))))))))
  refine Qs rfl (Qp rfl rfl (Qa rfl (Qs rfl (Qs rfl (Qs rfl (Qp rfl rfl (Qa rfl ?_)))))))
  refine hK _ _ (Qb (kp1 rfl) ?_)
  refine Qu (Qt rfl ?_)
  simp [Qh9, h1]
end Go.Proofs
namespace Go.Proofs
open Go Go.Abs M3
set_option linter.unusedVariables false
set_option linter.unusedSimpArgs false
theorem Xy {a b c : Int} {p q : List UInt8} (hp : p.length <= 1000000) (hq : q.length <= 1000000) {a' b' c' : Int} {p' q' : List UInt8} (hp' : p'.length <= 1000000) (hq' : q'.length <= 1000000) : Ok Tryz.prog 115 [.agg [.int .i64 a, .int .i64 b, .int .i64 c, .str p, .str q], .agg [.int .i64 a', .int .i64 b', .int .i64 c', .str p', .str q']] (.int .i64 (QmF a b c p q a' b' c' p' q')) := by
 refine Ok.ofT Z1 Tryz.func115 Qrz (Nat.le_of_ble_eq_true rfl) ?_
 show TW _ _ tf115.body _ _
 refine Qf fun K hK => Zx rfl rfl rfl (Zx rfl rfl rfl (Qa rfl ?_))
 refine hK _ _ (Qb (kp2 rfl rfl) ?_)
 refine QB ?_ -- 0
 refine Qf fun K hK => QH (cs := [_, _, _, _, _]) rfl rfl rfl rfl (QI (Zf (by omega) (by omega)) rfl rfl (.inr rfl) (Yp rfl (Qa rfl ?_)))
 refine QE (g := 11) rfl (fun h1 => ?_) (fun h1 => ?_)
 ·try rw [h1]
  try simp only [qa, qb, qc, qd, qe] at h1
  refine Qs rfl (Qs rfl (Qs rfl (Qp rfl rfl ?_)))
  refine hK _ _ (Qb (kp3 rfl rfl rfl) ?_)
  refine Zv rfl (Qf fun K hK => Qa rfl ?_)
  refine hK _ _ (Qb (kp1 rfl) ?_)
  refine Qu (Qk (QG rfl ?_))
  simp [QmF, h1]
 ·try rw [h1]
  try simp only [qa, qb, qc, qd, qe] at h1
  refine Qj rfl (QH (cs := [_, _, _, _, _]) rfl rfl rfl rfl (Qj rfl (QI (Zf (by omega) (by omega)) rfl rfl (.inr rfl) (Qj rfl (Yp rfl (Qp rfl rfl ?_))))))
  refine hK _ _ (Qb (kp3 rfl rfl rfl) ?_)
  refine Qw rfl (fun h2 => ?_) (fun h2 => ?_)
  ·try rw [h2]
   try simp only [qa, qb, qc, qd, qe] at h2
   refine Qf fun K hK => Qa rfl ?_
   refine hK _ _ (Qb (kp1 rfl) ?_)
   refine Qu (Qk (QG rfl ?_))
   simp [QmF, h1, h2]
  ·try rw [h2]
   try simp only [qa, qb, qc, qd, qe] at h2
   refine Qv (Qd (kp2 rfl rfl) ?_)
   refine QB ?_ -- 1
   refine Qf fun K hK => Qh rfl rfl (QA rfl rfl rfl (Qh rfl rfl (QA rfl rfl rfl (QI (Zw) rfl rfl (.inr rfl) (Qa rfl ?_)))))
   refine hK _ _ (Qb (kp3 rfl rfl rfl) ?_)
   refine Qf fun K hK => Qa rfl (XM rfl rfl ?_)
   refine hK _ _ (Qb (kp4 rfl rfl rfl rfl) ?_)
   refine Qw rfl (fun h3 => ?_) (fun h3 => ?_)
   ·try rw [h3]
    try simp only [qa, qb, qc, qd, qe] at h3
    refine Qf fun K hK => Qa rfl (Qa rfl ?_)
    refine hK _ _ (Qb (kp1 rfl) ?_)
    refine Qu (Qk (QG rfl ?_))
    simp [QmF, h1, h2, h3]
   ·try rw [h3]
    try simp only [qa, qb, qc, qd, qe] at h3
    refine Qv (Qd (kp2 rfl rfl) ?_)
    refine QB ?_ -- 2
    refine Qf fun K hK => Qh rfl rfl (QA rfl rfl rfl (Qh rfl rfl (QA rfl rfl rfl (QI (Zw) rfl rfl (.inr rfl) (Qa rfl ?_)))))
    refine hK _ _ (Qb (kp3 rfl rfl rfl) ?_)
    refine Qf fun K hK => Qa rfl (XM rfl rfl ?_)
    refine hK _ _ (Qb (kp4 rfl rfl rfl rfl) ?_)
    refine Qw rfl (fun h4 => ?_) (fun h4 => ?_)
    ·try rw [h4]
     try simp only [qa, qb, qc, qd, qe] at h4
     refine Qf fun K hK => Qa rfl (Qa rfl ?_)
     refine hK _ _ (Qb (kp1 rfl) ?_)
     refine Qu (Qk (QG rfl ?_))
     simp [QmF, h1, h2, h3, h4]
    ·try rw [h4]
     try simp only [qa, qb, qc, qd, qe] at h4
     refine Qv (Qd (kp2 rfl rfl) ?_)
     refine QB ?_ -- 3
     refine Qf fun K hK => Qh rfl rfl (QA rfl rfl rfl (Qh rfl rfl (QA rfl rfl rfl (QI (Zw) rfl rfl (.inr rfl) (Qa rfl ?_)))))
     refine hK _ _ (Qb (kp3 rfl rfl rfl) ?_)
     refine Qf fun K hK => Qa rfl (XM rfl rfl ?_)
     refine hK _ _ (Qb (kp4 rfl rfl rfl rfl) ?_)
     refine Qw rfl (fun h5 => ?_) (fun h5 => ?_)
     ·try rw [h5]
      try simp only [qa, qb, qc, qd, qe] at h5
      refine Qf fun K hK => Qa rfl (Qa rfl ?_)
      refine hK _ _ (Qb (kp1 rfl) ?_)
      refine Qu (Qk (QG rfl ?_))
      simp [QmF, h1, h2, h3, h4, h5]
     ·try rw [h5]
      try simp only [qa, qb, qc, qd, qe] at h5
      refine Qv (Qd (kp2 rfl rfl) (Qf fun K hK => Qh rfl rfl (QA rfl rfl rfl (Qh rfl rfl (QA rfl rfl rfl (QI (Qc9 (by omega) (by omega)) rfl rfl (.inr rfl) (Qa rfl ?_)))))))
      refine hK _ _ (Qb (kp1 rfl) ?_)
      refine Qu (QG rfl ?_)
      simp [QmF, h1, h2, h3, h4, h5]
theorem Yi {e a b c : Int} {p q : List UInt8} {f : Bool} (hp : p.length <= 1000000) (hq : q.length <= 1000000) : Ok Tryz.prog 113 [.agg [.int .i64 e, .int .i64 a, .int .i64 b, .int .i64 c, .str p, .str q, .bool f]] (.bool (Qev e a b c p q f)) := by
 refine Ok.ofT Z1 Tryz.func113 Qrx (Nat.le_of_ble_eq_true rfl) ?_
 show TW _ _ tf113.body _ _
 refine Qf fun K hK => Zx rfl rfl rfl (Qa rfl ?_)
 refine hK _ _ (Qb (kp1 rfl) ?_)
 refine QB ?_ -- 0
 refine Qf fun K hK => Qh rfl rfl (QA rfl rfl rfl (ZN rfl rfl ?_))
 refine hK _ _ (Qb (kp2 rfl rfl) ?_)
 refine Qw rfl (fun h1 => ?_) (fun h1 => ?_)
 ·try rw [h1]
  try simp only [qa, qb, qc, qd, qe] at h1
  refine Qf fun K hK => Qh rfl rfl (QH (cs := [_, _, _, _, _]) rfl rfl rfl rfl (QI (Zf (by omega) (by omega)) rfl rfl (.inr rfl) (Qa rfl ?_)))
  refine QE (g := 9) rfl (fun h2 => ?_) (fun h2 => ?_)
  ·try rw [h2]
   try simp only [qa, qb, qc, qd, qe] at h2
   refine Qj rfl (Qh rfl rfl (Qj rfl (Qh rfl rfl (Qj rfl (QA rfl rfl rfl (Qj rfl (Qhe rfl rfl (Qp rfl rfl (Qa rfl ?_)))))))))
   refine hK _ _ (Qb (kp1 rfl) ?_)
   refine Qu (Qk (Qt rfl ?_))
   simp_all [Qev]
  ·try rw [h2]
   try simp only [qa, qb, qc, qd, qe] at h2
   refine Qs rfl (Qs rfl (Qs rfl (Qs rfl (Qp rfl rfl (Qa rfl ?_)))))
   refine hK _ _ (Qb (kp1 rfl) ?_)
   refine Qu (Qk (Qt rfl ?_))
   simp_all [Qev]
 ·try rw [h1]
  try simp only [qa, qb, qc, qd, qe] at h1
  refine Qv (Qd (kp1 rfl) (Qf fun K hK => Qh rfl rfl (QA rfl rfl rfl (ZN rfl rfl (Qa rfl ?_)))))
  refine QE (g := 18) rfl (fun h3 => ?_) (fun h3 => ?_)
  ·try rw [h3]
   try simp only [qa, qb, qc, qd, qe] at h3
   refine Qs rfl (Qs rfl (Qs rfl (Qp rfl rfl (Qa rfl (Qj rfl (Qh rfl rfl (Qj rfl (QH (cs := [_, _, _, _, _]) rfl rfl rfl rfl (Qj rfl (QX rfl rfl (Qj rfl ?_)))))))))))
   refine QlY rfl rfl rfl (Qp rfl rfl (Qa rfl ?_))
   refine QE (g := 29) rfl (fun h4 => ?_) (fun h4 => ?_)
   ·try rw [h4]
    try simp only [qa, qb, qc, qd, qe] at h4
    refine Qj rfl (Qh rfl rfl (Qj rfl (QA rfl rfl rfl (Qj rfl (Yp rfl (Qp rfl rfl (Qa rfl ?_)))))))
    refine hK _ _ (Qb (kp1 rfl) ?_)
    refine Qu (Qt rfl ?_)
    simp_all [Qev]
   ·try rw [h4]
    try simp only [qa, qb, qc, qd, qe] at h4
    refine Qs rfl (Qs rfl (Qs rfl (Qp rfl rfl (Qa rfl ?_))))
    refine hK _ _ (Qb (kp1 rfl) ?_)
    refine Qu (Qt rfl ?_)
    simp_all [Qev]
  ·try rw [h3]
   try simp only [qa, qb, qc, qd, qe] at h3
   refine Qj rfl (Qh rfl rfl (Qj rfl (QA rfl rfl rfl (Qj rfl (ZN rfl rfl (Qp rfl rfl (Qa rfl ?_)))))))
   refine QE (g := 23) rfl (fun h5 => ?_) (fun h5 => ?_)
   ·try rw [h5]
    try simp only [qa, qb, qc, qd, qe] at h5
    refine Qj rfl (Qh rfl rfl (Qj rfl (QH (cs := [_, _, _, _, _]) rfl rfl rfl rfl (Qj rfl (QX rfl rfl (Qj rfl (QlY rfl rfl rfl (Qp rfl rfl (Qa rfl ?_)))))))))
    refine QE (g := 29) rfl (fun h6 => ?_) (fun h6 => ?_)
    ·try rw [h6]
     try simp only [qa, qb, qc, qd, qe] at h6
     refine Qj rfl (Qh rfl rfl (Qj rfl (QA rfl rfl rfl (Qj rfl (Yp rfl (Qp rfl rfl (Qa rfl ?_)))))))
     refine hK _ _ (Qb (kp1 rfl) ?_)
     refine Qu (Qt rfl ?_)
     simp_all [Qev]
    ·try rw [h6]
     try simp only [qa, qb, qc, qd, qe] at h6
     refine Qs rfl (Qs rfl (Qs rfl (Qp rfl rfl (Qa rfl ?_))))
     refine hK _ _ (Qb (kp1 rfl) ?_)
     refine Qu (Qt rfl ?_)
     simp_all [Qev]
   ·try rw [h5]
    try simp only [qa, qb, qc, qd, qe] at h5
    refine Qs rfl (Qs rfl (Qs rfl (Qs rfl (Qp rfl rfl (Qa rfl (Qs rfl (Qs rfl (Qs rfl (Qp rfl rfl (Qa rfl ?_))))))))))
    refine hK _ _ (Qb (kp1 rfl) ?_)
    refine Qu (Qt rfl ?_)
    simp_all [Qev]
theorem Zu {e a b c : Int} {p q : List UInt8} {f : Bool} (hp : p.length <= 1000000) (hq : q.length <= 1000000) {e' a' b' c' : Int} {p' q' : List UInt8} {f' : Bool} (hp' : p'.length <= 1000000) (hq' : q'.length <= 1000000) : Ok Tryz.prog 110 [.agg [.int .i64 e, .int .i64 a, .int .i64 b, .int .i64 c, .str p, .str q, .bool f], .agg [.int .i64 e', .int .i64 a', .int .i64 b', .int .i64 c', .str p', .str q', .bool f']] (.int .i64 (Qbs e a b c p q f e' a' b' c' p' q' f')) := by
 refine Ok.ofT Z1 Tryz.func110 Qru (Nat.le_of_ble_eq_true rfl) ?_
 show TW _ _ tf110.body _ _
 refine Qf fun K hK => Zx rfl rfl rfl (Zx rfl rfl rfl (Qa rfl ?_))
 refine hK _ _ (Qb (kp2 rfl rfl) ?_)
 refine QB ?_ -- 0
 refine Qf fun K hK => QH (cs := [_, _, _, _, _, _, _]) rfl rfl rfl rfl (QI (Yi (by omega) (by omega)) rfl rfl (.inr rfl) (Yp rfl (Qa rfl ?_)))
 refine QE (g := 9) rfl (fun h1 => ?_) (fun h1 => ?_)
 ·try rw [h1]
  try simp only [qa, qb, qc, qd, qe] at h1
  refine Qs rfl (Qs rfl (Qs rfl (Qp rfl rfl ?_)))
  refine hK _ _ (Qb (kp3 rfl rfl rfl) ?_)
  refine Zv rfl (Qf fun K hK => Qa rfl ?_)
  refine hK _ _ (Qb (kp1 rfl) ?_)
  refine Qu (Qk (QG rfl ?_))
  first | (simp [Qbs, h1]; done) | (simp_all [Qbs]; done)
 ·try rw [h1]
  try simp only [qa, qb, qc, qd, qe] at h1
  refine Qj rfl (QH (cs := [_, _, _, _, _, _, _]) rfl rfl rfl rfl (Qj rfl (QI (Yi (by omega) (by omega)) rfl rfl (.inr rfl) (Qj rfl (Yp rfl (Qp rfl rfl ?_))))))
  refine hK _ _ (Qb (kp3 rfl rfl rfl) ?_)
  refine Qw rfl (fun h2 => ?_) (fun h2 => ?_)
  ·try rw [h2]
   try simp only [qa, qb, qc, qd, qe] at h2
   refine Qf fun K hK => Qa rfl ?_
   refine hK _ _ (Qb (kp1 rfl) ?_)
   refine Qu (Qk (QG rfl ?_))
   first | (simp [Qbs, h1, h2]; done) | (simp_all [Qbs]; done)
  ·try rw [h2]
   try simp only [qa, qb, qc, qd, qe] at h2
   refine Qv (Qd (kp2 rfl rfl) ?_)
   refine QB ?_ -- 1
   refine Qf fun K hK => Qh rfl rfl (QA rfl rfl rfl (Qh rfl rfl (QA rfl rfl rfl ?_)))
   first | refine XM rfl rfl ?_ | refine QlZ rfl rfl ?_
   refine Qa rfl ?_
   refine QE (g := 19) rfl (fun h3 => ?_) (fun h3 => ?_)
   ·try rw [h3]
    try simp only [qa, qb, qc, qd, qe] at h3
    refine Qs rfl (Qs rfl (Qs rfl (Qp rfl rfl ?_)))
    refine hK _ _ (Qb (kp3 rfl rfl rfl) ?_)
    refine Zv rfl (Qf fun K hK => Qh rfl rfl (QA rfl rfl rfl (Qh rfl rfl (QA rfl rfl rfl (QI (Zw) rfl rfl (.inr rfl) (Qa rfl ?_))))))
    refine hK _ _ (Qb (kp1 rfl) ?_)
    refine Qu (Qk (QG rfl ?_))
    first | (simp [Qbs, h1, h2, h3]; done) | (simp_all [Qbs]; done)
   ·try rw [h3]
    try simp only [qa, qb, qc, qd, qe] at h3
    refine Qj rfl (Qh rfl rfl (Qj rfl (QA rfl rfl rfl (Qj rfl (XM rfl rfl (Qp rfl rfl ?_))))))
    refine hK _ _ (Qb (kp3 rfl rfl rfl) ?_)
    refine Qw rfl (fun h4 => ?_) (fun h4 => ?_)
    ·try rw [h4]
     try simp only [qa, qb, qc, qd, qe] at h4
     refine Qf fun K hK => Qh rfl rfl (QA rfl rfl rfl (Qh rfl rfl (QA rfl rfl rfl (QI (Zw) rfl rfl (.inr rfl) (Qa rfl ?_)))))
     refine hK _ _ (Qb (kp1 rfl) ?_)
     refine Qu (Qk (QG rfl ?_))
     first | (simp [Qbs, h1, h2, h3, h4]; done) | (simp_all [Qbs]; done)
    ·try rw [h4]
     try simp only [qa, qb, qc, qd, qe] at h4
     refine Qv (Qd (kp2 rfl rfl) ?_)
     refine QB ?_ -- 2
     refine Qf fun K hK => Qh rfl rfl (QH (cs := [_, _, _, _, _]) rfl rfl rfl rfl (Qh rfl rfl (QH (cs := [_, _, _, _, _]) rfl rfl rfl rfl (QI (Xy (by omega) (by omega) (by omega) (by omega)) rfl rfl (.inr rfl) (Qa rfl ?_)))))
     refine hK _ _ (Qb (kp3 rfl rfl rfl) ?_)
     refine Qf fun K hK => Qa rfl (XM rfl rfl ?_)
     refine hK _ _ (Qb (kp4 rfl rfl rfl rfl) ?_)
     refine Qw rfl (fun h5 => ?_) (fun h5 => ?_)
     ·try rw [h5]
      try simp only [qa, qb, qc, qd, qe] at h5
      refine Qf fun K hK => Qa rfl (Qa rfl ?_)
      refine hK _ _ (Qb (kp1 rfl) ?_)
      refine Qu (Qk (QG rfl ?_))
      first | (simp [Qbs, h1, h2, h3, h4, h5]; done) | (simp_all [Qbs]; done)
     ·try rw [h5]
      try simp only [qa, qb, qc, qd, qe] at h5
      refine Qv (Qd (kp2 rfl rfl) ?_)
      refine QB ?_ -- 3
      refine Qz (Qf fun K hK => Qh rfl rfl (QA rfl rfl rfl (Qh rfl rfl (QA rfl rfl rfl (QqX rfl rfl (Qa rfl ?_))))))
      refine hK _ _ (Qb (kp2 rfl rfl) ?_)
      refine Qw rfl (fun h6 => ?_) (fun h6 => ?_)
      ·try rw [h6]
       try simp only [qa, qb, qc, qd, qe] at h6
       refine Qf fun K hK => Qa rfl ?_
       refine hK _ _ (Qb (kp1 rfl) ?_)
       refine Qu (Qr (Qk (QG rfl ?_)))
       first | (simp [Qbs, h1, h2, h3, h4, h5, h6]; done) | (simp_all [Qbs]; done)
      ·try rw [h6]
       try simp only [qa, qb, qc, qd, qe] at h6
       refine Qf fun K hK => Qh rfl rfl (QA rfl rfl rfl (Qa rfl ?_))
       refine hK _ _ (Qb (kp1 rfl) ?_)
       refine Qw rfl (fun h7 => ?_) (fun h7 => ?_)
       ·try rw [h7]
        try simp only [qa, qb, qc, qd, qe] at h7
        refine Qf fun K hK => Qa rfl ?_
        refine hK _ _ (Qb (kp1 rfl) ?_)
        refine Qu (Qr (Qk (QG rfl ?_)))
        first | (simp [Qbs, h1, h2, h3, h4, h5, h6, h7]; done) | (simp_all [Qbs]; done)
       ·try rw [h7]
        try simp only [qa, qb, qc, qd, qe] at h7
        refine Qv (Qg (Qd (Q8) (Qf fun K hK => Qa rfl ?_)))
        refine hK _ _ (Qb (kp1 rfl) ?_)
        refine Qu (QG rfl ?_)
        first | (simp [Qbs, h1, h2, h3, h4, h5, h6, h7]; done) | (simp_all [Qbs]; done)
theorem XU {e a b c : Int} {p q : List UInt8} {f : Bool} (hp : p.length <= 1000000) (hq : q.length <= 1000000) {a' b' c' : Int} {p' q' : List UInt8} (hp' : p'.length <= 1000000) (hq' : q'.length <= 1000000) : Ok Tryz.prog 116 [.agg [.int .i64 e, .int .i64 a, .int .i64 b, .int .i64 c, .str p, .str q, .bool f], .agg [.int .i64 a', .int .i64 b', .int .i64 c', .str p', .str q']] (.bool (Qal e a b c p q f a' b' c' p' q')) := by
 refine Ok.ofT Z1 Tryz.func116 QrA (Nat.le_of_ble_eq_true rfl) ?_
 show TW _ _ tf116.body _ _
 refine Qf fun K hK => Zx rfl rfl rfl (Zx rfl rfl rfl (Qa rfl ?_))
 refine hK _ _ (Qb (kp2 rfl rfl) ?_)
 refine QB ?_ -- 0
 refine Qf fun K hK => QH (cs := [_, _, _, _, _, _, _]) rfl rfl rfl rfl (QI (Yi (by omega) (by omega)) rfl rfl (.inr rfl) (Yp rfl (Qa rfl ?_)))
 refine QE (g := 9) rfl (fun h1 => ?_) (fun h1 => ?_)
 ·try rw [h1]
  try simp only [qa, qb, qc, qd, qe] at h1
  refine Qs rfl (Qs rfl (Qs rfl (Qp rfl rfl ?_)))
  refine hK _ _ (Qb (kp3 rfl rfl rfl) ?_)
  refine Zv rfl (Qf fun K hK => Qa rfl ?_)
  refine hK _ _ (Qb (kp1 rfl) ?_)
  refine Qu (Qk (Qt rfl ?_))
  first | (simp [Qal, h1]; done) | (simp_all [Qal]; done)
 ·try rw [h1]
  try simp only [qa, qb, qc, qd, qe] at h1
  refine Qj rfl (QH (cs := [_, _, _, _, _]) rfl rfl rfl rfl (Qj rfl (QI (Zf (by omega) (by omega)) rfl rfl (.inr rfl) (Qj rfl (Yp rfl (Qp rfl rfl ?_))))))
  refine hK _ _ (Qb (kp3 rfl rfl rfl) ?_)
  refine Qw rfl (fun h2 => ?_) (fun h2 => ?_)
  ·try rw [h2]
   try simp only [qa, qb, qc, qd, qe] at h2
   refine Qf fun K hK => Qa rfl ?_
   refine hK _ _ (Qb (kp1 rfl) ?_)
   refine Qu (Qk (Qt rfl ?_))
   first | (simp [Qal, h1, h2]; done) | (simp_all [Qal]; done)
  ·try rw [h2]
   try simp only [qa, qb, qc, qd, qe] at h2
   refine Qv (Qd (kp2 rfl rfl) ?_)
   refine QB ?_ -- 1
   refine Qf fun K hK => Qh rfl rfl (QA rfl rfl rfl (XM rfl rfl ?_))
   refine hK _ _ (Qb (kp3 rfl rfl rfl) ?_)
   refine Qw rfl (fun h3 => ?_) (fun h3 => ?_)
   ·try rw [h3]
    try simp only [qa, qb, qc, qd, qe] at h3
    refine Qf fun K hK => Qh rfl rfl (QA rfl rfl rfl (Z8 rfl rfl (Qa rfl ?_)))
    refine hK _ _ (Qb (kp1 rfl) ?_)
    refine Qu (Qk (Qt rfl ?_))
    first | (simp [Qal, h1, h2, h3]; done) | (simp_all [Qal]; done)
   ·try rw [h3]
    try simp only [qa, qb, qc, qd, qe] at h3
    refine Qv (Qd (kp2 rfl rfl) (Qf fun K hK => Qh rfl rfl (QH (cs := [_, _, _, _, _]) rfl rfl rfl rfl (QH (cs := [_, _, _, _, _]) rfl rfl rfl rfl (QI (Xy (by omega) (by omega) (by omega) (by omega)) rfl rfl (.inr rfl) (Qa rfl ?_))))))
    refine hK _ _ (Qb (kp2 rfl rfl) ?_)
    refine Qf fun K hK => Qa rfl (Z8 rfl rfl (Qa rfl ?_))
    refine QE (g := 26) rfl (fun h4 => ?_) (fun h4 => ?_)
    ·try rw [h4]
     try simp only [qa, qb, qc, qd, qe] at h4
     refine Qs rfl (Qs rfl (Qs rfl (Zy rfl (Zy rfl (Zy rfl (Qs rfl (Qp rfl rfl (Qa rfl ?_))))))))
     refine hK _ _ (Qb (kp1 rfl) ?_)
     refine Qu (Qt rfl ?_)
     first | (simp [Qal, h1, h2, h3, h4]; done) | (simp_all [Qal]; done)
    ·try rw [h4]
     try simp only [qa, qb, qc, qd, qe] at h4
     refine Qj rfl (Qa rfl (Qj rfl (ZN rfl rfl (Qj rfl (Qa rfl ?_)))))
     refine QE (g := 29) rfl (fun h5 => ?_) (fun h5 => ?_)
     ·try rw [h5]
      try simp only [qa, qb, qc, qd, qe] at h5
      refine Qj rfl (Qh rfl rfl (Qj rfl (QA rfl rfl rfl (Qj rfl (Yp rfl (Qj rfl (Qp rfl rfl (Qp rfl rfl (Qa rfl ?_)))))))))
      refine hK _ _ (Qb (kp1 rfl) ?_)
      refine Qu (Qt rfl ?_)
      first | (simp [Qal, h1, h2, h3, h4, h5]; done) | (simp_all [Qal]; done)
     ·try rw [h5]
      try simp only [qa, qb, qc, qd, qe] at h5
      refine Qs rfl (Qs rfl (Qs rfl (Qj rfl (Qp rfl rfl (Qp rfl rfl (Qa rfl ?_))))))
      refine hK _ _ (Qb (kp1 rfl) ?_)
      refine Qu (Qt rfl ?_)
      first | (simp [Qal, h1, h2, h3, h4, h5]; done) | (simp_all [Qal]; done)
theorem YI {e a b c : Int} {p q : List UInt8} {f : Bool} (hp : p.length <= 1000000) (hq : q.length <= 1000000) {e' a' b' c' : Int} {p' q' : List UInt8} {f' : Bool} (hp' : p'.length <= 1000000) (hq' : q'.length <= 1000000) : Ok Tryz.prog 109 [.agg [.int .i64 e, .int .i64 a, .int .i64 b, .int .i64 c, .str p, .str q, .bool f, .int .i64 e', .int .i64 a', .int .i64 b', .int .i64 c', .str p', .str q', .bool f']] (.bool (QhP e a b c p q f e' a' b' c' p' q' f')) := by
 refine Ok.ofT Z1 Tryz.func109 Qrt (Nat.le_of_ble_eq_true rfl) ?_
 show TW _ _ tf109.body _ _
 refine Qf fun K hK => Zx rfl rfl rfl (Qa rfl ?_)
 refine hK _ _ (Qb (kp1 rfl) ?_)
 refine Qf fun K hK => Qh rfl rfl (QH (cs := [_, _, _, _, _, _, _]) rfl rfl rfl rfl (QI (Yi (by omega) (by omega)) rfl rfl (.inr rfl) (Qa rfl ?_)))
 refine QE (g := 6) rfl (fun h1 => ?_) (fun h1 => ?_)
 ·try rw [h1]
  try simp only [qa, qb, qc, qd, qe] at h1
  refine Qj rfl (Qh rfl rfl (Qj rfl (QH (cs := [_, _, _, _, _, _, _]) rfl rfl rfl rfl (Qj rfl (QI (Yi (by omega) (by omega)) rfl rfl (.inr rfl) (Qp rfl rfl (Qa rfl ?_)))))))
  refine QE (g := 11) rfl (fun h2 => ?_) (fun h2 => ?_)
  ·try rw [h2]
   try simp only [qa, qb, qc, qd, qe] at h2
   refine Qj rfl (Qh rfl rfl (Qj rfl (QH (cs := [_, _, _, _, _, _, _]) rfl rfl rfl rfl (Qj rfl (Qh rfl rfl (Qj rfl (QH (cs := [_, _, _, _, _, _, _]) rfl rfl rfl rfl (Qj rfl (QI (Zu (by omega) (by omega) (by omega) (by omega)) rfl rfl (.inr rfl) (Qj rfl (Z8 rfl rfl ?_)))))))))))
   refine Qp rfl rfl (Qa rfl ?_)
   refine hK _ _ (Qb (kp1 rfl) ?_)
   refine Qu (Qt rfl ?_)
   first | (simp [QhP, h1, h2]; done) | (simp_all [QhP]; done)
  ·try rw [h2]
   try simp only [qa, qb, qc, qd, qe] at h2
   refine Qs rfl (Qs rfl (Qs rfl (Qs rfl (Qs rfl (Qs rfl (Qp rfl rfl (Qa rfl ?_)))))))
   refine hK _ _ (Qb (kp1 rfl) ?_)
   refine Qu (Qt rfl ?_)
   first | (simp [QhP, h1, h2]; done) | (simp_all [QhP]; done)
 ·try rw [h1]
  try simp only [qa, qb, qc, qd, qe] at h1
  refine Qs rfl (Qs rfl (Qs rfl (Qp rfl rfl (Qa rfl (Qs rfl (Qs rfl (Qs rfl (Qs rfl (Qs rfl (Qs rfl (Qp rfl rfl ?_)))))))))))
  refine Qa rfl ?_
  refine hK _ _ (Qb (kp1 rfl) ?_)
  refine Qu (Qt rfl ?_)
  first | (simp [QhP, h1]; done) | (simp_all [QhP]; done)
theorem QcV {e a b c : Int} {p q : List UInt8} {f : Bool} (hp : p.length <= 1000000) (hq : q.length <= 1000000) {e' a' b' c' : Int} {p' q' : List UInt8} {f' : Bool} (hp' : p'.length <= 1000000) (hq' : q'.length <= 1000000) {x y z : Int} {r s : List UInt8} (hr : r.length <= 1000000) (hs : s.length <= 1000000) : Ok Tryz.prog 112 [.agg [.int .i64 e, .int .i64 a, .int .i64 b, .int .i64 c, .str p, .str q, .bool f, .int .i64 e', .int .i64 a', .int .i64 b', .int .i64 c', .str p', .str q', .bool f'], .agg [.int .i64 x, .int .i64 y, .int .i64 z, .str r, .str s]] (.bool (Qc2 e a b c p q f e' a' b' c' p' q' f' x y z r s)) := by
 refine Ok.ofT Z1 Tryz.func112 Qrw (Nat.le_of_ble_eq_true rfl) ?_
 show TW _ _ tf112.body _ _
 refine Qf fun K hK => Zx rfl rfl rfl (Zx rfl rfl rfl (Qa rfl ?_))
 refine hK _ _ (Qb (kp2 rfl rfl) ?_)
 refine Qf fun K hK => QH (cs := [_, _, _, _, _, _, _, _, _, _, _, _, _, _]) rfl rfl rfl rfl (QI (YI (by omega) (by omega) (by omega) (by omega)) rfl rfl (.inr rfl) (Qa rfl ?_))
 refine QE (g := 7) rfl (fun h1 => ?_) (fun h1 => ?_)
 ·try rw [h1]
  try simp only [qa, qb, qc, qd, qe] at h1
  refine Qj rfl (QH (cs := [_, _, _, _, _]) rfl rfl rfl rfl (Qj rfl (QI (Zf (by omega) (by omega)) rfl rfl (.inr rfl) (Qp rfl rfl (Qa rfl ?_)))))
  refine QE (g := 11) rfl (fun h2 => ?_) (fun h2 => ?_)
  ·try rw [h2]
   try simp only [qa, qb, qc, qd, qe] at h2
   refine Qj rfl (Qh rfl rfl (Qj rfl (QH (cs := [_, _, _, _, _, _, _]) rfl rfl rfl rfl (Qj rfl (QH (cs := [_, _, _, _, _]) rfl rfl rfl rfl (Qj rfl (QI (XU (by omega) (by omega) (by omega) (by omega)) rfl rfl (.inr rfl) (Qp rfl rfl (Qa rfl ?_)))))))))
   refine QE (g := 17) rfl (fun h3 => ?_) (fun h3 => ?_)
   ·try rw [h3]
    try simp only [qa, qb, qc, qd, qe] at h3
    refine Qj rfl (Qh rfl rfl (Qj rfl (QH (cs := [_, _, _, _, _, _, _]) rfl rfl rfl rfl (Qj rfl (QH (cs := [_, _, _, _, _]) rfl rfl rfl rfl (Qj rfl (QI (XU (by omega) (by omega) (by omega) (by omega)) rfl rfl (.inr rfl) (Qj rfl (Yp rfl (Qp rfl rfl (Qa rfl ?_)))))))))))
    refine hK _ _ (Qb (kp1 rfl) ?_)
    refine Qu (Qt rfl ?_)
    first | (simp [Qc2, h1, h2, h3]; done) | (simp_all [Qc2]; done)
   ·try rw [h3]
    try simp only [qa, qb, qc, qd, qe] at h3
    refine Qs rfl (Qs rfl (Qs rfl (Qs rfl (Qs rfl (Qp rfl rfl (Qa rfl ?_))))))
    refine hK _ _ (Qb (kp1 rfl) ?_)
    refine Qu (Qt rfl ?_)
    first | (simp [Qc2, h1, h2, h3]; done) | (simp_all [Qc2]; done)
  ·try rw [h2]
   try simp only [qa, qb, qc, qd, qe] at h2
   refine Qs rfl (Qs rfl (Qs rfl (Qs rfl (Qp rfl rfl (Qa rfl (Qs rfl (Qs rfl (Qs rfl (Qs rfl (Qs rfl (Qp rfl rfl ?_)))))))))))
   refine Qa rfl ?_
   refine hK _ _ (Qb (kp1 rfl) ?_)
   refine Qu (Qt rfl ?_)
   first | (simp [Qc2, h1, h2]; done) | (simp_all [Qc2]; done)
 ·try rw [h1]
  try simp only [qa, qb, qc, qd, qe] at h1
  refine Qs rfl (Qs rfl (Qp rfl rfl (Qa rfl (Qs rfl (Qs rfl (Qs rfl (Qs rfl (Qp rfl rfl (Qa rfl (Qs rfl (Qs rfl ?_)))))))))))
  refine Qs rfl (Qs rfl (Qs rfl (Qp rfl rfl (Qa rfl ?_))))
  refine hK _ _ (Qb (kp1 rfl) ?_)
  refine Qu (Qt rfl ?_)
  first | (simp [Qc2, h1]; done) | (simp_all [Qc2]; done)
end Go.Proofs
namespace M3
open Go Go.Abs
end M3
namespace M3
open Go Go.Abs
end M3
namespace M3
open Go Go.Abs
end M3
namespace M25
open Go Go.Abs M3
def QgT (a b c : Int) : Bool := decide (a = 0) && decide (b = 0) && decide (c = 0)
def X4 (a b c : Int) (p q : List UInt8) (part : Int) : Option (Int × Int × Int) :=
 if Qh9 a b c p q = false \/ part < 0 \/ 2 < part then none
 else
  let o := if part = 0 then (a + 1, 0, 0) else if part = 1 then (a, b + 1, 0) else (a, b, c + 1)
  if Qh9 o.1 o.2.1 o.2.2 [] [] = true then some o else none
def dOV (o : Option (Int × Int × Int)) : D := .tup [.agg [.int .i64 (o.getD (0, 0, 0)).1, .int .i64 (o.getD (0, 0, 0)).2.1, .int .i64 (o.getD (0, 0, 0)).2.2, .str [], .str []], .bool o.isSome]
def XF (a b c : Int) (p q : List UInt8) : Nat -> Option (Int × Int × Int)
 | 0 => none
 | n + 1 => if (X4 a b c p q n).isSome = true then X4 a b c p q n else XF a b c p q n
def QiO (a b c : Int) (p q : List UInt8) : Option (Int × Int × Int) :=
 if Qh9 a b c p q = false then none else if p ≠ [] then some (a, b, c) else XF a b c p q 3
theorem Qcx {a b c : Int} {p q : List UInt8} (h : Qh9 a b c p q = true) : (0 <= a /\ a <= 9999) /\ (0 <= b /\ b <= 9999) /\ (0 <= c /\ c <= 9999) := by
 simp only [Qh9, QjQ, Bool.and_eq_true, decide_eq_true_eq] at h
 omega
theorem Qjx {a b c : Int} {p q : List UInt8} {m : Nat} (hm : 0 < m) (h : (X4 a b c p q ((m : Int) - 1)).isSome = false) : XF a b c p q m = XF a b c p q (m - 1) := by
 obtain ⟨n, rfl⟩ : ∃ n, m = n + 1 := ⟨m - 1, by omega⟩
 rw [show ((n + 1 : Nat) : Int) - 1 = (n : Int) by omega] at h
 rw [XF, if_neg (by rw [h]; simp)]; rfl
theorem Qij {a b c : Int} {p q : List UInt8} {m : Nat} (hm : 0 < m) (h : (X4 a b c p q ((m : Int) - 1)).isSome = true) : XF a b c p q m = X4 a b c p q ((m : Int) - 1) := by
 obtain ⟨n, rfl⟩ : ∃ n, m = n + 1 := ⟨m - 1, by omega⟩
 rw [show ((n + 1 : Nat) : Int) - 1 = (n : Int) by omega] at h ⊢
 rw [XF, if_pos h]
def dCu (x : Cu) : List D := [.int .i64 x.e, .int .i64 x.a, .int .i64 x.b, .int .i64 x.c, .str x.p, .str x.q, .bool x.f]
def QeZ (s : Cu × Cu) : List D := dCu s.1 ++ dCu s.2
def ZH (l : List (Cu × Cu)) : D := .sl (l.map QeZ)
def Qhm (s : List (Cu × Cu) × List (Cu × Cu)) : D := .agg [ZH s.1, ZH s.2]
def QbH : Cu := ⟨-1, 0, 0, 0, [], [], false⟩
def Qe1 : Cu := ⟨1, 0, 0, 0, [], [], false⟩
def Qf1 (a b c : Int) : Cu := if QgT a b c = true then QbH else ⟨0, a, b, c, [], [], false⟩
def QdN (a b c : Int) : Cu := match QiO a b c [] [] with
 | none => Qe1
 | some o => ⟨0, o.1, o.2.1, o.2.2, [], [], false⟩
def Xh (a b c : Int) (p q : List UInt8) : List (Cu × Cu) × List (Cu × Cu) :=
 if Qh9 a b c p q = false then ([], []) else if p ≠ [] then ([], [(⟨0, a, b, c, p, [], false⟩, ⟨0, a, b, c, p, [], true⟩)]) else ([(Qf1 a b c, QdN a b c)], [])
def QgV (e a b c : Int) (p q : List UInt8) (f : Bool) : Bool := !decide (e = 0) || (!f && decide (p = []) && !QgT a b c)
def Cu.sm (x : Cu) : Prop := x.p.length <= 1000000 /\ x.q.length <= 1000000
def Sm (l : List (Cu × Cu)) : Prop := l.length <= 1000000 /\ ∀ s ∈ l, Cu.sm s.1 /\ Cu.sm s.2
theorem Sm.at {l : List (Cu × Cu)} (h : Sm l) {i : Nat} (hi : i < l.length) : (l[i].1.p.length <= 1000000 /\ l[i].1.q.length <= 1000000) /\ (l[i].2.p.length <= 1000000 /\ l[i].2.q.length <= 1000000) := h.2 _ (List.getElem_mem hi)
def QdT (s : Cu × Cu) : Bool := QhP s.1.e s.1.a s.1.b s.1.c s.1.p s.1.q s.1.f s.2.e s.2.a s.2.b s.2.c s.2.p s.2.q s.2.f
def Qbt (x y : Cu) : Int := Qbs x.e x.a x.b x.c x.p x.q x.f y.e y.a y.b y.c y.p y.q y.f
def Qp7 (l : List (Cu × Cu)) (i : Nat) : Bool := match l[i]? with
 | none => true
 | some s => QdT s && (decide (i = 0) || match l[i - 1]? with | none => true | some r => decide (Qbt r.2 s.1 < 0))
theorem QmW {l : List (Cu × Cu)} {i : Nat} (h : i < l.length) : Qp7 l i = (QdT l[i] && (decide (i = 0) || decide (Qbt (l[i - 1]'(by omega)).2 l[i].1 < 0))) := by
 unfold Qp7
 rw [List.getElem?_eq_getElem h, List.getElem?_eq_getElem (show i - 1 < l.length by omega)]
theorem Qo3 {l : List (Cu × Cu)} {i : Nat} (h : i < l.length) (h1 : QdT l[i] = true) (h2 : i = 0 \/ Qbt (l[i - 1]'(by omega)).2 l[i].1 < 0) : Qp7 l i = true := by
 rw [QmW h, h1]; simpa using h2
theorem Qg0 {l : List (Cu × Cu)} {i : Nat} (h : i < l.length) (h1 : QdT l[i] = false \/ (i ≠ 0 /\ 0 <= Qbt (l[i - 1]'(by omega)).2 l[i].1)) : Qp7 l i = false := by
 rw [QmW h]
 rcases h1 with h1 | ⟨h1, h2⟩
 ·rw [h1]; rfl
 ·simp only [Bool.and_eq_false_iff, Bool.or_eq_false_iff, decide_eq_false_iff_not]
  exact .inr ⟨h1, by omega⟩
def Qew (l : List (Cu × Cu)) : Bool := (List.range l.length).all (Qp7 l)
theorem QcA {n i : Nat} {p : Nat -> Bool} (h : i < n) (hp : p i = false) : (List.range n).all p = false := by
 rw [Bool.eq_false_iff]; intro ha
 rw [List.all_eq_true] at ha
 rw [ha i (List.mem_range.2 h)] at hp; cases hp
theorem Qk1 {i : Nat} {p : Nat -> Bool} (h : (List.range i).all p = true) (hp : p i = true) : (List.range (i + 1)).all p = true := by
 rw [List.range_succ, List.all_append, h]; simp [hp]
theorem QhU {i : Nat} {p : Nat -> Bool} {n : Nat} (h : (List.range i).all p = true) (hn : n <= i) : (List.range n).all p = true := by
 rw [List.all_eq_true] at h ⊢
 exact fun x hx => h x (List.mem_range.2 (Nat.lt_of_lt_of_le (List.mem_range.1 hx) hn))
def QhJ (s : Cu × Cu) (a b c : Int) (p q : List UInt8) : Bool := Qc2 s.1.e s.1.a s.1.b s.1.c s.1.p s.1.q s.1.f s.2.e s.2.a s.2.b s.2.c s.2.p s.2.q s.2.f a b c p q
def QhI (l : List (Cu × Cu)) (a b c : Int) (p q : List UInt8) : Bool := Qew l && l.any fun s => QhJ s a b c p q
theorem Qhx {l : List (Cu × Cu)} {a b c : Int} {p q : List UInt8} {i : Nat} (hi : l.length <= i) (h : (l.take i).any (fun s => QhJ s a b c p q) = false) : QhI l a b c p q = false := by
 rw [List.take_of_length_le hi] at h; rw [QhI, h, Bool.and_false]
theorem Qhy {l : List (Cu × Cu)} {a b c : Int} {p q : List UInt8} (h : Qew l = false) : QhI l a b c p q = false := by rw [QhI, h]; rfl
theorem Qhz {l : List (Cu × Cu)} {a b c : Int} {p q : List UInt8} {i : Nat} (h : Qew l = true) (hi : i < l.length) (hp : QhJ l[i] a b c p q = true) : QhI l a b c p q = true := by
 rw [QhI, h, Bool.true_and]; exact List.any_eq_true.2 ⟨_, List.getElem_mem hi, hp⟩
def inC (x y : Cu) (s : Cu × Cu) : Bool := decide (Qbt s.1 x <= 0) && decide (Qbt y s.2 <= 0)
theorem Qqt {x y : Cu} {s : Cu × Cu} (h1 : Qbt s.1 x <= 0) (h2 : Qbt y s.2 <= 0) : inC x y s = true := by simp [inC, h1, h2]
theorem Qqs {x y : Cu} {s : Cu × Cu} (h : ¬ Qbt s.1 x <= 0 \/ ¬ Qbt y s.2 <= 0) : inC x y s = false := by
 simp only [inC, Bool.and_eq_false_iff, decide_eq_false_iff_not]; exact h
def mIn (l : List (Cu × Cu)) (x y : Cu) : Bool := l.any (inC x y)
theorem Qjv {α : Type} {s : List α} {p : α -> Bool} {i : Nat} (h : i < s.length) (hp : p s[i] = true) : s.any p = true := List.any_eq_true.2 ⟨_, List.getElem_mem h, hp⟩
theorem Ql2 {α : Type} {s : List α} {p : α -> Bool} {i : Nat} (hi : s.length <= i) (h : (s.take i).any p = false) : s.any p = false := by rwa [List.take_of_length_le hi] at h
theorem Qif {α : Type} {s : List α} {p : α -> Bool} {i : Nat} (h : i < s.length) (ha : (s.take i).any p = false) (hp : p s[i] = false) : (s.take (i + 1)).any p = false := by
 rw [List.take_succ_eq_append_getElem h, List.any_append, ha]; simp [hp]
def QbI (x : Cu) : Bool := QgV x.e x.a x.b x.c x.p x.q x.f
def Qf2 (s : List (Cu × Cu) × List (Cu × Cu)) : Bool := Qew s.1 && Qew s.2 && s.1.all fun x => QbI x.1 && QbI x.2
def QlF (s : List (Cu × Cu) × List (Cu × Cu)) (a b c : Int) (p q : List UInt8) : Bool :=
 Qf2 s && Qh9 a b c p q && (if p = [] then QhI s.1 a b c p q else QhI s.2 a b c p q)
theorem QaN {s : List (Cu × Cu) × List (Cu × Cu)} (h : Qew s.1 = false \/ Qew s.2 = false) : Qf2 s = false := by
 rw [Qf2]; rcases h with h | h <;> simp [h]
theorem QaM {s : List (Cu × Cu) × List (Cu × Cu)} {i : Nat} (hi : i < s.1.length) (h : QbI s.1[i].1 = false \/ QbI s.1[i].2 = false) : Qf2 s = false := by
 have : (s.1.all fun x => QbI x.1 && QbI x.2) = false := XN hi (by rcases h with h | h <;> simp [h])
 rw [Qf2, this, Bool.and_false]
theorem QdV {s : List (Cu × Cu) × List (Cu × Cu)} {i : Nat} (h1 : Qew s.1 = true) (h2 : Qew s.2 = true) (hi : s.1.length <= i) (h : (s.1.take i).all (fun x => QbI x.1 && QbI x.2) = true) : Qf2 s = true := by
 rw [List.take_of_length_le hi] at h
 rw [Qf2, h1, h2, h]; rfl
def Qhl (l : List Cu) : D := .sl (l.map dCu)
theorem Qi8 {l : List Cu} : ∀ r ∈ l.map dCu, r.length = 7 := fun r hr => by obtain ⟨x, _, rfl⟩ := List.mem_map.1 hr; rfl
theorem Qou {l : List Cu} {a b : Nat} : ∀ r ∈ ((l.map dCu).take a).drop b, r.length = 7 := fun r hr => Qi8 r (List.mem_of_mem_take (List.mem_of_mem_drop hr))
def Qce : List Cu -> Cu -> List Cu
 | [], c => [c]
 | x :: r, c => if Qbt x c < 0 then x :: Qce r c else if Qbt x c = 0 then x :: r else c :: x :: r
theorem QmO {l : List Cu} {c : Cu} {k : Nat} (hk : k < l.length) (h : Qbt l[k] c < 0) (hi : Qce l c = l.take k ++ Qce (l.drop k) c) : Qce l c = l.take (k + 1) ++ Qce (l.drop (k + 1)) c := by
 rw [hi, List.drop_eq_getElem_cons hk, Qce, if_pos h, List.take_succ_eq_append_getElem hk, List.append_assoc]; rfl
theorem QmN {l : List Cu} {c : Cu} {k : Nat} (hk : k < l.length) (h : Qbt l[k] c = 0) (hi : Qce l c = l.take k ++ Qce (l.drop k) c) : Qce l c = l := by
 rw [hi, List.drop_eq_getElem_cons hk, Qce, if_neg (by omega), if_pos h, <- List.drop_eq_getElem_cons hk, List.take_append_drop]
theorem QkQ {l : List Cu} {c : Cu} {k : Nat} (h : l.length <= k \/ ∃ hk : k < l.length, ¬ Qbt l[k] c < 0 /\ Qbt l[k] c ≠ 0) (hi : Qce l c = l.take k ++ Qce (l.drop k) c) : Qce l c = l.take k ++ c :: l.drop k := by
 rw [hi]
 rcases h with h | ⟨hk, h1, h2⟩
 ·rw [List.drop_eq_nil_of_le h, Qce]
 ·rw [List.drop_eq_getElem_cons hk, Qce, if_neg h1, if_neg h2]
theorem Qfi : ∀ (l : List Cu) (c : Cu), (Qce l c).length <= l.length + 1
 | [], c => by simp [Qce]
 | x :: r, c => by
  have := Qfi r c
  simp only [Qce]
  (repeat' split) <;> simp <;> omega
theorem QhN : ∀ {l : List Cu} {c : Cu}, (∀ x ∈ l, Cu.sm x) -> Cu.sm c -> ∀ x ∈ Qce l c, Cu.sm x
 | [], c, _, hc, x, hx => by simp [Qce] at hx; exact hx ▸ hc
 | y :: r, c, hl, hc, x, hx => by
  simp only [Qce] at hx
  split at hx
  ·rcases List.mem_cons.1 hx with rfl | hx
   ·exact hl _ (by simp)
   ·exact QhN (fun z hz => hl z (by simp [hz])) hc x hx
  ·split at hx
   ·exact hl x hx
   ·rcases List.mem_cons.1 hx with rfl | hx
    ·exact hc
    ·exact hl x hx
def YW (l : List (Cu × Cu)) : List Cu := l.foldl (fun out s => Qce (Qce out s.1) s.2) [QbH, Qe1]
theorem Qod {l : List (Cu × Cu)} {i : Nat} (h : i < l.length) : YW (l.take (i + 1)) = Qce (Qce (YW (l.take i)) l[i].1) l[i].2 := by
 rw [List.take_succ_eq_append_getElem h, YW, List.foldl_append]; rfl
theorem QgR : ∀ (l : List (Cu × Cu)) (out : List Cu), (l.foldl (fun out s => Qce (Qce out s.1) s.2) out).length <= out.length + 2 * l.length
 | [], out => by simp
 | s :: l, out => by
  have h1 := Qfi out s.1
  have h2 := Qfi (Qce out s.1) s.2
  have := QgR l (Qce (Qce out s.1) s.2)
  simp only [List.foldl_cons, List.length_cons]; omega
theorem Qca (l : List (Cu × Cu)) : (YW l).length <= 2 + 2 * l.length := QgR l _
theorem QiL : ∀ {l : List (Cu × Cu)} {out : List Cu}, (∀ s ∈ l, Cu.sm s.1 /\ Cu.sm s.2) -> (∀ x ∈ out, Cu.sm x) -> ∀ x ∈ l.foldl (fun out s => Qce (Qce out s.1) s.2) out, Cu.sm x
 | [], _, _, h => h
 | s :: l, out, hl, h => by
  rw [List.foldl_cons]
  exact QiL (fun t ht => hl t (by simp [ht])) (QhN (QhN h (hl s (by simp)).1) (hl s (by simp)).2)
theorem QkN {l : List (Cu × Cu)} (hl : ∀ s ∈ l, Cu.sm s.1 /\ Cu.sm s.2) : ∀ x ∈ YW l, Cu.sm x := QiL hl (by
 intro x hx
 simp only [List.mem_cons, List.not_mem_nil, or_false] at hx
 rcases hx with rfl | rfl <;> exact ⟨Nat.zero_le _, Nat.zero_le _⟩)
theorem Qfg {l : List (Cu × Cu)} (hl : Sm l) (i : Nat) : (YW (l.take i)).length <= 2000002 /\ ∀ x ∈ YW (l.take i), Cu.sm x := by
 refine ⟨?_, QkN fun s hs => hl.2 s (List.mem_of_mem_take hs)⟩
 have := Qca (l.take i)
 have h2 : (l.take i).length <= l.length := List.length_take_le' ..
 have := hl.1
 omega
def Qcc (l : List (Cu × Cu)) (x y : Cu) : List (Cu × Cu) := match l.getLast? with
 | some s => if Qbt s.2 x = 0 then l.dropLast ++ [(s.1, y)] else l ++ [(x, y)]
 | none => l ++ [(x, y)]
theorem QiM {l : List (Cu × Cu)} {x y : Cu} {i : Nat} (hi : i + 1 = l.length) (h : Qbt (l[i]'(by omega)).2 x = 0) : Qcc l x y = l.set i ((l[i]'(by omega)).1, y) := by
 have hg : l.getLast? = some (l[i]'(by omega)) := by
  rw [List.getLast?_eq_getElem?, show l.length - 1 = i by omega, List.getElem?_eq_getElem]
 rw [Qcc, hg]
 simp only [h, if_true]
 rw [List.dropLast_eq_take, show l.length - 1 = i by omega, List.set_eq_take_append_cons_drop, if_pos (by omega), List.drop_eq_nil_of_le (by omega)]
theorem QdR {l : List (Cu × Cu)} {x y : Cu} (h : l = [] \/ ∃ i, ∃ hi : i + 1 = l.length, Qbt (l[i]'(by omega)).2 x ≠ 0) : Qcc l x y = l ++ [(x, y)] := by
 rcases h with rfl | ⟨i, hi, h⟩
 ·rfl
 ·have hg : l.getLast? = some (l[i]'(by omega)) := by
   rw [List.getLast?_eq_getElem?, show l.length - 1 = i by omega, List.getElem?_eq_getElem]
  rw [Qcc, hg]
  simp only [if_neg h]
theorem QiN (l : List (Cu × Cu)) (x y : Cu) : (Qcc l x y).length <= l.length + 1 := by
 unfold Qcc
 split
 ·split
  ·simp
  ·simp
 ·simp
theorem QkO {l : List (Cu × Cu)} {x y : Cu} (hl : ∀ s ∈ l, Cu.sm s.1 /\ Cu.sm s.2) (hx : Cu.sm x) (hy : Cu.sm y) : ∀ s ∈ Qcc l x y, Cu.sm s.1 /\ Cu.sm s.2 := by
 intro s hs
 unfold Qcc at hs
 split at hs
 ·rename_i t ht
  have ht' := List.mem_of_getLast? ht
  split at hs
  ·rcases List.mem_append.1 hs with hs | hs
   ·exact hl s (List.dropLast_subset _ hs)
   ·simp at hs; subst hs; exact ⟨(hl t ht').1, hy⟩
  ·rcases List.mem_append.1 hs with hs | hs
   ·exact hl s hs
   ·simp at hs; subst hs; exact ⟨hx, hy⟩
 ·rcases List.mem_append.1 hs with hs | hs
  ·exact hl s hs
  ·simp at hs; subst hs; exact ⟨hx, hy⟩
theorem QkD {α β : Type} {l : List α} {f : α -> β} {i : Nat} (h : i + 1 < l.length) : (l.map f)[((i : Int) + 1).toNat]? = some (f l[i + 1]) := by
 rw [show ((i : Int) + 1).toNat = i + 1 by omega, List.getElem?_map, List.getElem?_eq_getElem h]; rfl
def Qcb (f : Cu -> Cu -> Bool) : List Cu -> List (Cu × Cu) -> List (Cu × Cu)
 | x :: y :: r, out => Qcb f (y :: r) (if f x y = true then Qcc out x y else out)
 | _, out => out
def QjR (l : List (Cu × Cu)) : List (Cu × Cu) := if l.all QdT = true then Qcb (mIn l) (YW l) [] else []
theorem QgS {f : Cu -> Cu -> Bool} {c : List Cu} {out : List (Cu × Cu)} {i : Nat} (h : i + 1 < c.length) : Qcb f (c.drop i) out = Qcb f (c.drop (i + 1)) (if f c[i] c[i + 1] = true then Qcc out c[i] c[i + 1] else out) := by
 rw [List.drop_eq_getElem_cons (show i < c.length by omega), List.drop_eq_getElem_cons h, Qcb]
theorem QmH {f : Cu -> Cu -> Bool} {c : List Cu} {out : List (Cu × Cu)} {i : Nat} (h : c.length <= i + 1) : Qcb f (c.drop i) out = out := by
 have : (c.drop i).length <= 1 := by simp; omega
 match hd : c.drop i with
 | [] => rfl
 | [x] => rfl
 | x :: y :: r => rw [hd] at this; simp at this
def FillI (f : Cu -> Cu -> Bool) (c : List Cu) (i : Nat) (out : List (Cu × Cu)) : Prop :=
 out.length <= i /\ (∀ s ∈ out, Cu.sm s.1 /\ Cu.sm s.2) /\ Qcb f c [] = Qcb f (c.drop i) out
theorem FillI.zero {f : Cu -> Cu -> Bool} {c : List Cu} : FillI f c 0 [] := ⟨Nat.zero_le _, by simp, by simp⟩
theorem FillI.take {f : Cu -> Cu -> Bool} {c : List Cu} {i : Nat} {out : List (Cu × Cu)} (h : FillI f c i out) (hc : ∀ x ∈ c, Cu.sm x) (hi : i + 1 < c.length) (ht : f c[i] c[i + 1] = true) : FillI f c (i + 1) (Qcc out c[i] c[i + 1]) := by
 obtain ⟨h1, h2, h3⟩ := h
 refine ⟨Nat.le_trans (QiN ..) (by omega), QkO h2 (hc _ (List.getElem_mem _)) (hc _ (List.getElem_mem _)), ?_⟩
 rw [h3, QgS hi, if_pos ht]
theorem FillI.skip {f : Cu -> Cu -> Bool} {c : List Cu} {i : Nat} {out : List (Cu × Cu)} (h : FillI f c i out) (hi : i + 1 < c.length) (ht : f c[i] c[i + 1] = false) : FillI f c (i + 1) out := by
 obtain ⟨h1, h2, h3⟩ := h
 exact ⟨by omega, h2, by rw [h3, QgS hi, if_neg (by rw [ht]; simp)]⟩
theorem FillI.done {f : Cu -> Cu -> Bool} {c : List Cu} {i : Nat} {out : List (Cu × Cu)} (h : FillI f c i out) (hi : c.length <= i + 1) : Qcb f c [] = out := by rw [h.2.2, QmH hi]
theorem Qnx {i : Nat} : ((i : Int) + 1).toNat = i + 1 := by omega
theorem YA {l : List (Cu × Cu)} (hl : Sm l) : ∀ x ∈ YW l, Cu.sm x := QkN hl.2
def Qo0 (a b : List (Cu × Cu)) : List (Cu × Cu) := if Qew a = true /\ Qew b = true then QjR (a ++ b) else []
def QjS (a : List (Cu × Cu)) : List (Cu × Cu) := if Qew a = true then Qcb (fun x y => !mIn a x y) (YW a) [] else []
theorem Qo6 {l : List (Cu × Cu)} : ∀ r ∈ l.map QeZ, r.length = 14 := fun r hr => by obtain ⟨x, _, rfl⟩ := List.mem_map.1 hr; rfl
theorem Sm.app {a b : List (Cu × Cu)} (ha : Sm a) (hb : Sm b) (h : a.length + b.length <= 1000000) : Sm (a ++ b) := by
 refine ⟨by simp; omega, fun s hs => ?_⟩
 rcases List.mem_append.1 hs with hs | hs
 ·exact ha.2 s hs
 ·exact hb.2 s hs
theorem Qq9 {H : List (Nat × Box)} {S : Nat -> Bool} {k n : Nat} {b : Box} (hS : S k = true) (hb : lk H k = some b) (hp : b.pr = true) (hn : n = b.rows.length) : (D.osl k n).fz H S = .sl b.rows := by
 simp only [D.fz, D.fzS, hS, hb, if_true, hp, hn, and_self]
abbrev Qe6 := List (Cu × Cu) × List (Cu × Cu)
def Qo1 (a b : Qe6) : Qe6 := if Qf2 a = true /\ Qf2 b = true then (Qo0 a.1 b.1, Qo0 a.2 b.2) else ([], [])
def QhM (a : Qe6) : Qe6 := if Qf2 a = true then (QjS a.1, QjS a.2) else ([], [])
def mPl (v n : Int) : Int := if n < 1 then 0 else Qf3 v n
theorem QiQ {v n : Int} : 0 <= mPl v n := by
 unfold mPl; split
 ·omega
 ·exact Qop (by omega)
theorem QiP {v n : Int} (h : 1 <= n) : mPl v n < n := by
 rw [mPl, if_neg (by omega)]; exact Qoo (by omega)
def QnA (l : List Int) (i : Int) : Int := if i < 0 \/ (l.length : Int) <= i then i.tmod 3 else l.getD i.toNat 0
theorem QmE {l : List Int} {i : Int} (h0 : 0 <= i) (h : i < l.length) : QnA l i = l[i.toNat]'(by omega) := by
 rw [QnA, if_neg (by omega), List.getD_eq_getElem?_getD, List.getElem?_eq_getElem (by omega)]; rfl
def I64 (x : Int) : Prop := -9223372036854775808 <= x /\ x <= 9223372036854775807
theorem Qoc {l : List Int} {i : Int} (hl : ∀ x ∈ l, I64 x) (hi : I64 i) : I64 (QnA l i) := by
 by_cases h : i < 0 \/ (l.length : Int) <= i
 ·rw [QnA, if_pos h]
  have h1 := Int.tmod_lt_of_pos i (show (0 : Int) < 3 by omega)
  have h2 := Int.lt_tmod_of_pos i (show (0 : Int) < 3 by omega)
  exact ⟨by omega, by omega⟩
 ·rw [QmE (by omega) (by omega)]
  exact hl _ (List.getElem_mem _)
theorem Qec (x : Int) : I64 (IntKind.i64.wrap x) := by
 unfold IntKind.wrap I64
 simp only [IntKind.bits, IntKind.signed, Bool.true_and]
 split
 ·rename_i h
  have := of_decide_eq_true h
  omega
 ·rename_i h
  have : ¬ (x % 2 ^ 64 >= 2 ^ (64 - 1)) := fun hh => h (decide_eq_true hh)
  omega
theorem Qeu {α : Type} {k : Nat} {v : α} {l : List (Nat × α)} : lk ((k, v) :: l) k = some v := by rw [Qm, if_pos rfl]
theorem Qff {α : Type} {k : Nat} {v : α} {l : List (Nat × α)} : (lk ((k, v) :: l) k).isSome = true := by rw [Qeu]; rfl
def gB (L : List Int) (I : Int) (et : Nat) : Box := ⟨[[Zp L, .int .i64 I]], 2, et, true⟩
def nxI (I : Int) : Int := IntKind.i64.wrap (I + 1)
def nx (L : List Int) (I n : Int) : Int := mPl (QnA L (IntKind.i64.wrap (nxI I - 1))) n
def ZQ (h m : Int) : Int := if Qar .and .i64 h m = h then 2 else if Qar .and .i64 h m = 0 then 0 else 1
def QaL (h m : Int) : Int := if Qar .andNot .i64 h m = 0 then 2 else if Qar .and .i64 h m = 0 then 0 else 1
theorem QhS {i : Nat} (h : i <= 62) : 1 <= (2 : Int) ^ i /\ (2 : Int) ^ i <= 4611686018427387904 := by
 have h1 : (2 : Nat) ^ i <= 2 ^ 62 := Nat.pow_le_pow_right (by omega) h
 have h2 : 1 <= (2 : Nat) ^ i := Nat.one_le_two_pow
 have h3 : ((2 ^ i : Nat) : Int) = (2 : Int) ^ i := by simp
 rw [<- h3]
 have h4 : (2 : Nat) ^ 62 = 4611686018427387904 := by decide
 omega
structure Vr where
 a : Int
 b : Int
 c : Int
 p : List UInt8
 q : List UInt8
def dVr (v : Vr) : List D := [.int .i64 v.a, .int .i64 v.b, .int .i64 v.c, .str v.p, .str v.q]
def Vr.sm (v : Vr) : Prop := v.p.length <= 100 /\ v.q.length <= 100
def versions : List Vr := [⟨1, 0, 0, [], []⟩, ⟨1, 2, 0, [], []⟩, ⟨2, 0, 0, [97, 46, 49], []⟩, ⟨2, 0, 0, [], []⟩]
theorem Qkd : ∀ v ∈ versions, v.sm := by
 intro v hv
 simp only [versions, List.mem_cons, List.not_mem_nil, or_false] at hv
 rcases hv with rfl | rfl | rfl | rfl <;> exact ⟨by decide, by decide⟩
theorem QdY {i : Nat} : ((i : Int) - 1).toNat = i - 1 := by omega
end M25
namespace Go.Proofs
open Go Go.Abs M3 M25
set_option linter.unusedVariables false
set_option linter.unusedSimpArgs false
theorem Qaf {a b c : Int} {p q : List UInt8} : Ok Tryz.prog 78 [.agg [.int .i64 a, .int .i64 b, .int .i64 c, .str p, .str q]] (.agg [.int .i64 a, .int .i64 b, .int .i64 c, .str p, .str []]) := by
 refine Ok.ofT Z1 Tryz.func78 QsL (Nat.le_of_ble_eq_true rfl) ?_
 show TW _ _ tf78.body _ _
 refine Qf fun K hK => Zx rfl rfl rfl (ZD rfl ?_)
 refine hK _ _ (Qb (kp2 rfl rfl) ?_)
 refine Qf fun K hK => Qh rfl rfl (Q7 rfl rfl rfl rfl rfl rfl rfl rfl ?_)
 refine hK _ _ (Qb (kp2 rfl rfl) ?_)
 refine Qf fun K hK => QH (cs := [_, _, _, _, _]) rfl rfl rfl rfl (Q7 rfl rfl rfl rfl rfl rfl rfl rfl ?_)
 refine hK _ _ (Qb (kp1 rfl) ?_)
 refine Qu (ZG (cs := [_, _, _, _, _]) rfl rfl rfl rfl ?_)
 exact rfl
theorem Y0  : Ok Tryz.prog 80 [] (.agg [.int .i64 (-1), .int .i64 0, .int .i64 0, .int .i64 0, .str [], .str [], .bool false]) := by
 refine Ok.ofT Z1 Tryz.func80 QsN (Nat.le_of_ble_eq_true rfl) ?_
 show TW _ _ tf80.body _ _
 refine Qf fun K hK => ZD rfl ?_
 refine hK _ _ (Qb (kp1 rfl) ?_)
 refine Qf fun K hK => QX rfl rfl (Q7 rfl rfl rfl rfl rfl rfl rfl rfl ?_)
 refine hK _ _ (Qb (kp1 rfl) ?_)
 refine Qu (ZG (cs := [_, _, _, _, _, _, _]) rfl rfl rfl rfl ?_)
 exact rfl
theorem Xc  : Ok Tryz.prog 82 [] (.agg [.int .i64 1, .int .i64 0, .int .i64 0, .int .i64 0, .str [], .str [], .bool false]) := by
 refine Ok.ofT Z1 Tryz.func82 QsP (Nat.le_of_ble_eq_true rfl) ?_
 show TW _ _ tf82.body _ _
 refine Qf fun K hK => ZD rfl ?_
 refine hK _ _ (Qb (kp1 rfl) ?_)
 refine Qf fun K hK => QX rfl rfl (Q7 rfl rfl rfl rfl rfl rfl rfl rfl ?_)
 refine hK _ _ (Qb (kp1 rfl) ?_)
 refine Qu (ZG (cs := [_, _, _, _, _, _, _]) rfl rfl rfl rfl ?_)
 exact rfl
theorem YP {a b c : Int} {p q : List UInt8} : Ok Tryz.prog 57 [.agg [.int .i64 a, .int .i64 b, .int .i64 c, .str p, .str q]] (.agg [.int .i64 0, .int .i64 a, .int .i64 b, .int .i64 c, .str p, .str [], .bool false]) := by
 refine Ok.ofT Z1 Tryz.func57 Qsr (Nat.le_of_ble_eq_true rfl) ?_
 show TW _ _ tf57.body _ _
 refine Qf fun K hK => Zx rfl rfl rfl (ZD rfl ?_)
 refine hK _ _ (Qb (kp2 rfl rfl) ?_)
 refine Qf fun K hK => QH (cs := [_, _, _, _, _]) rfl rfl rfl rfl (QI (Qaf) rfl rfl (.inl rfl) (QX rfl rfl (Q7 rfl rfl rfl rfl rfl rfl rfl rfl ?_)))
 refine hK _ _ (Qb (kp1 rfl) ?_)
 refine Qu (ZG (cs := [_, _, _, _, _, _, _]) rfl rfl rfl rfl ?_)
 exact rfl
theorem QbX {a b c : Int} {p q : List UInt8} : Ok Tryz.prog 58 [.agg [.int .i64 a, .int .i64 b, .int .i64 c, .str p, .str q]] (.agg [.int .i64 0, .int .i64 a, .int .i64 b, .int .i64 c, .str p, .str [], .bool true]) := by
 refine Ok.ofT Z1 Tryz.func58 Qss (Nat.le_of_ble_eq_true rfl) ?_
 show TW _ _ tf58.body _ _
 refine Qf fun K hK => Zx rfl rfl rfl (ZD rfl ?_)
 refine hK _ _ (Qb (kp2 rfl rfl) ?_)
 refine Qf fun K hK => QH (cs := [_, _, _, _, _]) rfl rfl rfl rfl (QI (Qaf) rfl rfl (.inl rfl) (QX rfl rfl (Q7 rfl rfl rfl rfl rfl rfl rfl rfl ?_)))
 refine hK _ _ (Qb (kp1 rfl) ?_)
 refine Qu (ZG (cs := [_, _, _, _, _, _, _]) rfl rfl rfl rfl ?_)
 exact rfl
theorem XW {a b c : Int} {p q : List UInt8} : Ok Tryz.prog 79 [.agg [.int .i64 a, .int .i64 b, .int .i64 c, .str p, .str q]] (.bool (QgT a b c)) := by
 refine Ok.ofT Z1 Tryz.func79 QsM (Nat.le_of_ble_eq_true rfl) ?_
 show TW _ _ tf79.body _ _
 refine Qf fun K hK => Zx rfl rfl rfl (Qa rfl ?_)
 refine hK _ _ (Qb (kp1 rfl) ?_)
 refine Qf fun K hK => Qh rfl rfl (QA rfl rfl rfl (ZN rfl rfl (Qa rfl ?_)))
 refine QE (g := 6) rfl (fun h1 => ?_) (fun h1 => ?_)
 ·try rw [h1]
  try simp only [qa, qb, qc, qd, qe] at h1
  refine Qj rfl (Qh rfl rfl (Qj rfl (QA rfl rfl rfl (Qj rfl (ZN rfl rfl (Qp rfl rfl (Qa rfl ?_)))))))
  refine QE (g := 11) rfl (fun h2 => ?_) (fun h2 => ?_)
  ·try rw [h2]
   try simp only [qa, qb, qc, qd, qe] at h2
   refine Qj rfl (Qh rfl rfl (Qj rfl (QA rfl rfl rfl (Qj rfl (ZN rfl rfl (Qp rfl rfl (Qa rfl ?_)))))))
   refine hK _ _ (Qb (kp1 rfl) ?_)
   refine Qu (Qt rfl ?_)
   simp_all [QgT]
  ·try rw [h2]
   try simp only [qa, qb, qc, qd, qe] at h2
   refine Qs rfl (Qs rfl (Qs rfl (Qp rfl rfl (Qa rfl ?_))))
   refine hK _ _ (Qb (kp1 rfl) ?_)
   refine Qu (Qt rfl ?_)
   simp_all [QgT]
 ·try rw [h1]
  try simp only [qa, qb, qc, qd, qe] at h1
  refine Qs rfl (Qs rfl (Qs rfl (Qp rfl rfl (Qa rfl (Qs rfl (Qs rfl (Qs rfl (Qp rfl rfl (Qa rfl ?_)))))))))
  refine hK _ _ (Qb (kp1 rfl) ?_)
  refine Qu (Qt rfl ?_)
  simp_all [QgT]
end Go.Proofs
namespace Go.Proofs
open Go Go.Abs M3 M25
set_option linter.unusedVariables false
set_option linter.unusedSimpArgs false
theorem Qc7 {a b c : Int} {p q : List UInt8} (hp : p.length <= 1000000) (hq : q.length <= 1000000) {part : Int} : Ok Tryz.prog 96 [.agg [.int .i64 a, .int .i64 b, .int .i64 c, .str p, .str q], .int .i64 part] (dOV (X4 a b c p q part)) := by
 refine Ok.ofT Z1 Tryz.func96 Qs3 (Nat.le_of_ble_eq_true rfl) ?_
 show TW _ _ tf96.body _ _
 refine Qf fun K hK => Zx rfl rfl rfl (ZD rfl (Qa rfl ?_))
 refine hK _ _ (Qb (kp3 rfl rfl rfl) ?_)
 refine QB ?_ -- 0
 refine Qf fun K hK => QH (cs := [_, _, _, _, _]) rfl rfl rfl rfl (QI (Zf (by omega) (by omega)) rfl rfl (.inr rfl) (Yp rfl (Qa rfl ?_)))
 refine QE (g := 10) rfl (fun h1 => ?_) (fun h1 => ?_)
 ·try rw [h1]
  try simp only [qa, qb, qc, qd, qe] at h1
  refine Qs rfl (Qs rfl (Qp rfl rfl (Qa rfl (Qs rfl (Qs rfl (Qp rfl rfl ?_))))))
  refine hK _ _ (Qb (kp4 rfl rfl rfl rfl) ?_)
  refine Zv rfl (Qf fun K hK => QX rfl rfl (Q7 rfl rfl rfl rfl rfl rfl rfl rfl (Qa rfl ?_)))
  refine hK _ _ (Qb (kp2 rfl rfl) ?_)
  refine Qu (Qk (Post.eq (XD (ds := [.int .i64 _, .int .i64 _, .int .i64 _, .str _, .str _]) (d' := .bool _) (cs := [_, _, _, _, _]) rfl rfl rfl rfl rfl ⟨rfl, rfl⟩) ?_))
  first | (simp [X4, dOV, h1]; done) | (simp_all [X4, dOV]; done)
 ·try rw [h1]
  try simp only [qa, qb, qc, qd, qe] at h1
  refine Qj rfl (Qa rfl (Qj rfl (Z8 rfl rfl (Qp rfl rfl (Qa rfl ?_)))))
  refine QE (g := 14) rfl (fun h2 => ?_) (fun h2 => ?_)
  ·try rw [h2]
   try simp only [qa, qb, qc, qd, qe] at h2
   refine Qs rfl (Qs rfl (Qp rfl rfl ?_))
   refine hK _ _ (Qb (kp4 rfl rfl rfl rfl) ?_)
   refine Zv rfl (Qf fun K hK => QX rfl rfl (Q7 rfl rfl rfl rfl rfl rfl rfl rfl (Qa rfl ?_)))
   refine hK _ _ (Qb (kp2 rfl rfl) ?_)
   refine Qu (Qk (Post.eq (XD (ds := [.int .i64 _, .int .i64 _, .int .i64 _, .str _, .str _]) (d' := .bool _) (cs := [_, _, _, _, _]) rfl rfl rfl rfl rfl ⟨rfl, rfl⟩) ?_))
   first | (simp [X4, dOV, h1, h2]; done) | (simp_all [X4, dOV]; done)
  ·try rw [h2]
   try simp only [qa, qb, qc, qd, qe] at h2
   refine Qj rfl (Qa rfl (Qj rfl (Qh7 rfl rfl (Qp rfl rfl ?_))))
   refine hK _ _ (Qb (kp4 rfl rfl rfl rfl) ?_)
   refine Qw rfl (fun h3 => ?_) (fun h3 => ?_)
   ·try rw [h3]
    try simp only [qa, qb, qc, qd, qe] at h3
    refine Qf fun K hK => QX rfl rfl (Q7 rfl rfl rfl rfl rfl rfl rfl rfl (Qa rfl ?_))
    refine hK _ _ (Qb (kp2 rfl rfl) ?_)
    refine Qu (Qk (Post.eq (XD (ds := [.int .i64 _, .int .i64 _, .int .i64 _, .str _, .str _]) (d' := .bool _) (cs := [_, _, _, _, _]) rfl rfl rfl rfl rfl ⟨rfl, rfl⟩) ?_))
    first | (simp [X4, dOV, h1, h2, h3]; done) | (simp_all [X4, dOV]; done)
   ·try rw [h3]
    try simp only [qa, qb, qc, qd, qe] at h3
    refine Qv (Qd (kp3 rfl rfl rfl) (Qf fun K hK => ZD rfl ?_))
    refine hK _ _ (Qb (kp4 rfl rfl rfl rfl) ?_)
    refine QB ?_ -- 1
    refine Qf fun K hK => Qa rfl ?_
    refine hK _ _ (Qb (kp4 rfl rfl rfl rfl) ?_)
    refine Qz (Qf fun K hK => ZN rfl rfl (Qa rfl ?_))
    refine hK _ _ (Qb (kp5 rfl rfl rfl rfl rfl) ?_)
    refine Qw rfl (fun h4 => ?_) (fun h4 => ?_)
    ·try rw [h4]
     try simp only [qa, qb, qc, qd, qe] at h4
     refine QL fun K hK => Qh rfl rfl (QA rfl rfl rfl (Q1 rfl rfl (Qq (by have := Qcx (by simpa using h1); omega) (by have := Qcx (by simpa using h1); omega)) (QX rfl rfl (Q7 rfl rfl rfl rfl rfl rfl rfl rfl (hK _ ?_)))))
     refine Qg (Qd (kp2 rfl rfl) ?_)
     refine QB ?_ -- 2
     refine Qf fun K hK => QH (cs := [_, _, _, _, _]) rfl rfl rfl rfl (QI (Zf (by simp) (by simp)) rfl rfl (.inr rfl) (Yp rfl ?_))
     refine hK _ _ (Qb (kp3 rfl rfl rfl) ?_)
     refine Qw rfl (fun h5 => ?_) (fun h5 => ?_)
     ·try rw [h5]
      try simp only [qa, qb, qc, qd, qe] at h5
      refine Qf fun K hK => QX rfl rfl (Q7 rfl rfl rfl rfl rfl rfl rfl rfl (Qa rfl ?_))
      refine hK _ _ (Qb (kp2 rfl rfl) ?_)
      refine Qu (Qk (Post.eq (XD (ds := [.int .i64 _, .int .i64 _, .int .i64 _, .str _, .str _]) (d' := .bool _) (cs := [_, _, _, _, _]) rfl rfl rfl rfl rfl ⟨rfl, rfl⟩) ?_))
      first | (simp [X4, dOV, h1, h2, h3, h4, h5]; done) | (simp_all [X4, dOV]; done)
     ·try rw [h5]
      try simp only [qa, qb, qc, qd, qe] at h5
      refine Qv (Qd (kp2 rfl rfl) (Qf fun K hK => QH (cs := [_, _, _, _, _]) rfl rfl rfl rfl (Q7 rfl rfl rfl rfl rfl rfl rfl rfl (Qa rfl ?_))))
      refine hK _ _ (Qb (kp2 rfl rfl) ?_)
      refine Qu (Post.eq (XD (ds := [.int .i64 _, .int .i64 _, .int .i64 _, .str _, .str _]) (d' := .bool _) (cs := [_, _, _, _, _]) rfl rfl rfl rfl rfl ⟨rfl, rfl⟩) ?_)
      first | (simp [X4, dOV, h1, h2, h3, h4, h5]; done) | (simp_all [X4, dOV]; done)
    ·try rw [h4]
     try simp only [qa, qb, qc, qd, qe] at h4
     refine Qf fun K hK => ZN rfl rfl (Qa rfl ?_)
     refine hK _ _ (Qb (kp4 rfl rfl rfl rfl) ?_)
     refine Qw rfl (fun h6 => ?_) (fun h6 => ?_)
     ·try rw [h6]
      try simp only [qa, qb, qc, qd, qe] at h6
      refine QL fun K hK => Qh rfl rfl (QA rfl rfl rfl (Qh rfl rfl (QA rfl rfl rfl (Q1 rfl rfl (Qq (by have := Qcx (by simpa using h1); omega) (by have := Qcx (by simpa using h1); omega)) (QX rfl rfl (Q7 rfl rfl rfl rfl rfl rfl rfl rfl (hK _ ?_)))))))
      refine Qg (Qd (kp2 rfl rfl) ?_)
      refine QB ?_ -- 2
      refine Qf fun K hK => QH (cs := [_, _, _, _, _]) rfl rfl rfl rfl (QI (Zf (by simp) (by simp)) rfl rfl (.inr rfl) (Yp rfl ?_))
      refine hK _ _ (Qb (kp3 rfl rfl rfl) ?_)
      refine Qw rfl (fun h7 => ?_) (fun h7 => ?_)
      ·try rw [h7]
       try simp only [qa, qb, qc, qd, qe] at h7
       refine Qf fun K hK => QX rfl rfl (Q7 rfl rfl rfl rfl rfl rfl rfl rfl (Qa rfl ?_))
       refine hK _ _ (Qb (kp2 rfl rfl) ?_)
       refine Qu (Qk (Post.eq (XD (ds := [.int .i64 _, .int .i64 _, .int .i64 _, .str _, .str _]) (d' := .bool _) (cs := [_, _, _, _, _]) rfl rfl rfl rfl rfl ⟨rfl, rfl⟩) ?_))
       first | (simp [X4, dOV, h1, h2, h3, h4, h6, h7]; done) | (simp_all [X4, dOV]; done)
      ·try rw [h7]
       try simp only [qa, qb, qc, qd, qe] at h7
       refine Qv (Qd (kp2 rfl rfl) (Qf fun K hK => QH (cs := [_, _, _, _, _]) rfl rfl rfl rfl (Q7 rfl rfl rfl rfl rfl rfl rfl rfl (Qa rfl ?_))))
       refine hK _ _ (Qb (kp2 rfl rfl) ?_)
       refine Qu (Post.eq (XD (ds := [.int .i64 _, .int .i64 _, .int .i64 _, .str _, .str _]) (d' := .bool _) (cs := [_, _, _, _, _]) rfl rfl rfl rfl rfl ⟨rfl, rfl⟩) ?_)
       first | (simp [X4, dOV, h1, h2, h3, h4, h6, h7]; done) | (simp_all [X4, dOV]; done)
     ·try rw [h6]
      try simp only [qa, qb, qc, qd, qe] at h6
      refine QL fun K hK => Qh rfl rfl (QA rfl rfl rfl (Qh rfl rfl (QA rfl rfl rfl (Qh rfl rfl (QA rfl rfl rfl (Q1 rfl rfl (Qq (by have := Qcx (by simpa using h1); omega) (by have := Qcx (by simpa using h1); omega)) (QX rfl rfl (Q7 rfl rfl rfl rfl rfl rfl rfl rfl (hK _ ?_)))))))))
      refine Qg (Qd (kp2 rfl rfl) ?_)
      refine QB ?_ -- 2
      refine Qf fun K hK => QH (cs := [_, _, _, _, _]) rfl rfl rfl rfl (QI (Zf (by simp) (by simp)) rfl rfl (.inr rfl) (Yp rfl ?_))
      refine hK _ _ (Qb (kp3 rfl rfl rfl) ?_)
      refine Qw rfl (fun h8 => ?_) (fun h8 => ?_)
      ·try rw [h8]
       try simp only [qa, qb, qc, qd, qe] at h8
       refine Qf fun K hK => QX rfl rfl (Q7 rfl rfl rfl rfl rfl rfl rfl rfl (Qa rfl ?_))
       refine hK _ _ (Qb (kp2 rfl rfl) ?_)
       refine Qu (Qk (Post.eq (XD (ds := [.int .i64 _, .int .i64 _, .int .i64 _, .str _, .str _]) (d' := .bool _) (cs := [_, _, _, _, _]) rfl rfl rfl rfl rfl ⟨rfl, rfl⟩) ?_))
       first | (simp [X4, dOV, h1, h2, h3, h4, h6, h8]; done) | (simp_all [X4, dOV]; done)
      ·try rw [h8]
       try simp only [qa, qb, qc, qd, qe] at h8
       refine Qv (Qd (kp2 rfl rfl) (Qf fun K hK => QH (cs := [_, _, _, _, _]) rfl rfl rfl rfl (Q7 rfl rfl rfl rfl rfl rfl rfl rfl (Qa rfl ?_))))
       refine hK _ _ (Qb (kp2 rfl rfl) ?_)
       refine Qu (Post.eq (XD (ds := [.int .i64 _, .int .i64 _, .int .i64 _, .str _, .str _]) (d' := .bool _) (cs := [_, _, _, _, _]) rfl rfl rfl rfl rfl ⟨rfl, rfl⟩) ?_)
       first | (simp [X4, dOV, h1, h2, h3, h4, h6, h8]; done) | (simp_all [X4, dOV]; done)
theorem Qc8 {a b c : Int} {p q : List UInt8} (hp : p.length <= 1000000) (hq : q.length <= 1000000) : Ok Tryz.prog 81 [.agg [.int .i64 a, .int .i64 b, .int .i64 c, .str p, .str q]] (dOV (QiO a b c p q)) := by
 refine Ok.ofT Z1 Tryz.func81 QsO (Nat.le_of_ble_eq_true rfl) ?_
 show TW _ _ tf81.body _ _
 refine Qf fun K hK => Zx rfl rfl rfl (ZD rfl (Qa rfl ?_))
 refine hK _ _ (Qb (kp2 rfl rfl) ?_)
 refine QB ?_ -- 0
 refine Qf fun K hK => QH (cs := [_, _, _, _, _]) rfl rfl rfl rfl (QI (Zf (by omega) (by omega)) rfl rfl (.inr rfl) (Yp rfl ?_))
 refine hK _ _ (Qb (kp3 rfl rfl rfl) ?_)
 refine Qw rfl (fun h1 => ?_) (fun h1 => ?_)
 ·try rw [h1]
  try simp only [qa, qb, qc, qd, qe] at h1
  refine Qf fun K hK => QX rfl rfl (Q7 rfl rfl rfl rfl rfl rfl rfl rfl (Qa rfl ?_))
  refine hK _ _ (Qb (kp2 rfl rfl) ?_)
  refine Qu (Qk (Post.eq (XD (ds := [.int .i64 _, .int .i64 _, .int .i64 _, .str _, .str _]) (d' := .bool _) (cs := [_, _, _, _, _]) rfl rfl rfl rfl rfl ⟨rfl, rfl⟩) ?_))
  simp [QiO, dOV, h1]
 ·try rw [h1]
  try simp only [qa, qb, qc, qd, qe] at h1
  refine Qv (Qd (kp2 rfl rfl) ?_)
  refine QB ?_ -- 1
  refine Qf fun K hK => Qh rfl rfl (QA rfl rfl rfl (QlZ rfl rfl ?_))
  refine hK _ _ (Qb (kp3 rfl rfl rfl) ?_)
  refine Qw rfl (fun h2 => ?_) (fun h2 => ?_)
  ·try rw [h2]
   try simp only [qa, qb, qc, qd, qe] at h2
   refine Qf fun K hK => Qh rfl rfl (QA rfl rfl rfl (Qh rfl rfl (QA rfl rfl rfl (Qh rfl rfl (QA rfl rfl rfl (QX rfl rfl (Q7 rfl rfl rfl rfl rfl rfl rfl rfl (Qa rfl ?_))))))))
   refine hK _ _ (Qb (kp2 rfl rfl) ?_)
   refine Qu (Qk (Post.eq (XD (ds := [.int .i64 _, .int .i64 _, .int .i64 _, .str _, .str _]) (d' := .bool _) (cs := [_, _, _, _, _]) rfl rfl rfl rfl rfl ⟨rfl, rfl⟩) ?_))
   simp [QiO, dOV, h1, h2]
  ·try rw [h2]
   try simp only [qa, qb, qc, qd, qe] at h2
   refine Qv (Qd (kp2 rfl rfl) ?_)
   refine QB ?_ -- 2
   refine Qf fun K hK => Qa rfl ?_
   refine hK _ _ (Qb (kp3 rfl rfl rfl) ?_)
   refine Qz ?_
   refine Zk (ι := Nat) (fun m => ⟨[(1, .ref 1 0 0), (2, .ref 2 0 0), (4, .int .i64 ((m : Int) - 1))], [(1, ⟨[[.int .i64 a, .int .i64 b, .int .i64 c, .str p, .str q]], 5, 67, true⟩), (2, ⟨[[.int .i64 0, .int .i64 0, .int .i64 0, .str [], .str []]], 5, 67, true⟩)]⟩) (fun m => m <= 3 /\ XF a b c p q 3 = XF a b c p q m) (fun m => m) 3 ?_ ?_ ?_
   ·exact Q2 (l := [1, 2, 4]) (lH := [1, 2]) (kp3 rfl rfl rfl) (Qe rfl (Qe rfl Ql)) rfl rfl rfl
   ·exact ⟨by omega, rfl⟩
   intro m hI
   obtain ⟨hI1, hI2⟩ := hI
   try dsimp only
   refine QB ?_ -- 3
   refine Qf fun K hK => Qa rfl (QeX rfl rfl ?_)
   refine hK _ _ (Qb (kp4 rfl rfl rfl rfl) ?_)
   refine Qw rfl (fun h3 => ?_) (fun h3 => ?_)
   ·try rw [h3]
    try simp only [qa, qb, qc, qd, qe] at h3
    rcases Nat.eq_zero_or_pos m with hm | hm <;> first | omega | skip
    refine Qv (Qd (kp3 rfl rfl rfl) ?_)
    refine QB ?_ -- 4
    refine Qz (Qf fun K hK => QH (cs := [_, _, _, _, _]) rfl rfl rfl rfl (Qa rfl (QI (Qc7 (by omega) (by omega)) rfl rfl (.inl rfl) (Qa rfl (QW rfl rfl (QW rfl rfl (ZD rfl (Q7 rfl rfl rfl rfl rfl rfl rfl rfl (Qa rfl ?_)))))))))
    refine hK _ _ (Qb (kp5 rfl rfl rfl rfl rfl) ?_)
    refine Qf fun K hK => Qa rfl ?_
    refine hK _ _ (Qb (kp5 rfl rfl rfl rfl rfl) ?_)
    refine Qw rfl (fun h4 => ?_) (fun h4 => ?_)
    ·try rw [h4]
     try simp only [qa, qb, qc, qd, qe] at h4
     refine Qf fun K hK => QH (cs := [_, _, _, _, _]) rfl rfl rfl rfl (Q7 rfl rfl rfl rfl rfl rfl rfl rfl (Qa rfl ?_))
     refine hK _ _ (Qb (kp2 rfl rfl) ?_)
     refine Qu (Qr (Qk (Q4 (Qr (Qk (Post.eq (XD (ds := [.int .i64 _, .int .i64 _, .int .i64 _, .str _, .str _]) (d' := .bool _) (cs := [_, _, _, _, _]) rfl rfl rfl rfl rfl ⟨rfl, rfl⟩) ?_))))))
     subst h2
     simp [QiO, dOV, h1, hI2, Qij hm h4, h4]
    ·try rw [h4]
     try simp only [qa, qb, qc, qd, qe] at h4
     refine Qv (Qg (Qd (kp3 rfl rfl rfl) (QL fun K hK => Qa rfl (Qaq rfl rfl (by first | exact Qq (by omega) (by omega) | rfl) (Qa rfl (hK _ ?_))))))
     refine Qi (m - 1) ?_ ?_ ?_
     ·refine Q2 (l := [1, 2, 4]) (lH := [1, 2]) (kp3 rfl rfl rfl) (Qe rfl (Qe rfl Ql)) ?_ rfl rfl; simp only [List.cons.injEq, Prod.mk.injEq, D.int.injEq, and_true, true_and]; omega
     ·exact ⟨by omega, by rw [hI2]; exact Qjx hm h4⟩
     ·show m - 1 < m; omega
   ·try rw [h3]
    try simp only [qa, qb, qc, qd, qe] at h3
    rcases Nat.eq_zero_or_pos m with hm | hm <;> first | omega | skip
    refine Zi (QK (Qx (QD (Qd (kp1 rfl) (Qf fun K hK => QX rfl rfl (Q7 rfl rfl rfl rfl rfl rfl rfl rfl (Qa rfl ?_)))))))
    refine hK _ _ (Qb (kp2 rfl rfl) ?_)
    refine Qu (Post.eq (XD (ds := [.int .i64 _, .int .i64 _, .int .i64 _, .str _, .str _]) (d' := .bool _) (cs := [_, _, _, _, _]) rfl rfl rfl rfl rfl ⟨rfl, rfl⟩) ?_)
    subst h2
    subst hm
    have hb : XF a b c [] q 3 = none := hI2
    simp [QiO, dOV, h1, hb]
end Go.Proofs
