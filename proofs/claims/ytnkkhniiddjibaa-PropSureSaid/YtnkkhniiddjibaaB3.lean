/- Part 3 of the means of the proof: a verified abstract evaluator, the prepared functions, and contracts of functions. It states nothing of the claim by itself. -/
import Derived.Test.YtnkkhniiddjibaaB2
import Derived.KernelRfl
import Derived.Test.YtnkkhniiddjibaaProg
set_option linter.unusedSimpArgs false
set_option linter.unusedVariables false
namespace Go.Proofs
open Go Go.Abs
set_option maxRecDepth 100000
abbrev oo (t : Nat) (op : AOp) : AOper := ⟨some t, op, none⟩
def tf3 : TFn := ⟨106, [.tmp 6],.seq (.region false [oo 6 (.mov (.c (.bool false)))]) [0, 1, 2] (.seq (.seq (.region false [oo 19 (.mov (.s 1)),oo 20 (.len (.s 19)),oo 21 (.bin .gtr false (.s 20) (.c (.int .i64 20)))]) [0, 1, 2, 21] (.cond (.s 21) (.seq (.region false [oo 22 (.call 4 []),
 oo 6 (.mov (.s 22))]) [6] (.ret)) (.skip))) [0, 1, 2] (.seq (.region false [oo 23 (.mov (.s 0)),oo 24 (.call 5 [(.s 23), (.c (.int .i64 4))]),oo 7 (.alloc 26 [(.fsl [])]),⟨none, .store 1 (.s 7) (.s 24), none⟩]) [1, 2, 7] (.seq (.region true [oo 26 (.load true 1 (.s 7)),oo 27 (.load true 1 (.s 7)),
 oo 28 (.call 7 [(.s 27), (.c (.fsl []))]),oo 29 (.mov (.s 1)),oo 30 (.call 6 [(.s 26), (.s 28), (.s 29)]),oo 25 (.mov (.s 30)),oo 31 (.extract 0 (.s 25)),oo 32 (.extract 1 (.s 25)),oo 8 (.mov (.s 31)),oo 9 (.mov (.s 32))]) [2, 7, 8, 9] (.seq (.seq (.region false [oo 33 (.mov (.s 9)),
 oo 34 (.bin .geq false (.s 33) (.c (.int .i64 0)))]) [2, 7, 8, 34] (.cond (.s 34) (.seq (.region false [oo 35 (.call 4 []),oo 6 (.mov (.s 35))]) [6] (.ret)) (.skip))) [2, 7, 8] (.seq (.region true [oo 37 (.load true 1 (.s 7)),oo 38 (.load true 1 (.s 7)),oo 39 (.call 7 [(.s 38), (.c (.fsl []))]),
 oo 40 (.mov (.s 8)),oo 41 (.call 8 [(.s 37), (.s 39), (.s 40)]),oo 36 (.mov (.s 41)),oo 42 (.extract 0 (.s 36)),oo 43 (.extract 1 (.s 36)),oo 10 (.mov (.s 42)),oo 11 (.mov (.s 43))]) [2, 7, 10] (.seq (.region false [oo 44 (.load true 1 (.s 7)),oo 45 (.call 7 [(.s 44), (.c (.fsl []))]),
 oo 12 (.mov (.s 45))]) [2, 7, 10, 12] (.seq (.seq (.region false [oo 47 (.load true 1 (.s 7)),oo 48 (.mov (.s 12)),oo 49 (.mov (.s 10)),oo 50 (.call 9 [(.s 47), (.s 48), (.s 49)]),oo 46 (.mov (.s 50)),oo 51 (.extract 0 (.s 46)),oo 52 (.extract 1 (.s 46)),oo 13 (.mov (.s 51)),
 oo 14 (.mov (.s 52))]) [2, 7, 10, 12, 13] (.seq (.region false [oo 53 (.mov (.s 13)),oo 54 (.bin .geq false (.s 53) (.c (.int .i64 0)))]) [2, 7, 10, 12, 54] (.cond (.s 54) (.seq (.region false [oo 55 (.call 4 []),oo 6 (.mov (.s 55))]) [6] (.ret)) (.skip)))) [2, 7, 10, 12] (.seq (
 .region false [oo 56 (.mov (.s 2)),oo 57 (.mov (.s 12)),oo 58 (.len (.s 57)),oo 59 (.bin .add false (.s 58) (.c (.int .i64 1))),oo 60 (.call 10 [(.s 56), (.s 59)]),oo 2 (.mov (.s 60))]) [2, 7, 10, 12] (.seq (.region true [oo 61 (.mov (.s 12)),oo 62 (.mov (.s 2)),
 oo 63 (.slice 1 (.s 61) none (some (.s 62)) none),oo 64 (.append 1 37 24 (.c (.fsl [])) (.s 63)),oo 65 (.buildSlice 2 78 []),oo 66 (.buildSlice 1 37 [(.s 65)]),oo 67 (.append 1 37 24 (.s 64) (.s 66)),oo 68 (.mov (.s 12)),oo 69 (.mov (.s 2)),oo 70 (.slice 1 (.s 68) (some (.s 69)) none none),
 oo 71 (.append 1 37 24 (.s 67) (.s 70)),oo 12 (.mov (.s 71))]) [2, 7, 10, 12] (.seq (.region false [oo 73 (.load true 1 (.s 7)),oo 74 (.mov (.s 12)),oo 75 (.mov (.s 10)),oo 76 (.call 11 [(.s 73), (.s 74), (.s 75)]),oo 72 (.mov (.s 76)),oo 77 (.extract 0 (.s 72)),oo 78 (.extract 1 (.s 72)),
 oo 15 (.mov (.s 77)),oo 16 (.mov (.s 78))]) [2, 7, 10, 12, 15, 16] (.seq (.region false [oo 80 (.load true 1 (.s 7)),oo 81 (.mov (.s 12)),oo 82 (.mov (.s 10)),oo 83 (.call 12 [(.s 80), (.s 81), (.s 82)]),oo 79 (.mov (.s 83)),oo 84 (.extract 0 (.s 79)),oo 85 (.extract 1 (.s 79)),
 oo 17 (.mov (.s 84)),oo 18 (.mov (.s 85))]) [2, 10, 15, 16, 17, 18] (.seq (.region false [oo 86 (.mov (.s 15)),oo 87 (.mov (.s 2)),oo 88 (.bin .eql false (.s 86) (.s 87)),oo 89 (.mov (.s 88)),⟨some 90, .mov (.s 16), (some (89, true))⟩,
 ⟨some 91, .bin .eql false (.s 90) (.c (.int .i64 (-1))), (some (89, true))⟩,oo 92 (.pick (.s 89) (.s 91) (.c (.bool false))),oo 93 (.mov (.s 92)),⟨some 94, .mov (.s 18), (some (93, true))⟩,⟨some 95, .mov (.s 2), (some (93, true))⟩,⟨some 96, .bin .eql false (.s 94) (.s 95), (some (93, true))⟩,
 oo 97 (.pick (.s 93) (.s 96) (.c (.bool false))),oo 98 (.mov (.s 97)),⟨some 99, .mov (.s 10), (some (98, true))⟩,⟨some 100, .mov (.s 17), (some (98, true))⟩,⟨some 101, .call 13 [(.s 99), (.s 100)], (some (98, true))⟩,oo 102 (.pick (.s 98) (.s 101) (.c (.bool false))),oo 103 (.mov (.s 102)),
 ⟨some 104, .call 4 [], (some (103, true))⟩,oo 105 (.pick (.s 103) (.s 104) (.c (.bool false))),oo 6 (.mov (.s 105))]) [6] (.ret)))))))))))))⟩
def tf4 : TFn := ⟨50, [.tmp 0],.seq (.region false [oo 0 (.mov (.c (.bool false)))]) [] (.seq (.region false [oo 6 (.call 14 []),oo 1 (.alloc 26 [(.fsl [])]),⟨none, .store 1 (.s 1) (.s 6), none⟩]) [1] (.seq (.region true [oo 8 (.load true 1 (.s 1)),oo 9 (.load true 1 (.s 1)),
 oo 10 (.call 7 [(.s 9), (.c (.fsl []))]),oo 11 (.call 12 [(.s 8), (.s 10), (.c (.fsl []))]),oo 7 (.mov (.s 11)),oo 12 (.extract 0 (.s 7)),oo 13 (.extract 1 (.s 7)),oo 2 (.mov (.s 12)),oo 3 (.mov (.s 13))]) [1, 2, 3] (.seq (.region true [oo 15 (.load true 1 (.s 1)),oo 16 (.load true 1 (.s 1)),
 oo 17 (.call 7 [(.s 16), (.c (.fsl []))]),oo 18 (.call 11 [(.s 15), (.s 17), (.c (.fsl []))]),oo 14 (.mov (.s 18)),oo 19 (.extract 0 (.s 14)),oo 20 (.extract 1 (.s 14)),oo 4 (.mov (.s 19)),oo 5 (.mov (.s 20))]) [2, 3, 4, 5] (.seq (.region false [oo 21 (.mov (.s 3)),
 oo 22 (.bin .eql false (.s 21) (.c (.int .i64 (-1)))),oo 23 (.mov (.s 22)),⟨some 24, .mov (.s 2), (some (23, true))⟩,⟨some 25, .len (.s 24), (some (23, true))⟩,⟨some 26, .bin .eql false (.s 25) (.c (.int .i64 2)), (some (23, true))⟩,oo 27 (.pick (.s 23) (.s 26) (.c (.bool false))),
 oo 28 (.mov (.s 27)),⟨some 29, .mov (.s 2), (some (28, true))⟩,⟨some 30, .indexAddr 4 (.s 29) (.c (.int .i64 0)), (some (28, true))⟩,⟨some 31, .fieldAddr 0 (.s 30), (some (28, true))⟩,⟨some 32, .load false 1 (.s 31), (some (28, true))⟩,
 ⟨some 33, .bin .eql false (.s 32) (.c (.int .i64 0)), (some (28, true))⟩,oo 34 (.pick (.s 28) (.s 33) (.c (.bool false))),oo 35 (.mov (.s 34)),⟨some 36, .mov (.s 2), (some (35, true))⟩,⟨some 37, .indexAddr 4 (.s 36) (.c (.int .i64 1)), (some (35, true))⟩,
 ⟨some 38, .load true 4 (.s 37), (some (35, true))⟩,⟨some 39, .build [(.int .i64 0), (.int .i64 0), (.int .i64 0), (.int .i64 0)] [(0, 1, (.c (.int .i64 1))), (1, 1, (.c (.int .i64 2))), (2, 1, (.c (.int .i64 0))), (3, 1, (.c (.int .i64 1)))], (some (35, true))⟩,
 ⟨some 40, .eqs false [0, 0, 0, 0] (.s 38) (.s 39), (some (35, true))⟩,oo 41 (.pick (.s 35) (.s 40) (.c (.bool false))),oo 42 (.mov (.s 41)),⟨some 43, .mov (.s 4), (some (42, true))⟩,⟨some 44, .bin .eql false (.s 43) (.c (.int .i64 0)), (some (42, true))⟩,
 oo 45 (.pick (.s 42) (.s 44) (.c (.bool false))),oo 46 (.mov (.s 45)),⟨some 47, .mov (.s 5), (some (46, true))⟩,⟨some 48, .bin .eql false (.s 47) (.c (.int .i64 0)), (some (46, true))⟩,oo 49 (.pick (.s 46) (.s 48) (.c (.bool false))),oo 0 (.mov (.s 49))]) [0] (.ret)))))⟩
def tf5 : TFn := ⟨90, [.cell 4 true 1],.seq (.region false [oo 4 (.alloc 26 [(.fsl [])])]) [0, 1, 4] (.seq (.region false [oo 10 (.mov (.s 0)),oo 11 (.build [(.fsl []), (.int .i64 0)] [(0, 1, (.s 10))]),oo 12 (.box 45 (.s 11)),oo 5 (.mov (.s 12))]) [1, 4, 5] (.seq (
 .region false [oo 13 (.mov (.s 5)),oo 14 (.mov (.s 1)),oo 15 (.call 15 [(.s 13), (.s 14)]),oo 6 (.mov (.s 15))]) [4, 5, 6] (.seq (.region true [oo 16 (.mov (.s 6)),oo 17 (.indexAddr 3 (.s 16) (.c (.int .i64 0))),oo 18 (.fieldAddr 2 (.s 17)),oo 19 (.load false 1 (.s 18)),oo 20 (.mov (.s 5)),
 oo 21 (.mov (.s 6)),oo 22 (.call 16 [(.s 20), (.s 21), (.c (.int .i64 3))]),oo 23 (.indexAddr 8 (.s 19) (.c (.int .i64 0))),oo 24 (.fieldAddr 6 (.s 23)),⟨none, .store 1 (.s 24) (.s 22), none⟩]) [4, 5, 6] (.seq (.seq (.region false [oo 7 (.mov (.c (.int .i64 1)))]) [4, 5, 6, 7] (.block 0 (.loop (
 .seq (.seq (.region false [oo 25 (.mov (.s 7)),oo 26 (.mov (.s 6)),oo 27 (.len (.s 26)),oo 28 (.bin .lss false (.s 25) (.s 27))]) [4, 5, 6, 7, 28] (.cond (.s 28) (.skip) (.exit 0))) [4, 5, 6, 7] (.seq (.block 1 (.seq (.region false [oo 8 (.mov (.c (.int .i64 0)))]) [4, 5, 6, 7, 8] (.block 2 (
 .loop (.seq (.seq (.region false [oo 31 (.mov (.s 8)),oo 32 (.mov (.s 6)),oo 33 (.mov (.s 7)),oo 34 (.indexAddr 3 (.s 32) (.s 33)),oo 35 (.fieldAddr 2 (.s 34)),oo 36 (.load false 1 (.s 35)),oo 37 (.len (.s 36)),oo 38 (.bin .lss false (.s 31) (.s 37))]) [4, 5, 6, 7, 8, 38] (.cond (.s 38) (.skip) (
 .exit 2))) [4, 5, 6, 7, 8] (.seq (.block 3 (.seq (.region false [oo 41 (.mov (.s 6)),oo 42 (.mov (.s 7)),oo 43 (.indexAddr 3 (.s 41) (.s 42)),oo 44 (.fieldAddr 2 (.s 43)),oo 45 (.load false 1 (.s 44)),oo 46 (.mov (.s 8)),oo 47 (.indexAddr 8 (.s 45) (.s 46)),
 oo 9 (.mov (.s 47))]) [4, 5, 6, 7, 8, 9] (.seq (.seq (.region false [oo 48 (.mov (.s 6)),oo 49 (.mov (.s 7)),oo 50 (.indexAddr 3 (.s 48) (.s 49)),oo 51 (.fieldAddr 1 (.s 50)),oo 52 (.load false 1 (.s 51)),oo 53 (.bin .neq false (.s 52) (.c (.str [])))]) [4, 5, 6, 7, 8, 9, 53] (.cond (.s 53) (
 .region false [oo 54 (.mov (.s 9)),oo 55 (.mov (.s 7)),oo 56 (.bin .sub false (.s 55) (.c (.int .i64 1))),oo 57 (.mov (.s 9)),oo 58 (.nilCheck (.s 57)),oo 59 (.fieldAddr 0 (.s 58)),oo 60 (.load true 5 (.s 59)),oo 61 (.call 17 [(.s 60)]),
 oo 62 (.build [(.int .i64 0), (.fsl []), (.fsl [])] [(0, 1, (.s 56)), (1, 2, (.s 61))]),oo 63 (.buildSlice 3 63 [(.s 62)]),oo 64 (.buildSlice 1 51 [(.s 63)]),oo 65 (.nilCheck (.s 54)),oo 66 (.fieldAddr 6 (.s 65)),⟨none, .store 1 (.s 66) (.s 64), none⟩]) (.skip))) [4, 5, 6, 7, 8, 9] (.seq (
 .region true [oo 67 (.mov (.s 9)),oo 68 (.mov (.s 9)),oo 69 (.nilCheck (.s 68)),oo 70 (.fieldAddr 6 (.s 69)),oo 71 (.load false 1 (.s 70)),oo 72 (.mov (.s 5)),oo 73 (.mov (.s 6)),oo 74 (.call 16 [(.s 72), (.s 73), (.c (.int .i64 2))]),oo 75 (.append 1 51 24 (.s 71) (.s 74)),
 oo 76 (.nilCheck (.s 67)),oo 77 (.fieldAddr 6 (.s 76)),⟨none, .store 1 (.s 77) (.s 75), none⟩]) [4, 5, 6, 7, 8, 9] (.seq (.region false [oo 78 (.mov (.s 5)),oo 79 (.call 18 [(.s 78), (.c (.int .i64 4))]),oo 80 (.bin .eql false (.s 79) (.c (.int .i64 0)))]) [4, 5, 6, 7, 8, 9, 80] (.cond (.s 80) (
 .region false [oo 81 (.mov (.s 9)),oo 82 (.mov (.s 5)),oo 83 (.mov (.s 6)),oo 84 (.call 19 [(.s 82), (.s 83)]),oo 85 (.buildSlice 3 63 [(.s 84)]),oo 86 (.nilCheck (.s 81)),oo 87 (.fieldAddr 7 (.s 86)),⟨none, .store 1 (.s 87) (.s 85), none⟩]) (.skip))))))) [4, 5, 6, 7, 8] (
 .region false [oo 39 (.mov (.s 8)),oo 40 (.bin .add false (.s 39) (.c (.int .i64 1))),oo 8 (.mov (.s 40))]))))))) [4, 5, 6, 7] (.region false [oo 29 (.mov (.s 7)),oo 30 (.bin .add false (.s 29) (.c (.int .i64 1))),oo 7 (.mov (.s 30))])))))) [4, 6] (.seq (.region false [oo 88 (.mov (.s 6)),
 oo 89 (.build [(.fsl [])] [(0, 1, (.s 88))]),⟨none, .store 1 (.s 4) (.s 89), none⟩]) [4] (.ret))))))⟩
def tf6 : TFn := ⟨87, [.tmp 6, .tmp 7],.seq (.region false [oo 3 (.box 26 (.s 0)),oo 6 (.mov (.c (.fsl []))),oo 7 (.mov (.c (.int .i64 0)))]) [1, 2, 3] (.seq (.region false [oo 8 (.mov (.c (.fsl [])))]) [1, 2, 3, 8] (.seq (.seq (.region false [oo 9 (.mov (.c (.int .i64 0)))]) [1, 2, 3, 8, 9] (
 .block 0 (.loop (.seq (.seq (.region false [oo 17 (.mov (.s 9)),oo 18 (.mov (.s 2)),oo 19 (.len (.s 18)),oo 20 (.bin .leq false (.s 17) (.s 19)),oo 21 (.mov (.s 20)),⟨some 22, .mov (.s 9), (some (21, true))⟩,⟨some 23, .bin .lss false (.s 22) (.c (.int .i64 12)), (some (21, true))⟩,
 oo 24 (.pick (.s 21) (.s 23) (.c (.bool false)))]) [1, 2, 3, 8, 9, 24] (.cond (.s 24) (.skip) (.exit 0))) [1, 2, 3, 8, 9] (.seq (.block 1 (.seq (.region false [oo 28 (.load true 1 (.s 3)),oo 29 (.mov (.s 1)),oo 30 (.mov (.s 8)),oo 31 (.call 8 [(.s 28), (.s 29), (.s 30)]),oo 27 (.mov (.s 31)),
 oo 32 (.extract 0 (.s 27)),oo 33 (.extract 1 (.s 27)),oo 10 (.mov (.s 32)),oo 11 (.mov (.s 33))]) [1, 2, 3, 9, 10, 11] (.seq (.region false [oo 34 (.mov (.s 10)),oo 8 (.mov (.s 34))]) [1, 2, 3, 8, 9, 11] (.seq (.seq (.region false [oo 35 (.mov (.s 11)),
 oo 36 (.bin .geq false (.s 35) (.c (.int .i64 0))),oo 37 (.mov (.s 36)),⟨some 38, .mov (.s 9), (some (37, false))⟩,⟨some 39, .mov (.s 2), (some (37, false))⟩,⟨some 40, .len (.s 39), (some (37, false))⟩,⟨some 41, .bin .eql false (.s 38) (.s 40), (some (37, false))⟩,
 oo 42 (.pick (.s 37) (.c (.bool true)) (.s 41))]) [1, 2, 3, 8, 9, 11, 42] (.cond (.s 42) (.seq (.region false [oo 43 (.mov (.s 8)),oo 44 (.mov (.s 11)),oo 6 (.mov (.s 43)),oo 7 (.mov (.s 44))]) [6, 7] (.ret)) (.skip))) [1, 2, 3, 8, 9] (.seq (.region true [oo 45 (.mov (.s 2)),oo 46 (.mov (.s 9)),
 oo 47 (.indexAddr 1 (.s 45) (.s 46)),oo 48 (.load false 1 (.s 47)),oo 49 (.fieldAddr 0 (.s 3)),oo 50 (.load false 1 (.s 49)),oo 51 (.len (.s 50)),oo 52 (.call 10 [(.s 48), (.s 51)]),oo 12 (.mov (.s 52))]) [1, 2, 3, 8, 9, 12] (.seq (.region false [oo 53 (.load true 1 (.s 3)),oo 54 (.mov (.s 8)),
 oo 55 (.mov (.s 12)),oo 56 (.call 21 [(.s 53), (.s 54), (.s 55)]),oo 57 (.call 20 [(.s 56)]),oo 13 (.mov (.s 57))]) [1, 2, 3, 8, 9, 12, 13] (.seq (.region false [oo 14 (.mov (.c (.int .i64 0)))]) [1, 2, 3, 8, 9, 12, 13, 14] (.block 2 (.loop (.seq (.seq (.region false [oo 58 (.mov (.s 14)),
 oo 59 (.mov (.s 13)),oo 60 (.len (.s 59)),oo 61 (.bin .lss false (.s 58) (.s 60))]) [1, 2, 3, 8, 9, 12, 13, 14, 61] (.cond (.s 61) (.skip) (.exit 2))) [1, 2, 3, 8, 9, 12, 13, 14] (.seq (.block 3 (.seq (.region true [oo 65 (.load true 1 (.s 3)),oo 66 (.mov (.s 8)),oo 67 (.mov (.s 12)),
 oo 68 (.mov (.s 13)),oo 69 (.mov (.s 14)),oo 70 (.mov (.s 2)),oo 71 (.mov (.s 9)),oo 72 (.indexAddr 1 (.s 70) (.s 71)),oo 73 (.load false 1 (.s 72)),oo 74 (.call 10 [(.s 73), (.c (.int .i64 7))]),oo 75 (.bin .add false (.s 69) (.s 74)),oo 76 (.mov (.s 13)),oo 77 (.len (.s 76)),
 oo 78 (.bin .rem false (.s 75) (.s 77)),oo 79 (.indexAddr 1 (.s 68) (.s 78)),oo 80 (.load false 1 (.s 79)),oo 81 (.call 22 [(.s 65), (.s 66), (.s 67), (.s 80)]),oo 64 (.mov (.s 81)),oo 82 (.extract 0 (.s 64)),oo 83 (.extract 1 (.s 64)),oo 15 (.mov (.s 82)),
 oo 16 (.mov (.s 83))]) [1, 2, 3, 8, 9, 12, 13, 14, 15, 16] (.seq (.region false [oo 84 (.mov (.s 16))]) [1, 2, 3, 8, 9, 12, 13, 14, 15, 84] (.cond (.s 84) (.seq (.region false [oo 85 (.mov (.s 15)),oo 8 (.mov (.s 85))]) [1, 2, 3, 8, 9] (.exit 2)) (.skip))))) [1, 2, 3, 8, 9, 12, 13, 14] (
 .region false [oo 62 (.mov (.s 14)),oo 63 (.bin .add false (.s 62) (.c (.int .i64 1))),oo 14 (.mov (.s 63))])))))))))))) [1, 2, 3, 8, 9] (.region false [oo 25 (.mov (.s 9)),oo 26 (.bin .add false (.s 25) (.c (.int .i64 1))),oo 9 (.mov (.s 26))])))))) [8] (.seq (.region false [oo 86 (.mov (.s 8)),
 oo 6 (.mov (.s 86)),oo 7 (.mov (.c (.int .i64 (-1))))]) [6, 7] (.ret))))⟩
def tf7 : TFn := ⟨66, [.tmp 4],.seq (.region false [oo 2 (.box 26 (.s 0)),oo 4 (.mov (.c (.fsl [])))]) [1, 2] (.seq (.region false [oo 11 (.load true 1 (.s 2)),oo 12 (.call 23 [(.s 11)]),oo 5 (.mov (.s 12))]) [1, 2, 5] (.seq (.region false [oo 6 (.mov (.c (.fsl [])))]) [1, 2, 5, 6] (.seq (.seq (
 .region false [oo 7 (.mov (.c (.int .i64 0)))]) [1, 2, 5, 6, 7] (.block 0 (.loop (.seq (.seq (.region false [oo 13 (.mov (.s 7)),oo 14 (.mov (.s 5)),oo 15 (.len (.s 14)),oo 16 (.bin .lss false (.s 13) (.s 15))]) [1, 2, 5, 6, 7, 16] (.cond (.s 16) (.skip) (.exit 0))) [1, 2, 5, 6, 7] (.seq (
 .block 1 (.region false [oo 19 (.mov (.s 6)),oo 20 (.mov (.s 5)),oo 21 (.mov (.s 7)),oo 22 (.indexAddr 5 (.s 20) (.s 21)),oo 23 (.fieldAddr 4 (.s 22)),oo 24 (.load false 1 (.s 23)),oo 25 (.buildSlice 1 37 [(.s 24)]),oo 26 (.append 1 37 24 (.s 19) (.s 25)),oo 6 (.mov (.s 26))])) [1, 2, 5, 6, 7] (
 .region false [oo 17 (.mov (.s 7)),oo 18 (.bin .add false (.s 17) (.c (.int .i64 1))),oo 7 (.mov (.s 18))])))))) [1, 2, 6] (.seq (.seq (.region false [oo 8 (.mov (.c (.int .i64 0)))]) [1, 2, 6, 8] (.block 2 (.loop (.seq (.seq (.region false [oo 27 (.mov (.s 8)),oo 28 (.mov (.s 1)),
 oo 29 (.len (.s 28)),oo 30 (.bin .lss false (.s 27) (.s 29)),oo 31 (.mov (.s 30)),⟨some 32, .mov (.s 8), (some (31, true))⟩,⟨some 33, .fieldAddr 0 (.s 2), (some (31, true))⟩,⟨some 34, .load false 1 (.s 33), (some (31, true))⟩,⟨some 35, .len (.s 34), (some (31, true))⟩,
 ⟨some 36, .bin .lss false (.s 32) (.s 35), (some (31, true))⟩,oo 37 (.pick (.s 31) (.s 36) (.c (.bool false)))]) [1, 2, 6, 8, 37] (.cond (.s 37) (.skip) (.exit 2))) [1, 2, 6, 8] (.seq (.block 3 (.seq (.region true [oo 41 (.load true 1 (.s 2)),oo 42 (.mov (.s 8)),oo 43 (.load true 1 (.s 2)),
 oo 44 (.mov (.s 8)),oo 45 (.call 25 [(.s 43), (.s 44)]),oo 46 (.load true 1 (.s 2)),oo 47 (.mov (.s 8)),oo 48 (.call 25 [(.s 46), (.s 47)]),oo 49 (.mov (.s 1)),oo 50 (.mov (.s 8)),oo 51 (.indexAddr 1 (.s 49) (.s 50)),oo 52 (.load false 1 (.s 51)),oo 53 (.bin .and false (.s 48) (.s 52)),
 oo 54 (.bin .sub false (.s 45) (.s 53)),oo 55 (.build [(.int .i64 0), (.int .i64 0)] [(0, 1, (.s 42)), (1, 1, (.s 54))]),oo 56 (.buildSlice 2 78 [(.s 55)]),oo 57 (.call 24 [(.s 41), (.s 56)]),oo 40 (.mov (.s 57)),oo 58 (.extract 0 (.s 40)),oo 59 (.extract 1 (.s 40)),oo 9 (.mov (.s 58)),
 oo 10 (.mov (.s 59))]) [1, 2, 6, 8, 9, 10] (.seq (.region false [oo 60 (.mov (.s 10))]) [1, 2, 6, 8, 9, 60] (.cond (.s 60) (.region false [oo 61 (.mov (.s 6)),oo 62 (.mov (.s 9)),oo 63 (.buildSlice 1 37 [(.s 62)]),oo 64 (.append 1 37 24 (.s 61) (.s 63)),oo 6 (.mov (.s 64))]) (
 .skip))))) [1, 2, 6, 8] (.region false [oo 38 (.mov (.s 8)),oo 39 (.bin .add false (.s 38) (.c (.int .i64 1))),oo 8 (.mov (.s 39))])))))) [6] (.seq (.region false [oo 65 (.mov (.s 6)),oo 4 (.mov (.s 65))]) [4] (.ret))))))⟩
def tf8 : TFn := ⟨50, [.tmp 6, .tmp 7],.seq (.region false [oo 3 (.box 26 (.s 0)),oo 6 (.mov (.c (.fsl []))),oo 7 (.mov (.c (.int .i64 0)))]) [1, 2, 3] (.seq (.region false [oo 12 (.mov (.s 2)),oo 13 (.append 4 42 32 (.c (.fsl [])) (.s 12)),oo 8 (.mov (.s 13))]) [1, 3, 8] (.seq (.seq (
 .region false [oo 9 (.mov (.c (.int .i64 0)))]) [1, 3, 8, 9] (.block 0 (.loop (.seq (.seq (.region false [oo 14 (.mov (.s 9)),oo 15 (.fieldAddr 0 (.s 3)),oo 16 (.load false 1 (.s 15)),oo 17 (.len (.s 16)),oo 18 (.bin .mul false (.s 17) (.c (.int .i64 18))),
 oo 19 (.bin .leq false (.s 14) (.s 18))]) [1, 3, 8, 9, 19] (.cond (.s 19) (.skip) (.exit 0))) [1, 3, 8, 9] (.seq (.block 1 (.seq (.region false [oo 23 (.load true 1 (.s 3)),oo 24 (.mov (.s 1)),oo 25 (.mov (.s 8)),oo 26 (.call 9 [(.s 23), (.s 24), (.s 25)]),oo 22 (.mov (.s 26)),
 oo 27 (.extract 0 (.s 22)),oo 28 (.extract 1 (.s 22)),oo 10 (.mov (.s 27)),oo 11 (.mov (.s 28))]) [1, 3, 8, 9, 10, 11] (.seq (.seq (.region false [oo 29 (.mov (.s 11)),oo 30 (.bin .lss false (.s 29) (.c (.int .i64 0)))]) [1, 3, 8, 9, 10, 11, 30] (.cond (.s 30) (.seq (
 .region false [oo 31 (.mov (.s 8)),oo 32 (.mov (.s 10)),oo 6 (.mov (.s 31)),oo 7 (.mov (.s 32))]) [6, 7] (.ret)) (.skip))) [1, 3, 8, 9, 10, 11] (.region true [oo 34 (.load true 1 (.s 3)),oo 35 (.mov (.s 8)),oo 36 (.mov (.s 11)),oo 37 (.load true 1 (.s 3)),oo 38 (.mov (.s 1)),oo 39 (.mov (.s 10)),
 oo 40 (.indexAddr 1 (.s 38) (.s 39)),oo 41 (.load false 1 (.s 40)),oo 42 (.mov (.s 11)),oo 43 (.call 27 [(.s 37), (.s 41), (.s 42)]),oo 44 (.build [(.int .i64 0), (.int .i64 0)] [(0, 1, (.s 36)), (1, 1, (.s 43))]),oo 45 (.mov (.s 10)),oo 46 (.call 26 [(.s 34), (.s 35), (.s 44), (.s 45)]),
 oo 33 (.mov (.s 46)),oo 47 (.extract 0 (.s 33)),oo 48 (.extract 1 (.s 33)),oo 8 (.mov (.s 47))])))) [1, 3, 8, 9] (.region false [oo 20 (.mov (.s 9)),oo 21 (.bin .add false (.s 20) (.c (.int .i64 1))),oo 9 (.mov (.s 21))])))))) [8] (.seq (.region false [oo 49 (.mov (.s 8)),oo 6 (.mov (.s 49)),
 oo 7 (.mov (.c (.int .i64 (-1))))]) [6, 7] (.ret))))⟩
def tf9 : TFn := ⟨35, [.tmp 6, .tmp 7],.seq (.region false [oo 3 (.box 26 (.s 0)),oo 6 (.mov (.c (.int .i64 0))),oo 7 (.mov (.c (.int .i64 0)))]) [1, 2, 3] (.seq (.seq (.region false [oo 8 (.mov (.c (.int .i64 0)))]) [1, 2, 3, 8] (.block 0 (.loop (.seq (.seq (.region false [oo 10 (.mov (.s 8)),
 oo 11 (.mov (.s 1)),oo 12 (.len (.s 11)),oo 13 (.bin .lss false (.s 10) (.s 12))]) [1, 2, 3, 8, 13] (.cond (.s 13) (.skip) (.exit 0))) [1, 2, 3, 8] (.seq (.block 1 (.seq (.seq (.region true [oo 16 (.load true 1 (.s 3)),oo 17 (.mov (.s 2)),oo 18 (.mov (.s 1)),oo 19 (.mov (.s 8)),
 oo 20 (.indexAddr 1 (.s 18) (.s 19)),oo 21 (.load false 1 (.s 20)),oo 22 (.call 28 [(.s 16), (.s 17), (.s 21)])]) [1, 2, 3, 8, 22] (.cond (.s 22) (.seq (.region false [oo 23 (.mov (.s 8)),oo 6 (.mov (.s 23)),oo 7 (.mov (.c (.int .i64 (-1))))]) [6, 7] (.ret)) (.skip))) [1, 2, 3, 8] (.seq (
 .region true [oo 24 (.load true 1 (.s 3)),oo 25 (.mov (.s 2)),oo 26 (.mov (.s 1)),oo 27 (.mov (.s 8)),oo 28 (.indexAddr 1 (.s 26) (.s 27)),oo 29 (.load false 1 (.s 28)),oo 30 (.call 29 [(.s 24), (.s 25), (.s 29)]),oo 9 (.mov (.s 30))]) [1, 2, 3, 8, 9] (.seq (.region false [oo 31 (.mov (.s 9)),
 oo 32 (.bin .geq false (.s 31) (.c (.int .i64 0)))]) [1, 2, 3, 8, 9, 32] (.cond (.s 32) (.seq (.region false [oo 33 (.mov (.s 8)),oo 34 (.mov (.s 9)),oo 6 (.mov (.s 33)),oo 7 (.mov (.s 34))]) [6, 7] (.ret)) (.skip)))))) [1, 2, 3, 8] (.region false [oo 14 (.mov (.s 8)),
 oo 15 (.bin .add false (.s 14) (.c (.int .i64 1))),oo 8 (.mov (.s 15))])))))) [] (.seq (.region false [oo 6 (.mov (.c (.int .i64 (-1)))),oo 7 (.mov (.c (.int .i64 (-1))))]) [6, 7] (.ret)))⟩
def tf10 : TFn := ⟨17, [.tmp 4],.seq (.region false [oo 4 (.mov (.c (.int .i64 0)))]) [0, 1] (.seq (.seq (.region false [oo 6 (.mov (.s 1)),oo 7 (.bin .lss false (.s 6) (.c (.int .i64 1)))]) [0, 1, 7] (.cond (.s 7) (.seq (.region false [oo 4 (.mov (.c (.int .i64 0)))]) [4] (.ret)) (
 .skip))) [0, 1] (.seq (.region false [oo 8 (.mov (.s 0)),oo 9 (.mov (.s 1)),oo 10 (.bin .rem false (.s 8) (.s 9)),oo 5 (.mov (.s 10))]) [1, 5] (.seq (.seq (.region false [oo 11 (.mov (.s 5)),oo 12 (.bin .lss false (.s 11) (.c (.int .i64 0)))]) [1, 5, 12] (.cond (.s 12) (.seq (
 .region false [oo 13 (.mov (.s 5)),oo 14 (.mov (.s 1)),oo 15 (.bin .add false (.s 13) (.s 14)),oo 4 (.mov (.s 15))]) [4] (.ret)) (.skip))) [5] (.seq (.region false [oo 16 (.mov (.s 5)),oo 4 (.mov (.s 16))]) [4] (.ret)))))⟩
def tf11 : TFn := ⟨15, [.tmp 6, .tmp 7],.seq (.region false [oo 3 (.box 26 (.s 0)),oo 6 (.mov (.c (.int .i64 0))),oo 7 (.mov (.c (.int .i64 0)))]) [1, 2, 3] (.seq (.region false [oo 8 (.load true 1 (.s 3)),oo 9 (.mov (.s 2)),oo 10 (.call 31 [(.s 8), (.s 9)]),oo 11 (.mov (.s 1)),
 oo 12 (.call 30 [(.s 10), (.s 11)]),oo 13 (.extract 0 (.s 12)),oo 14 (.extract 1 (.s 12)),oo 6 (.mov (.s 13)),oo 7 (.mov (.s 14))]) [6, 7] (.ret))⟩
def tf12 : TFn := ⟨72, [.tmp 6, .tmp 7],.seq (.region false [oo 3 (.box 26 (.s 0)),oo 6 (.mov (.c (.fsl []))),oo 7 (.mov (.c (.int .i64 0)))]) [1, 2, 3] (.scope (.seq (.region false [oo 16 (.mov (.s 2)),oo 17 (.append 4 42 32 (.c (.fsl [])) (.s 16)),oo 8 (.mov (.s 17))]) [1, 2, 3, 8] (.seq (
 .region false [oo 18 (.load true 1 (.s 3)),oo 19 (.mov (.s 2)),oo 20 (.call 31 [(.s 18), (.s 19)]),oo 9 (.mov (.s 20))]) [1, 3, 8, 9] (.seq (.skip) [1, 3, 8, 9] (.block 0 (.loop (.block 1 (.seq (.region false [oo 22 (.mov (.s 9)),oo 23 (.mov (.s 1)),oo 24 (.call 30 [(.s 22), (.s 23)]),
 oo 21 (.mov (.s 24)),oo 25 (.extract 0 (.s 21)),oo 26 (.extract 1 (.s 21)),oo 10 (.mov (.s 25)),oo 11 (.mov (.s 26))]) [1, 3, 8, 9, 10, 11] (.seq (.seq (.region false [oo 27 (.mov (.s 10)),oo 28 (.bin .lss false (.s 27) (.c (.int .i64 0))),oo 29 (.mov (.s 28)),
 ⟨some 30, .mov (.s 11), (some (29, false))⟩,⟨some 31, .bin .lss false (.s 30) (.c (.int .i64 0)), (some (29, false))⟩,oo 32 (.pick (.s 29) (.c (.bool true)) (.s 31))]) [1, 3, 8, 9, 10, 11, 32] (.cond (.s 32) (.seq (.region false [oo 33 (.mov (.s 8)),oo 34 (.mov (.s 10)),oo 6 (.mov (.s 33)),
 oo 7 (.mov (.s 34))]) [6, 7] (.ret)) (.skip))) [1, 3, 8, 9, 10, 11] (.seq (.seq (.region false [oo 35 (.mov (.s 1)),oo 36 (.mov (.s 10)),oo 37 (.indexAddr 1 (.s 35) (.s 36)),oo 38 (.load false 1 (.s 37)),oo 39 (.len (.s 38)),oo 40 (.mov (.c (.int .i64 0)))]) [1, 3, 8, 9, 10, 11, 38, 39, 40] (
 .block 2 (.loop (.seq (.region false [oo 41 (.bin .lss false (.s 40) (.s 39))]) [1, 3, 8, 9, 10, 11, 38, 39, 40, 41] (.seq (.cond (.s 41) (.skip) (.exit 2)) [1, 3, 8, 9, 10, 11, 38, 39, 40] (.seq (.block 3 (.seq (.region false [oo 42 (.indexAddr 2 (.s 38) (.s 40)),oo 43 (.load true 2 (.s 42)),
 oo 13 (.alloc 78 [(.int .i64 0), (.int .i64 0)]),⟨none, .store 2 (.s 13) (.s 43), none⟩]) [1, 3, 8, 9, 10, 11, 13, 38, 39, 40] (.seq (.seq (.region false [oo 44 (.fieldAddr 0 (.s 13)),oo 45 (.load false 1 (.s 44)),oo 46 (.mov (.s 11)),
 oo 47 (.bin .neq false (.s 45) (.s 46))]) [1, 3, 8, 9, 10, 11, 13, 38, 39, 40, 47] (.cond (.s 47) (.exit 3) (.skip))) [1, 3, 8, 9, 10, 11, 13] (.seq (.region false [oo 49 (.load true 1 (.s 3)),oo 50 (.mov (.s 8)),oo 51 (.load true 2 (.s 13)),oo 52 (.mov (.s 10)),
 oo 53 (.call 32 [(.s 49), (.s 50), (.s 51), (.s 52)]),oo 48 (.mov (.s 53)),oo 54 (.extract 0 (.s 48)),oo 55 (.extract 1 (.s 48)),oo 14 (.mov (.s 54)),oo 15 (.mov (.s 55))]) [1, 3, 8, 9, 11, 13, 14, 15] (.seq (.seq (.region false [oo 56 (.mov (.s 15)),
 oo 57 (.un .not (.s 56))]) [1, 3, 8, 9, 11, 13, 14, 57] (.cond (.s 57) (.seq (.region false [oo 58 (.mov (.s 8)),oo 6 (.mov (.s 58)),oo 7 (.mov (.c (.int .i64 (-1))))]) [6, 7] (.ret)) (.skip))) [1, 3, 9, 11, 13, 14] (.seq (.region true [oo 59 (.mov (.s 9)),oo 60 (.mov (.s 11)),
 oo 61 (.mov (.s 14)),oo 62 (.mov (.s 9)),oo 63 (.mov (.s 11)),oo 64 (.indexAddr 1 (.s 62) (.s 63)),oo 65 (.load false 1 (.s 64)),oo 66 (.fieldAddr 1 (.s 13)),oo 67 (.load false 1 (.s 66)),oo 68 (.bin .andNot false (.s 65) (.s 67)),oo 8 (.mov (.s 61)),oo 69 (.indexAddr 1 (.s 59) (.s 60)),
 ⟨none, .store 1 (.s 69) (.s 68), none⟩]) [1, 3, 8, 9] (.exit 1))))))) [1, 3, 8, 9, 10, 11, 38, 39, 40] (.region false [oo 70 (.bin .add false (.s 40) (.c (.int .i64 1))),oo 40 (.mov (.s 70))]))))))) [8] (.seq (.region false [oo 71 (.mov (.s 8)),oo 6 (.mov (.s 71)),
 oo 7 (.mov (.c (.int .i64 (-1))))]) [6, 7] (.ret))))))))))))⟩
def tf13 : TFn := ⟨26, [.tmp 4],.seq (.region false [oo 4 (.mov (.c (.bool false)))]) [0, 1] (.seq (.seq (.region false [oo 6 (.mov (.s 0)),oo 7 (.len (.s 6)),oo 8 (.mov (.s 1)),oo 9 (.len (.s 8)),oo 10 (.bin .neq false (.s 7) (.s 9))]) [0, 1, 10] (.cond (.s 10) (.seq (
 .region false [oo 4 (.mov (.c (.bool false)))]) [4] (.ret)) (.skip))) [0, 1] (.seq (.seq (.region false [oo 5 (.mov (.c (.int .i64 0)))]) [0, 1, 5] (.block 0 (.loop (.seq (.seq (.region false [oo 11 (.mov (.s 5)),oo 12 (.mov (.s 0)),oo 13 (.len (.s 12)),
 oo 14 (.bin .lss false (.s 11) (.s 13))]) [0, 1, 5, 14] (.cond (.s 14) (.skip) (.exit 0))) [0, 1, 5] (.seq (.block 1 (.seq (.region true [oo 17 (.mov (.s 0)),oo 18 (.mov (.s 5)),oo 19 (.indexAddr 4 (.s 17) (.s 18)),oo 20 (.load true 4 (.s 19)),oo 21 (.mov (.s 1)),oo 22 (.mov (.s 5)),
 oo 23 (.indexAddr 4 (.s 21) (.s 22)),oo 24 (.load true 4 (.s 23)),oo 25 (.eqs true [0, 0, 0, 0] (.s 20) (.s 24))]) [0, 1, 5, 25] (.cond (.s 25) (.seq (.region false [oo 4 (.mov (.c (.bool false)))]) [4] (.ret)) (.skip)))) [0, 1, 5] (.region false [oo 15 (.mov (.s 5)),
 oo 16 (.bin .add false (.s 15) (.c (.int .i64 1))),oo 5 (.mov (.s 16))])))))) [] (.seq (.region false [oo 4 (.mov (.c (.bool true)))]) [4] (.ret))))⟩
def tf14 : TFn := ⟨18, [.cell 0 true 1],.seq (.region false [oo 0 (.alloc 26 [(.fsl [])])]) [0] (.seq (.region false [oo 2 (.call 33 []),oo 1 (.mov (.s 2))]) [0, 1] (.seq (.region true [oo 3 (.call 34 []),
 oo 4 (.build [(.int .i64 0), (.fsl []), (.fsl [])] [(0, 1, (.c (.int .i64 1))), (1, 2, (.s 3))]),oo 5 (.buildSlice 3 63 [(.s 4)]),oo 6 (.buildSlice 1 51 [(.s 5)]),
 oo 7 (.build [(.int .i64 0), (.int .i64 0), (.int .i64 0), (.str []), (.str []), (.int .i64 0), (.fsl []), (.fsl [])] [(5, 1, (.c (.int .i64 (-1)))), (6, 1, (.s 6))]),oo 8 (.buildSlice 8 53 [(.s 7)]),oo 9 (.build [(.str []), (.str []), (.fsl [])] [(2, 1, (.s 8))]),oo 10 (.mov (.s 1)),
 oo 11 (.indexAddr 5 (.s 10) (.c (.int .i64 0))),oo 12 (.load true 5 (.s 11)),oo 13 (.build [(.int .i64 0), (.int .i64 0), (.int .i64 0), (.str []), (.str []), (.int .i64 0), (.fsl []), (.fsl [])] [(0, 5, (.s 12))]),oo 14 (.buildSlice 8 53 [(.s 13)]),
 oo 15 (.build [(.str []), (.str []), (.fsl [])] [(0, 1, (.c (.str [97, 110, 116]))), (2, 1, (.s 14))]),oo 16 (.buildSlice 3 56 [(.s 9), (.s 15)]),oo 17 (.build [(.fsl [])] [(0, 1, (.s 16))]),⟨none, .store 1 (.s 0) (.s 17), none⟩]) [0] (.ret)))⟩
def tf15 : TFn := ⟨100, [.tmp 4],.seq (.region false [oo 4 (.mov (.c (.fsl [])))]) [0, 1] (.seq (.region false [oo 14 (.buildSlice 1 9 [(.c (.str [97, 110, 116])), (.c (.str [98, 101, 101])), (.c (.str [99, 111, 119])), (.c (.str [100, 111, 103])), (.c (.str [101, 108, 107]))]),
 oo 5 (.mov (.s 14))]) [0, 1, 5] (.seq (.region false [oo 15 (.build [(.int .i64 0), (.int .i64 0), (.int .i64 0), (.str []), (.str []), (.int .i64 0), (.fsl []), (.fsl [])] [(5, 1, (.c (.int .i64 (-1))))]),oo 16 (.buildSlice 8 53 [(.s 15)]),
 oo 17 (.build [(.str []), (.str []), (.fsl [])] [(2, 1, (.s 16))]),oo 18 (.buildSlice 3 56 [(.s 17)]),oo 6 (.mov (.s 18))]) [0, 1, 5, 6] (.seq (.region false [oo 19 (.call 33 []),oo 7 (.mov (.s 19))]) [0, 1, 5, 6, 7] (.seq (.seq (.region false [oo 8 (.mov (.c (.int .i64 0)))]) [0, 1, 5, 6, 7, 8] (
 .block 0 (.loop (.seq (.seq (.region false [oo 20 (.mov (.s 8)),oo 21 (.mov (.s 0)),oo 22 (.mov (.s 1)),oo 23 (.call 18 [(.s 21), (.s 22)]),oo 24 (.bin .add false (.c (.int .i64 1)) (.s 23)),oo 25 (.bin .lss false (.s 20) (.s 24)),oo 26 (.mov (.s 25)),⟨some 27, .mov (.s 8), (some (26, true))⟩,
 ⟨some 28, .mov (.s 5), (some (26, true))⟩,⟨some 29, .len (.s 28), (some (26, true))⟩,⟨some 30, .bin .lss false (.s 27) (.s 29), (some (26, true))⟩,oo 31 (.pick (.s 26) (.s 30) (.c (.bool false)))]) [0, 1, 5, 6, 7, 8, 31] (.cond (.s 31) (.skip) (.exit 0))) [0, 1, 5, 6, 7, 8] (.seq (.block 1 (.seq (
 .region false [oo 9 (.mov (.c (.fsl [])))]) [0, 1, 5, 6, 7, 8, 9] (.seq (.region false [oo 34 (.mov (.s 0)),oo 35 (.call 18 [(.s 34), (.c (.int .i64 16))]),oo 10 (.mov (.s 35))]) [0, 1, 5, 6, 7, 8, 9, 10] (.seq (.seq (.region false [oo 11 (.mov (.c (.int .i64 0)))]) [0, 1, 5, 6, 7, 8, 9, 10, 11] (
 .block 2 (.loop (.seq (.seq (.region false [oo 36 (.mov (.s 11)),oo 37 (.mov (.s 7)),oo 38 (.len (.s 37)),oo 39 (.bin .lss false (.s 36) (.s 38))]) [0, 1, 5, 6, 7, 8, 9, 10, 11, 39] (.cond (.s 39) (.skip) (.exit 2))) [0, 1, 5, 6, 7, 8, 9, 10, 11] (.seq (.block 3 (.seq (
 .region false [oo 42 (.mov (.s 10)),oo 43 (.mov (.s 11)),oo 44 (.conv .u64 (.s 43)),oo 45 (.bin .shr false (.s 42) (.s 44)),oo 46 (.bin .and false (.s 45) (.c (.int .i64 1))),oo 47 (.bin .eql false (.s 46) (.c (.int .i64 1)))]) [0, 1, 5, 6, 7, 8, 9, 10, 11, 47] (.cond (.s 47) (
 .region false [oo 48 (.mov (.s 9)),oo 49 (.mov (.s 7)),oo 50 (.mov (.s 11)),oo 51 (.indexAddr 5 (.s 49) (.s 50)),oo 52 (.load true 5 (.s 51)),oo 53 (.build [(.int .i64 0), (.int .i64 0), (.int .i64 0), (.str []), (.str []), (.int .i64 0), (.fsl []), (.fsl [])] [(0, 5, (.s 52))]),
 oo 54 (.buildSlice 8 53 [(.s 53)]),oo 55 (.append 8 53 112 (.s 48) (.s 54)),oo 9 (.mov (.s 55))]) (.skip)))) [0, 1, 5, 6, 7, 8, 9, 10, 11] (.region false [oo 40 (.mov (.s 11)),oo 41 (.bin .add false (.s 40) (.c (.int .i64 1))),oo 11 (.mov (.s 41))])))))) [0, 1, 5, 6, 7, 8, 9] (.seq (
 .region false [oo 56 (.mov (.s 6)),oo 57 (.mov (.s 5)),oo 58 (.mov (.s 8)),oo 59 (.indexAddr 1 (.s 57) (.s 58)),oo 60 (.load false 1 (.s 59)),oo 61 (.mov (.s 9)),oo 62 (.build [(.str []), (.str []), (.fsl [])] [(0, 1, (.s 60)), (2, 1, (.s 61))]),oo 63 (.buildSlice 3 56 [(.s 62)]),
 oo 64 (.append 3 56 56 (.s 56) (.s 63)),oo 6 (.mov (.s 64))]) [0, 1, 5, 6, 7, 8, 9] (.seq (.region false [oo 65 (.mov (.s 8)),oo 66 (.bin .lss false (.s 65) (.c (.int .i64 2))),oo 67 (.mov (.s 66)),⟨some 68, .mov (.s 0), (some (67, true))⟩,
 ⟨some 69, .call 18 [(.s 68), (.c (.int .i64 3))], (some (67, true))⟩,⟨some 70, .bin .eql false (.s 69) (.c (.int .i64 0)), (some (67, true))⟩,oo 71 (.pick (.s 67) (.s 70) (.c (.bool false)))]) [0, 1, 5, 6, 7, 8, 9, 71] (.cond (.s 71) (.seq (
 .region false [oo 12 (.mov (.c (.fsl [])))]) [0, 1, 5, 6, 7, 8, 9, 12] (.seq (.seq (.region false [oo 13 (.mov (.c (.int .i64 0)))]) [0, 1, 5, 6, 7, 8, 9, 12, 13] (.block 4 (.loop (.seq (.seq (.region false [oo 72 (.mov (.s 13)),oo 73 (.mov (.s 9)),oo 74 (.len (.s 73)),
 oo 75 (.bin .lss false (.s 72) (.s 74))]) [0, 1, 5, 6, 7, 8, 9, 12, 13, 75] (.cond (.s 75) (.skip) (.exit 4))) [0, 1, 5, 6, 7, 8, 9, 12, 13] (.seq (.block 5 (.seq (.region false [oo 78 (.mov (.s 0)),oo 79 (.call 18 [(.s 78), (.c (.int .i64 3))]),
 oo 80 (.bin .gtr false (.s 79) (.c (.int .i64 0)))]) [0, 1, 5, 6, 7, 8, 9, 12, 13, 80] (.cond (.s 80) (.region false [oo 81 (.mov (.s 12)),oo 82 (.mov (.s 9)),oo 83 (.mov (.s 13)),oo 84 (.indexAddr 8 (.s 82) (.s 83)),oo 85 (.fieldAddr 0 (.s 84)),oo 86 (.load true 5 (.s 85)),
 oo 87 (.build [(.int .i64 0), (.int .i64 0), (.int .i64 0), (.str []), (.str []), (.int .i64 0), (.fsl []), (.fsl [])] [(0, 5, (.s 86))]),oo 88 (.buildSlice 8 53 [(.s 87)]),oo 89 (.append 8 53 112 (.s 81) (.s 88)),oo 12 (.mov (.s 89))]) (.skip)))) [0, 1, 5, 6, 7, 8, 9, 12, 13] (
 .region false [oo 76 (.mov (.s 13)),oo 77 (.bin .add false (.s 76) (.c (.int .i64 1))),oo 13 (.mov (.s 77))])))))) [0, 1, 5, 6, 7, 8, 12] (.region false [oo 90 (.mov (.s 6)),oo 91 (.mov (.s 5)),oo 92 (.mov (.s 8)),oo 93 (.indexAddr 1 (.s 91) (.s 92)),oo 94 (.load false 1 (.s 93)),
 oo 95 (.mov (.s 12)),oo 96 (.build [(.str []), (.str []), (.fsl [])] [(0, 1, (.s 94)), (1, 1, (.c (.str [102]))), (2, 1, (.s 95))]),oo 97 (.buildSlice 3 56 [(.s 96)]),oo 98 (.append 3 56 56 (.s 90) (.s 97)),oo 6 (.mov (.s 98))]))) (.skip)))))))) [0, 1, 5, 6, 7, 8] (
 .region false [oo 32 (.mov (.s 8)),oo 33 (.bin .add false (.s 32) (.c (.int .i64 1))),oo 8 (.mov (.s 33))])))))) [6] (.seq (.region false [oo 99 (.mov (.s 6)),oo 4 (.mov (.s 99))]) [4] (.ret))))))⟩
def tf16 : TFn := ⟨36, [.tmp 6],.seq (.region false [oo 6 (.mov (.c (.fsl [])))]) [0, 1, 2] (.seq (.region false [oo 7 (.mov (.c (.fsl [])))]) [0, 1, 2, 7] (.seq (.seq (.region false [oo 10 (.mov (.s 0)),oo 11 (.mov (.s 2)),oo 12 (.bin .add false (.s 11) (.c (.int .i64 1))),
 oo 13 (.call 18 [(.s 10), (.s 12)]),oo 8 (.mov (.s 13))]) [0, 1, 7, 8] (.block 0 (.loop (.seq (.seq (.region false [oo 14 (.mov (.s 8)),oo 15 (.bin .gtr false (.s 14) (.c (.int .i64 0)))]) [0, 1, 7, 8, 15] (.cond (.s 15) (.skip) (.exit 0))) [0, 1, 7, 8] (.seq (.block 1 (.seq (
 .region false [oo 18 (.mov (.s 0)),oo 19 (.mov (.s 1)),oo 20 (.call 19 [(.s 18), (.s 19)]),oo 21 (.buildSlice 3 63 [(.s 20)]),oo 9 (.mov (.s 21))]) [0, 1, 7, 8, 9] (.seq (.seq (.region false [oo 22 (.mov (.s 0)),oo 23 (.call 18 [(.s 22), (.c (.int .i64 3))]),
 oo 24 (.bin .eql false (.s 23) (.c (.int .i64 0)))]) [0, 1, 7, 8, 9, 24] (.cond (.s 24) (.region false [oo 25 (.mov (.s 9)),oo 26 (.mov (.s 0)),oo 27 (.mov (.s 1)),oo 28 (.call 19 [(.s 26), (.s 27)]),oo 29 (.buildSlice 3 63 [(.s 28)]),oo 30 (.append 3 63 56 (.s 25) (.s 29)),oo 9 (.mov (.s 30))]) (
 .skip))) [0, 1, 7, 8, 9] (.region false [oo 31 (.mov (.s 7)),oo 32 (.mov (.s 9)),oo 33 (.buildSlice 1 51 [(.s 32)]),oo 34 (.append 1 51 24 (.s 31) (.s 33)),oo 7 (.mov (.s 34))])))) [0, 1, 7, 8] (.region false [oo 16 (.mov (.s 8)),oo 17 (.bin .sub false (.s 16) (.c (.int .i64 1))),
 oo 8 (.mov (.s 17))])))))) [7] (.seq (.region false [oo 35 (.mov (.s 7)),oo 6 (.mov (.s 35))]) [6] (.ret))))⟩
def tf17 : TFn := ⟨24, [.cell 2 true 2],.seq (.region false [oo 1 (.box 50 (.s 0)),oo 2 (.alloc 60 [(.fsl []), (.fsl [])])]) [1, 2] (.seq (.seq (.region false [oo 3 (.load true 5 (.s 1)),oo 4 (.call 35 [(.s 3)]),oo 5 (.un .not (.s 4))]) [1, 2, 5] (.cond (.s 5) (.seq (
 .region false [oo 6 (.call 36 []),⟨none, .store 2 (.s 2) (.s 6), none⟩]) [2] (.ret)) (.skip))) [1, 2] (.seq (.seq (.region false [oo 7 (.fieldAddr 3 (.s 1)),oo 8 (.load false 1 (.s 7)),oo 9 (.bin .neq false (.s 8) (.c (.str [])))]) [1, 2, 9] (.cond (.s 9) (.seq (
 .region true [oo 10 (.load true 5 (.s 1)),oo 11 (.call 37 [(.s 10)]),oo 12 (.load true 5 (.s 1)),oo 13 (.call 38 [(.s 12)]),
 oo 14 (.build [(.int .i64 0), (.int .i64 0), (.int .i64 0), (.int .i64 0), (.str []), (.str []), (.bool false), (.int .i64 0), (.int .i64 0), (.int .i64 0), (.int .i64 0), (.str []), (.str []), (.bool false)] [(0, 7, (.s 11)), (7, 7, (.s 13))]),oo 15 (.buildSlice 14 95 [(.s 14)]),
 oo 16 (.build [(.fsl []), (.fsl [])] [(1, 1, (.s 15))]),⟨none, .store 2 (.s 2) (.s 16), none⟩]) [2] (.ret)) (.skip))) [1, 2] (.seq (.region true [oo 17 (.load true 5 (.s 1)),oo 18 (.call 39 [(.s 17)]),oo 19 (.load true 5 (.s 1)),oo 20 (.call 40 [(.s 19)]),
 oo 21 (.build [(.int .i64 0), (.int .i64 0), (.int .i64 0), (.int .i64 0), (.str []), (.str []), (.bool false), (.int .i64 0), (.int .i64 0), (.int .i64 0), (.int .i64 0), (.str []), (.str []), (.bool false)] [(0, 7, (.s 18)), (7, 7, (.s 20))]),oo 22 (.buildSlice 14 95 [(.s 21)]),
 oo 23 (.build [(.fsl []), (.fsl [])] [(0, 1, (.s 22))]),⟨none, .store 2 (.s 2) (.s 23), none⟩]) [2] (.ret))))⟩
def tf18 : TFn := ⟨24, [.tmp 4],.seq (.region false [oo 4 (.mov (.c (.int .i64 0)))]) [0, 1] (.seq (.region false [oo 5 (.mov (.s 0)),oo 6 (.nilCheck (.s 5)),oo 7 (.fieldAddr 1 (.s 6)),oo 8 (.load false 1 (.s 7)),oo 9 (.bin .add false (.s 8) (.c (.int .i64 1))),oo 10 (.nilCheck (.s 5)),
 oo 11 (.fieldAddr 1 (.s 10)),⟨none, .store 1 (.s 11) (.s 9), none⟩]) [0, 1] (.seq (.region true [oo 12 (.mov (.s 0)),oo 13 (.nilCheck (.s 12)),oo 14 (.fieldAddr 0 (.s 13)),oo 15 (.load false 1 (.s 14)),oo 16 (.mov (.s 0)),oo 17 (.nilCheck (.s 16)),oo 18 (.fieldAddr 1 (.s 17)),
 oo 19 (.load false 1 (.s 18)),oo 20 (.bin .sub false (.s 19) (.c (.int .i64 1))),oo 21 (.call 41 [(.s 15), (.s 20)]),oo 22 (.mov (.s 1)),oo 23 (.call 10 [(.s 21), (.s 22)]),oo 4 (.mov (.s 23))]) [4] (.ret)))⟩
def tf19 : TFn := ⟨21, [.cell 4 true 3],.seq (.region false [oo 4 (.alloc 63 [(.int .i64 0), (.fsl []), (.fsl [])])]) [0, 1, 4] (.seq (.region false [oo 6 (.mov (.s 0)),oo 7 (.mov (.s 1)),oo 8 (.len (.s 7)),oo 9 (.bin .sub false (.s 8) (.c (.int .i64 1))),oo 10 (.call 18 [(.s 6), (.s 9)]),
 oo 11 (.bin .add false (.c (.int .i64 1)) (.s 10)),oo 5 (.mov (.s 11))]) [0, 1, 4, 5] (.seq (.region false [oo 12 (.mov (.s 5)),oo 13 (.mov (.s 0)),oo 14 (.mov (.s 1)),oo 15 (.mov (.s 5)),oo 16 (.indexAddr 3 (.s 14) (.s 15)),oo 17 (.fieldAddr 2 (.s 16)),oo 18 (.load false 1 (.s 17)),
 oo 19 (.call 42 [(.s 13), (.s 18)]),oo 20 (.build [(.int .i64 0), (.fsl []), (.fsl [])] [(0, 1, (.s 12)), (1, 2, (.s 19))]),⟨none, .store 3 (.s 4) (.s 20), none⟩]) [4] (.ret)))⟩
def tf20 : TFn := ⟨20, [.tmp 2],.seq (.region false [oo 2 (.mov (.c (.fsl [])))]) [0] (.seq (.region false [oo 3 (.mov (.c (.fsl [])))]) [0, 3] (.seq (.seq (.region false [oo 4 (.mov (.c (.int .i64 0)))]) [0, 3, 4] (.block 0 (.loop (.seq (.seq (.region false [oo 5 (.mov (.s 4)),
 oo 6 (.bin .leq false (.s 5) (.c (.int .i64 16)))]) [0, 3, 4, 6] (.cond (.s 6) (.skip) (.exit 0))) [0, 3, 4] (.seq (.block 1 (.seq (.region false [oo 9 (.mov (.s 0)),oo 10 (.mov (.s 4)),oo 11 (.call 43 [(.s 10)]),oo 12 (.bin .and false (.s 9) (.s 11)),
 oo 13 (.bin .neq false (.s 12) (.c (.int .i64 0)))]) [0, 3, 4, 13] (.cond (.s 13) (.region false [oo 14 (.mov (.s 3)),oo 15 (.mov (.s 4)),oo 16 (.bin .sub false (.s 15) (.c (.int .i64 1))),oo 17 (.buildSlice 1 3 [(.s 16)]),oo 18 (.append 1 3 8 (.s 14) (.s 17)),oo 3 (.mov (.s 18))]) (
 .skip)))) [0, 3, 4] (.region false [oo 7 (.mov (.s 4)),oo 8 (.bin .add false (.s 7) (.c (.int .i64 1))),oo 4 (.mov (.s 8))])))))) [3] (.seq (.region false [oo 19 (.mov (.s 3)),oo 2 (.mov (.s 19))]) [2] (.ret))))⟩
def tf21 : TFn := ⟨41, [.tmp 6],.seq (.region false [oo 3 (.box 26 (.s 0)),oo 6 (.mov (.c (.int .i64 0)))]) [1, 2, 3] (.seq (.seq (.region false [oo 8 (.mov (.s 1)),oo 9 (.len (.s 8)),oo 10 (.bin .sub false (.s 9) (.c (.int .i64 1))),oo 7 (.mov (.s 10))]) [1, 2, 3, 7] (.block 0 (.loop (.seq (.seq (
 .region false [oo 11 (.mov (.s 7)),oo 12 (.bin .geq false (.s 11) (.c (.int .i64 0)))]) [1, 2, 3, 7, 12] (.cond (.s 12) (.skip) (.exit 0))) [1, 2, 3, 7] (.seq (.block 1 (.seq (.region false [oo 15 (.mov (.s 1)),oo 16 (.mov (.s 7)),oo 17 (.indexAddr 4 (.s 15) (.s 16)),oo 18 (.fieldAddr 0 (.s 17)),
 oo 19 (.load false 1 (.s 18)),oo 20 (.mov (.s 2)),oo 21 (.bin .eql false (.s 19) (.s 20)),oo 22 (.mov (.s 21)),⟨some 23, .mov (.s 2), (some (22, true))⟩,⟨some 24, .bin .geq false (.s 23) (.c (.int .i64 0)), (some (22, true))⟩,oo 25 (.pick (.s 22) (.s 24) (.c (.bool false))),oo 26 (.mov (.s 25)),
 ⟨some 27, .mov (.s 2), (some (26, true))⟩,⟨some 28, .fieldAddr 0 (.s 3), (some (26, true))⟩,⟨some 29, .load false 1 (.s 28), (some (26, true))⟩,⟨some 30, .len (.s 29), (some (26, true))⟩,⟨some 31, .bin .lss false (.s 27) (.s 30), (some (26, true))⟩,
 oo 32 (.pick (.s 26) (.s 31) (.c (.bool false)))]) [1, 2, 3, 7, 32] (.cond (.s 32) (.seq (.region false [oo 33 (.mov (.s 1)),oo 34 (.mov (.s 7)),oo 35 (.indexAddr 4 (.s 33) (.s 34)),oo 36 (.fieldAddr 1 (.s 35)),oo 37 (.load false 1 (.s 36)),oo 6 (.mov (.s 37))]) [6] (.ret)) (
 .skip)))) [1, 2, 3, 7] (.region false [oo 13 (.mov (.s 7)),oo 14 (.bin .sub false (.s 13) (.c (.int .i64 1))),oo 7 (.mov (.s 14))])))))) [2, 3] (.seq (.region false [oo 38 (.load true 1 (.s 3)),oo 39 (.mov (.s 2)),oo 40 (.call 25 [(.s 38), (.s 39)]),oo 6 (.mov (.s 40))]) [6] (.ret)))⟩
def tf22 : TFn := ⟨53, [.tmp 8, .tmp 9],.seq (.region false [oo 4 (.box 26 (.s 0)),oo 8 (.mov (.c (.fsl []))),oo 9 (.mov (.c (.bool false)))]) [1, 2, 3, 4] (.seq (.seq (.region false [oo 11 (.mov (.s 2)),oo 12 (.bin .lss false (.s 11) (.c (.int .i64 0))),oo 13 (.mov (.s 12)),
 ⟨some 14, .mov (.s 2), (some (13, false))⟩,⟨some 15, .fieldAddr 0 (.s 4), (some (13, false))⟩,⟨some 16, .load false 1 (.s 15), (some (13, false))⟩,⟨some 17, .len (.s 16), (some (13, false))⟩,⟨some 18, .bin .geq false (.s 14) (.s 17), (some (13, false))⟩,
 oo 19 (.pick (.s 13) (.c (.bool true)) (.s 18)),oo 20 (.mov (.s 19)),⟨some 21, .mov (.s 3), (some (20, false))⟩,⟨some 22, .bin .lss false (.s 21) (.c (.int .i64 0)), (some (20, false))⟩,oo 23 (.pick (.s 20) (.c (.bool true)) (.s 22)),oo 24 (.mov (.s 23)),⟨some 25, .mov (.s 3), (some (24, false))⟩,
 ⟨some 26, .fieldAddr 0 (.s 4), (some (24, false))⟩,⟨some 27, .load false 1 (.s 26), (some (24, false))⟩,⟨some 28, .mov (.s 2), (some (24, false))⟩,⟨some 29, .indexAddr 3 (.s 27) (.s 28), (some (24, false))⟩,⟨some 30, .fieldAddr 2 (.s 29), (some (24, false))⟩,
 ⟨some 31, .load false 1 (.s 30), (some (24, false))⟩,⟨some 32, .len (.s 31), (some (24, false))⟩,⟨some 33, .bin .geq false (.s 25) (.s 32), (some (24, false))⟩,oo 34 (.pick (.s 24) (.c (.bool true)) (.s 33))]) [1, 2, 3, 4, 34] (.cond (.s 34) (.seq (.region false [oo 8 (.mov (.c (.fsl []))),
 oo 9 (.mov (.c (.bool false)))]) [8, 9] (.ret)) (.skip))) [1, 2, 3, 4] (.seq (.region false [oo 35 (.mov (.s 2)),oo 36 (.mov (.s 3)),oo 37 (.conv .u64 (.s 36)),oo 38 (.bin .shl false (.c (.int .i64 2)) (.s 37)),oo 39 (.mov (.s 1)),oo 40 (.call 44 [(.s 39)]),
 oo 41 (.bin .add false (.s 40) (.c (.int .i64 1))),oo 42 (.build [(.int .i64 0), (.int .i64 0), (.int .i64 0), (.int .i64 0)] [(0, 1, (.s 35)), (1, 1, (.s 38)), (2, 1, (.s 41)), (3, 1, (.c (.int .i64 (-1))))]),oo 10 (.alloc 42 [(.int .i64 0), (.int .i64 0), (.int .i64 0), (.int .i64 0)]),
 ⟨none, .store 4 (.s 10) (.s 42), none⟩]) [1, 4, 10] (.seq (.seq (.region false [oo 43 (.load true 1 (.s 4)),oo 44 (.mov (.s 1)),oo 45 (.load true 4 (.s 10)),oo 46 (.call 45 [(.s 43), (.s 44), (.s 45)]),oo 47 (.un .not (.s 46))]) [1, 10, 47] (.cond (.s 47) (.seq (
 .region false [oo 8 (.mov (.c (.fsl []))),oo 9 (.mov (.c (.bool false)))]) [8, 9] (.ret)) (.skip))) [1, 10] (.seq (.region true [oo 48 (.mov (.s 1)),oo 49 (.append 4 42 32 (.c (.fsl [])) (.s 48)),oo 50 (.load true 4 (.s 10)),oo 51 (.buildSlice 4 42 [(.s 50)]),
 oo 52 (.append 4 42 32 (.s 49) (.s 51)),oo 8 (.mov (.s 52)),oo 9 (.mov (.c (.bool true)))]) [8, 9] (.ret)))))⟩
def tf23 : TFn := ⟨98, [.tmp 2],.seq (.region false [oo 1 (.box 26 (.s 0)),oo 2 (.mov (.c (.fsl [])))]) [1] (.seq (.region false [oo 13 (.build [(.int .i64 0), (.int .i64 0)] [(0, 1, (.c (.int .i64 0))), (1, 1, (.c (.int .i64 1)))]),oo 14 (.buildSlice 2 78 [(.s 13)]),
 oo 15 (.build [(.int .i64 0), (.int .i64 0), (.int .i64 0), (.int .i64 0), (.fsl [])] [(0, 1, (.c (.int .i64 1))), (4, 1, (.s 14))]),oo 16 (.buildSlice 5 73 [(.s 15)]),oo 3 (.mov (.s 16))]) [1, 3] (.seq (.seq (.region false [oo 4 (.mov (.c (.int .i64 0)))]) [1, 3, 4] (.block 0 (.loop (.seq (.seq (
 .region false [oo 17 (.mov (.s 4)),oo 18 (.fieldAddr 0 (.s 1)),oo 19 (.load false 1 (.s 18)),oo 20 (.len (.s 19)),oo 21 (.bin .lss false (.s 17) (.s 20))]) [1, 3, 4, 21] (.cond (.s 21) (.skip) (.exit 0))) [1, 3, 4] (.seq (.block 1 (.seq (
 .region false [oo 5 (.mov (.c (.int .i64 0)))]) [1, 3, 4, 5] (.block 2 (.loop (.seq (.seq (.region false [oo 24 (.mov (.s 5)),oo 25 (.fieldAddr 0 (.s 1)),oo 26 (.load false 1 (.s 25)),oo 27 (.mov (.s 4)),oo 28 (.indexAddr 3 (.s 26) (.s 27)),oo 29 (.fieldAddr 2 (.s 28)),
 oo 30 (.load false 1 (.s 29)),oo 31 (.len (.s 30)),oo 32 (.bin .lss false (.s 24) (.s 31))]) [1, 3, 4, 5, 32] (.cond (.s 32) (.skip) (.exit 2))) [1, 3, 4, 5] (.seq (.block 3 (.seq (.region false [oo 35 (.fieldAddr 0 (.s 1)),oo 36 (.load false 1 (.s 35)),oo 37 (.mov (.s 4)),
 oo 38 (.indexAddr 3 (.s 36) (.s 37)),oo 39 (.fieldAddr 2 (.s 38)),oo 40 (.load false 1 (.s 39)),oo 41 (.mov (.s 5)),oo 42 (.indexAddr 8 (.s 40) (.s 41)),oo 43 (.load true 8 (.s 42)),
 oo 6 (.alloc 53 [(.int .i64 0), (.int .i64 0), (.int .i64 0), (.str []), (.str []), (.int .i64 0), (.fsl []), (.fsl [])]),⟨none, .store 8 (.s 6) (.s 43), none⟩]) [1, 3, 4, 5, 6] (.seq (.seq (.region false [oo 7 (.mov (.c (.int .i64 0)))]) [1, 3, 4, 5, 6, 7] (.block 4 (.loop (.seq (.seq (
 .region false [oo 44 (.mov (.s 7)),oo 45 (.fieldAddr 6 (.s 6)),oo 46 (.load false 1 (.s 45)),oo 47 (.len (.s 46)),oo 48 (.bin .lss false (.s 44) (.s 47))]) [1, 3, 4, 5, 6, 7, 48] (.cond (.s 48) (.skip) (.exit 4))) [1, 3, 4, 5, 6, 7] (.seq (.block 5 (.seq (.region true [oo 52 (.load true 1 (.s 1)),
 oo 53 (.mov (.s 4)),oo 54 (.mov (.s 5)),oo 55 (.fieldAddr 6 (.s 6)),oo 56 (.load false 1 (.s 55)),oo 57 (.mov (.s 7)),oo 58 (.indexAddr 1 (.s 56) (.s 57)),oo 59 (.load false 1 (.s 58)),oo 60 (.call 46 [(.s 52), (.s 53), (.s 54), (.s 59), (.c (.bool false))]),oo 51 (.mov (.s 60)),
 oo 61 (.extract 0 (.s 51)),oo 62 (.extract 1 (.s 51)),oo 8 (.mov (.s 61)),oo 9 (.mov (.s 62))]) [1, 3, 4, 5, 6, 7, 8, 9] (.seq (.region false [oo 63 (.mov (.s 9))]) [1, 3, 4, 5, 6, 7, 8, 63] (.cond (.s 63) (.region false [oo 64 (.load true 1 (.s 1)),oo 65 (.mov (.s 3)),oo 66 (.mov (.s 4)),
 oo 67 (.mov (.s 8)),oo 68 (.build [(.int .i64 0), (.int .i64 0), (.int .i64 0), (.int .i64 0), (.fsl [])] [(0, 1, (.c (.int .i64 2))), (1, 1, (.s 66)), (4, 1, (.s 67))]),oo 69 (.call 47 [(.s 64), (.s 65), (.s 68)]),oo 3 (.mov (.s 69))]) (.skip))))) [1, 3, 4, 5, 6, 7] (
 .region false [oo 49 (.mov (.s 7)),oo 50 (.bin .add false (.s 49) (.c (.int .i64 1))),oo 7 (.mov (.s 50))])))))) [1, 3, 4, 5, 6] (.seq (.region false [oo 10 (.mov (.c (.int .i64 0)))]) [1, 3, 4, 5, 6, 10] (.block 6 (.loop (.seq (.seq (.region false [oo 70 (.mov (.s 10)),
 oo 71 (.fieldAddr 7 (.s 6)),oo 72 (.load false 1 (.s 71)),oo 73 (.len (.s 72)),oo 74 (.bin .lss false (.s 70) (.s 73))]) [1, 3, 4, 5, 6, 10, 74] (.cond (.s 74) (.skip) (.exit 6))) [1, 3, 4, 5, 6, 10] (.seq (.block 7 (.seq (.region true [oo 78 (.load true 1 (.s 1)),oo 79 (.mov (.s 4)),
 oo 80 (.mov (.s 5)),oo 81 (.fieldAddr 7 (.s 6)),oo 82 (.load false 1 (.s 81)),oo 83 (.mov (.s 10)),oo 84 (.mov (.s 10)),oo 85 (.bin .add false (.s 84) (.c (.int .i64 1))),oo 86 (.slice 3 (.s 82) (some (.s 83)) (some (.s 85)) none),
 oo 87 (.call 46 [(.s 78), (.s 79), (.s 80), (.s 86), (.c (.bool true))]),oo 77 (.mov (.s 87)),oo 88 (.extract 0 (.s 77)),oo 89 (.extract 1 (.s 77)),oo 11 (.mov (.s 88)),oo 12 (.mov (.s 89))]) [1, 3, 4, 5, 6, 10, 11, 12] (.seq (.region false [oo 90 (.mov (.s 12))]) [1, 3, 4, 5, 6, 10, 11, 90] (
 .cond (.s 90) (.region false [oo 91 (.load true 1 (.s 1)),oo 92 (.mov (.s 3)),oo 93 (.mov (.s 4)),oo 94 (.mov (.s 11)),oo 95 (.build [(.int .i64 0), (.int .i64 0), (.int .i64 0), (.int .i64 0), (.fsl [])] [(0, 1, (.c (.int .i64 3))), (1, 1, (.s 93)), (4, 1, (.s 94))]),
 oo 96 (.call 47 [(.s 91), (.s 92), (.s 95)]),oo 3 (.mov (.s 96))]) (.skip))))) [1, 3, 4, 5, 6, 10] (.region false [oo 75 (.mov (.s 10)),oo 76 (.bin .add false (.s 75) (.c (.int .i64 1))),oo 10 (.mov (.s 76))]))))))))) [1, 3, 4, 5] (.region false [oo 33 (.mov (.s 5)),
 oo 34 (.bin .add false (.s 33) (.c (.int .i64 1))),oo 5 (.mov (.s 34))]))))))) [1, 3, 4] (.region false [oo 22 (.mov (.s 4)),oo 23 (.bin .add false (.s 22) (.c (.int .i64 1))),oo 4 (.mov (.s 23))])))))) [3] (.seq (.region false [oo 97 (.mov (.s 3)),oo 2 (.mov (.s 97))]) [2] (.ret))))⟩
def tf24 : TFn := ⟨58, [.tmp 4, .tmp 5],.seq (.region false [oo 2 (.box 26 (.s 0)),oo 4 (.mov (.c (.fsl []))),oo 5 (.mov (.c (.bool false)))]) [1, 2] (.seq (.region false [oo 8 (.load true 1 (.s 2)),oo 9 (.call 48 [(.s 8)]),oo 6 (.mov (.s 9))]) [1, 2, 6] (.seq (.seq (
 .region false [oo 7 (.mov (.c (.int .i64 0)))]) [1, 2, 6, 7] (.block 0 (.loop (.seq (.seq (.region false [oo 10 (.mov (.s 7)),oo 11 (.mov (.s 1)),oo 12 (.len (.s 11)),oo 13 (.bin .lss false (.s 10) (.s 12))]) [1, 2, 6, 7, 13] (.cond (.s 13) (.skip) (.exit 0))) [1, 2, 6, 7] (.seq (.block 1 (.seq (
 .seq (.region false [oo 16 (.mov (.s 1)),oo 17 (.mov (.s 7)),oo 18 (.indexAddr 2 (.s 16) (.s 17)),oo 19 (.fieldAddr 0 (.s 18)),oo 20 (.load false 1 (.s 19)),oo 21 (.bin .lss false (.s 20) (.c (.int .i64 0))),oo 22 (.mov (.s 21)),⟨some 23, .mov (.s 1), (some (22, false))⟩,
 ⟨some 24, .mov (.s 7), (some (22, false))⟩,⟨some 25, .indexAddr 2 (.s 23) (.s 24), (some (22, false))⟩,⟨some 26, .fieldAddr 0 (.s 25), (some (22, false))⟩,⟨some 27, .load false 1 (.s 26), (some (22, false))⟩,⟨some 28, .mov (.s 6), (some (22, false))⟩,⟨some 29, .len (.s 28), (some (22, false))⟩,
 ⟨some 30, .bin .geq false (.s 27) (.s 29), (some (22, false))⟩,oo 31 (.pick (.s 22) (.c (.bool true)) (.s 30))]) [1, 2, 6, 7, 31] (.cond (.s 31) (.seq (.region false [oo 4 (.mov (.c (.fsl []))),oo 5 (.mov (.c (.bool false)))]) [4, 5] (.ret)) (.skip))) [1, 2, 6, 7] (
 .region true [oo 32 (.mov (.s 6)),oo 33 (.mov (.s 1)),oo 34 (.mov (.s 7)),oo 35 (.indexAddr 2 (.s 33) (.s 34)),oo 36 (.fieldAddr 0 (.s 35)),oo 37 (.load false 1 (.s 36)),oo 38 (.mov (.s 6)),oo 39 (.mov (.s 1)),oo 40 (.mov (.s 7)),oo 41 (.indexAddr 2 (.s 39) (.s 40)),oo 42 (.fieldAddr 0 (.s 41)),
 oo 43 (.load false 1 (.s 42)),oo 44 (.indexAddr 1 (.s 38) (.s 43)),oo 45 (.load false 1 (.s 44)),oo 46 (.mov (.s 1)),oo 47 (.mov (.s 7)),oo 48 (.indexAddr 2 (.s 46) (.s 47)),oo 49 (.fieldAddr 1 (.s 48)),oo 50 (.load false 1 (.s 49)),oo 51 (.bin .and false (.s 45) (.s 50)),
 oo 52 (.indexAddr 1 (.s 32) (.s 37)),⟨none, .store 1 (.s 52) (.s 51), none⟩]))) [1, 2, 6, 7] (.region false [oo 14 (.mov (.s 7)),oo 15 (.bin .add false (.s 14) (.c (.int .i64 1))),oo 7 (.mov (.s 15))])))))) [2, 6] (.seq (.region false [oo 53 (.load true 1 (.s 2)),oo 54 (.mov (.s 6)),
 oo 55 (.call 49 [(.s 53), (.s 54)]),oo 56 (.extract 0 (.s 55)),oo 57 (.extract 1 (.s 55)),oo 4 (.mov (.s 56)),oo 5 (.mov (.s 57))]) [4, 5] (.ret))))⟩
def tf25 : TFn := ⟨25, [.tmp 4],.seq (.region false [oo 2 (.box 26 (.s 0)),oo 4 (.mov (.c (.int .i64 0)))]) [1, 2] (.seq (.seq (.region false [oo 5 (.mov (.s 1)),oo 6 (.bin .lss false (.s 5) (.c (.int .i64 0))),oo 7 (.mov (.s 6)),⟨some 8, .mov (.s 1), (some (7, false))⟩,
 ⟨some 9, .fieldAddr 0 (.s 2), (some (7, false))⟩,⟨some 10, .load false 1 (.s 9), (some (7, false))⟩,⟨some 11, .len (.s 10), (some (7, false))⟩,⟨some 12, .bin .geq false (.s 8) (.s 11), (some (7, false))⟩,oo 13 (.pick (.s 7) (.c (.bool true)) (.s 12))]) [1, 2, 13] (.cond (.s 13) (.seq (
 .region false [oo 4 (.mov (.c (.int .i64 0)))]) [4] (.ret)) (.skip))) [1, 2] (.seq (.region false [oo 14 (.fieldAddr 0 (.s 2)),oo 15 (.load false 1 (.s 14)),oo 16 (.mov (.s 1)),oo 17 (.indexAddr 3 (.s 15) (.s 16)),oo 18 (.fieldAddr 2 (.s 17)),oo 19 (.load false 1 (.s 18)),oo 20 (.len (.s 19)),
 oo 21 (.min (.s 20) (.c (.int .i64 16))),oo 22 (.bin .add false (.s 21) (.c (.int .i64 1))),oo 23 (.call 43 [(.s 22)]),oo 24 (.bin .sub false (.s 23) (.c (.int .i64 1))),oo 4 (.mov (.s 24))]) [4] (.ret)))⟩
def tf26 : TFn := ⟨58, [.tmp 8, .tmp 9],.seq (.region false [oo 4 (.box 26 (.s 0)),oo 6 (.box 78 (.s 2)),oo 8 (.mov (.c (.fsl []))),oo 9 (.mov (.c (.bool false)))]) [1, 3, 4, 6] (.seq (.seq (.region false [oo 12 (.mov (.s 3)),oo 13 (.bin .lss false (.s 12) (.c (.int .i64 0))),oo 14 (.mov (.s 13)),
 ⟨some 15, .fieldAddr 0 (.s 6), (some (14, false))⟩,⟨some 16, .load false 1 (.s 15), (some (14, false))⟩,⟨some 17, .bin .lss false (.s 16) (.c (.int .i64 0)), (some (14, false))⟩,oo 18 (.pick (.s 14) (.c (.bool true)) (.s 17)),oo 19 (.mov (.s 18)),⟨some 20, .fieldAddr 0 (.s 6), (some (19, false))⟩,
 ⟨some 21, .load false 1 (.s 20), (some (19, false))⟩,⟨some 22, .fieldAddr 0 (.s 4), (some (19, false))⟩,⟨some 23, .load false 1 (.s 22), (some (19, false))⟩,⟨some 24, .len (.s 23), (some (19, false))⟩,⟨some 25, .bin .geq false (.s 21) (.s 24), (some (19, false))⟩,
 oo 26 (.pick (.s 19) (.c (.bool true)) (.s 25))]) [1, 3, 4, 6, 26] (.cond (.s 26) (.seq (.region false [oo 8 (.mov (.c (.fsl []))),oo 9 (.mov (.c (.bool false)))]) [8, 9] (.ret)) (.skip))) [1, 3, 4, 6] (.seq (.region false [oo 27 (.load true 1 (.s 4)),oo 28 (.mov (.s 1)),
 oo 29 (.fieldAddr 0 (.s 6)),oo 30 (.load false 1 (.s 29)),oo 31 (.call 21 [(.s 27), (.s 28), (.s 30)]),oo 10 (.mov (.s 31))]) [1, 3, 6, 10] (.seq (.region true [oo 32 (.fieldAddr 0 (.s 6)),oo 33 (.load false 1 (.s 32)),oo 34 (.mov (.s 10)),oo 35 (.mov (.s 10)),oo 36 (.fieldAddr 1 (.s 6)),
 oo 37 (.load false 1 (.s 36)),oo 38 (.bin .and false (.s 35) (.s 37)),oo 39 (.bin .sub false (.s 34) (.s 38)),oo 40 (.mov (.s 1)),oo 41 (.call 44 [(.s 40)]),oo 42 (.mov (.s 3)),
 oo 43 (.build [(.int .i64 0), (.int .i64 0), (.int .i64 0), (.int .i64 0)] [(0, 1, (.s 33)), (1, 1, (.s 39)), (2, 1, (.s 41)), (3, 1, (.s 42))]),oo 11 (.alloc 42 [(.int .i64 0), (.int .i64 0), (.int .i64 0), (.int .i64 0)]),⟨none, .store 4 (.s 11) (.s 43), none⟩]) [1, 10, 11] (.seq (.seq (
 .region false [oo 44 (.fieldAddr 1 (.s 11)),oo 45 (.load false 1 (.s 44)),oo 46 (.bin .eql false (.s 45) (.c (.int .i64 0))),oo 47 (.mov (.s 46)),⟨some 48, .fieldAddr 1 (.s 11), (some (47, false))⟩,⟨some 49, .load false 1 (.s 48), (some (47, false))⟩,⟨some 50, .mov (.s 10), (some (47, false))⟩,
 ⟨some 51, .bin .eql false (.s 49) (.s 50), (some (47, false))⟩,oo 52 (.pick (.s 47) (.c (.bool true)) (.s 51))]) [1, 11, 52] (.cond (.s 52) (.seq (.region false [oo 8 (.mov (.c (.fsl []))),oo 9 (.mov (.c (.bool false)))]) [8, 9] (.ret)) (.skip))) [1, 11] (.seq (.region true [oo 53 (.mov (.s 1)),
 oo 54 (.append 4 42 32 (.c (.fsl [])) (.s 53)),oo 55 (.load true 4 (.s 11)),oo 56 (.buildSlice 4 42 [(.s 55)]),oo 57 (.append 4 42 32 (.s 54) (.s 56)),oo 8 (.mov (.s 57)),oo 9 (.mov (.c (.bool true)))]) [8, 9] (.ret))))))⟩
def tf27 : TFn := ⟨29, [.tmp 6],.seq (.region false [oo 3 (.box 26 (.s 0)),oo 6 (.mov (.c (.int .i64 0)))]) [1, 2, 3] (.seq (.seq (.region false [oo 7 (.mov (.c (.int .i64 0)))]) [1, 2, 3, 7] (.block 0 (.loop (.seq (.seq (.region false [oo 8 (.mov (.s 7)),oo 9 (.mov (.s 1)),oo 10 (.len (.s 9)),
 oo 11 (.bin .lss false (.s 8) (.s 10))]) [1, 2, 3, 7, 11] (.cond (.s 11) (.skip) (.exit 0))) [1, 2, 3, 7] (.seq (.block 1 (.seq (.region false [oo 14 (.mov (.s 1)),oo 15 (.mov (.s 7)),oo 16 (.indexAddr 2 (.s 14) (.s 15)),oo 17 (.fieldAddr 0 (.s 16)),oo 18 (.load false 1 (.s 17)),
 oo 19 (.mov (.s 2)),oo 20 (.bin .eql false (.s 18) (.s 19))]) [1, 2, 3, 7, 20] (.cond (.s 20) (.seq (.region false [oo 21 (.mov (.s 1)),oo 22 (.mov (.s 7)),oo 23 (.indexAddr 2 (.s 21) (.s 22)),oo 24 (.fieldAddr 1 (.s 23)),oo 25 (.load false 1 (.s 24)),oo 6 (.mov (.s 25))]) [6] (.ret)) (
 .skip)))) [1, 2, 3, 7] (.region false [oo 12 (.mov (.s 7)),oo 13 (.bin .add false (.s 12) (.c (.int .i64 1))),oo 7 (.mov (.s 13))])))))) [2, 3] (.seq (.region false [oo 26 (.load true 1 (.s 3)),oo 27 (.mov (.s 2)),oo 28 (.call 25 [(.s 26), (.s 27)]),oo 6 (.mov (.s 28))]) [6] (.ret)))⟩
def tf28 : TFn := ⟨29, [.tmp 6],.seq (.region false [oo 3 (.box 26 (.s 0)),oo 6 (.mov (.c (.bool false)))]) [1, 2, 3] (.seq (.seq (.region false [oo 7 (.mov (.c (.int .i64 0)))]) [1, 2, 3, 7] (.block 0 (.loop (.seq (.seq (.region false [oo 8 (.mov (.s 7)),oo 9 (.mov (.s 2)),oo 10 (.len (.s 9)),
 oo 11 (.bin .lss false (.s 8) (.s 10))]) [1, 2, 3, 7, 11] (.cond (.s 11) (.skip) (.exit 0))) [1, 2, 3, 7] (.seq (.block 1 (.seq (.region true [oo 14 (.load true 1 (.s 3)),oo 15 (.mov (.s 1)),oo 16 (.mov (.s 2)),oo 17 (.mov (.s 7)),oo 18 (.indexAddr 2 (.s 16) (.s 17)),oo 19 (.fieldAddr 0 (.s 18)),
 oo 20 (.load false 1 (.s 19)),oo 21 (.call 21 [(.s 14), (.s 15), (.s 20)]),oo 22 (.mov (.s 2)),oo 23 (.mov (.s 7)),oo 24 (.indexAddr 2 (.s 22) (.s 23)),oo 25 (.fieldAddr 1 (.s 24)),oo 26 (.load false 1 (.s 25)),oo 27 (.call 50 [(.s 21), (.s 26)]),
 oo 28 (.bin .neq false (.s 27) (.c (.int .i64 2)))]) [1, 2, 3, 7, 28] (.cond (.s 28) (.seq (.region false [oo 6 (.mov (.c (.bool false)))]) [6] (.ret)) (.skip)))) [1, 2, 3, 7] (.region false [oo 12 (.mov (.s 7)),oo 13 (.bin .add false (.s 12) (.c (.int .i64 1))),oo 7 (.mov (.s 13))])))))) [] (
 .seq (.region false [oo 6 (.mov (.c (.bool true)))]) [6] (.ret)))⟩
def tf29 : TFn := ⟨41, [.tmp 6],.seq (.region false [oo 3 (.box 26 (.s 0)),oo 6 (.mov (.c (.int .i64 0)))]) [1, 2, 3] (.seq (.region false [oo 7 (.mov (.c (.int .i64 (-1))))]) [1, 2, 3, 7] (.seq (.seq (.region false [oo 8 (.mov (.c (.int .i64 0)))]) [1, 2, 3, 7, 8] (.block 0 (.loop (.seq (.seq (
 .region false [oo 9 (.mov (.s 8)),oo 10 (.mov (.s 2)),oo 11 (.len (.s 10)),oo 12 (.bin .lss false (.s 9) (.s 11))]) [1, 2, 3, 7, 8, 12] (.cond (.s 12) (.skip) (.exit 0))) [1, 2, 3, 7, 8] (.seq (.block 1 (.seq (.region true [oo 15 (.load true 1 (.s 3)),oo 16 (.mov (.s 1)),oo 17 (.mov (.s 2)),
 oo 18 (.mov (.s 8)),oo 19 (.indexAddr 2 (.s 17) (.s 18)),oo 20 (.fieldAddr 0 (.s 19)),oo 21 (.load false 1 (.s 20)),oo 22 (.call 21 [(.s 15), (.s 16), (.s 21)]),oo 23 (.mov (.s 2)),oo 24 (.mov (.s 8)),oo 25 (.indexAddr 2 (.s 23) (.s 24)),oo 26 (.fieldAddr 1 (.s 25)),oo 27 (.load false 1 (.s 26)),
 oo 28 (.call 50 [(.s 22), (.s 27)])]) [1, 2, 3, 7, 8, 28] (.block 2 (.seq (.region false [oo 30 (.bin .eql false (.s 28) (.c (.int .i64 0))),oo 29 (.mov (.s 30))]) [1, 2, 3, 7, 8, 28, 29] (.cond (.s 29) (.seq (.region false [oo 6 (.mov (.c (.int .i64 (-1))))]) [6] (.ret)) (.seq (
 .region false [oo 32 (.bin .eql false (.s 28) (.c (.int .i64 1))),oo 31 (.mov (.s 32))]) [1, 2, 3, 7, 8, 31] (.cond (.s 31) (.seq (.seq (.region false [oo 33 (.mov (.s 7)),oo 34 (.bin .geq false (.s 33) (.c (.int .i64 0)))]) [1, 2, 3, 8, 34] (.cond (.s 34) (.seq (
 .region false [oo 6 (.mov (.c (.int .i64 (-1))))]) [6] (.ret)) (.skip))) [1, 2, 3, 8] (.region false [oo 35 (.mov (.s 2)),oo 36 (.mov (.s 8)),oo 37 (.indexAddr 2 (.s 35) (.s 36)),oo 38 (.fieldAddr 0 (.s 37)),oo 39 (.load false 1 (.s 38)),oo 7 (.mov (.s 39))])) (.skip)))))))) [1, 2, 3, 7, 8] (
 .region false [oo 13 (.mov (.s 8)),oo 14 (.bin .add false (.s 13) (.c (.int .i64 1))),oo 8 (.mov (.s 14))])))))) [7] (.seq (.region false [oo 40 (.mov (.s 7)),oo 6 (.mov (.s 40))]) [6] (.ret))))⟩
def tf30 : TFn := ⟨27, [.tmp 4, .tmp 5],.seq (.region false [oo 4 (.mov (.c (.int .i64 0))),oo 5 (.mov (.c (.int .i64 0)))]) [0, 1] (.seq (.seq (.region false [oo 10 (.mov (.s 1)),oo 11 (.len (.s 10)),oo 12 (.mov (.c (.int .i64 0)))]) [0, 10, 11, 12] (.block 0 (.loop (.seq (
 .region false [oo 13 (.bin .lss false (.s 12) (.s 11))]) [0, 10, 11, 12, 13] (.seq (.cond (.s 13) (.skip) (.exit 0)) [0, 10, 11, 12] (.seq (.block 1 (.seq (.region false [oo 14 (.mov (.s 12)),oo 15 (.indexAddr 1 (.s 10) (.s 12)),oo 16 (.load false 1 (.s 15)),oo 6 (.mov (.s 14)),
 oo 7 (.mov (.s 16))]) [0, 6, 7, 10, 11, 12] (.seq (.region false [oo 18 (.mov (.s 0)),oo 19 (.mov (.s 7)),oo 20 (.call 51 [(.s 18), (.s 19)]),oo 17 (.mov (.s 20)),oo 21 (.extract 0 (.s 17)),oo 22 (.extract 1 (.s 17)),oo 8 (.mov (.s 21)),oo 9 (.mov (.s 22))]) [0, 6, 8, 9, 10, 11, 12] (.seq (
 .region false [oo 23 (.mov (.s 9))]) [0, 6, 8, 10, 11, 12, 23] (.cond (.s 23) (.seq (.region false [oo 24 (.mov (.s 6)),oo 25 (.mov (.s 8)),oo 4 (.mov (.s 24)),oo 5 (.mov (.s 25))]) [4, 5] (.ret)) (.skip)))))) [0, 10, 11, 12] (.region false [oo 26 (.bin .add false (.s 12) (.c (.int .i64 1))),
 oo 12 (.mov (.s 26))]))))))) [] (.seq (.region false [oo 4 (.mov (.c (.int .i64 (-1)))),oo 5 (.mov (.c (.int .i64 (-1))))]) [4, 5] (.ret)))⟩
def tf31 : TFn := ⟨49, [.tmp 4],.seq (.region false [oo 2 (.box 26 (.s 0)),oo 4 (.mov (.c (.fsl [])))]) [1, 2] (.seq (.region false [oo 9 (.fieldAddr 0 (.s 2)),oo 10 (.load false 1 (.s 9)),oo 11 (.len (.s 10)),oo 12 (.makeSlice 1 3 8 [(.int .i64 0)] (.s 11) (.s 11)),
 oo 5 (.mov (.s 12))]) [1, 2, 5] (.seq (.seq (.region false [oo 13 (.mov (.s 5)),oo 14 (.len (.s 13)),oo 15 (.mov (.c (.int .i64 0)))]) [1, 2, 5, 14, 15] (.block 0 (.loop (.seq (.region false [oo 16 (.bin .lss false (.s 15) (.s 14))]) [1, 2, 5, 14, 15, 16] (.seq (.cond (.s 16) (.skip) (
 .exit 0)) [1, 2, 5, 14, 15] (.seq (.block 1 (.seq (.region false [oo 17 (.mov (.s 15)),oo 6 (.mov (.s 17))]) [1, 2, 5, 6, 14, 15] (.region false [oo 18 (.mov (.s 5)),oo 19 (.mov (.s 6)),oo 20 (.load true 1 (.s 2)),oo 21 (.mov (.s 6)),oo 22 (.call 52 [(.s 20), (.s 21)]),
 oo 23 (.indexAddr 1 (.s 18) (.s 19)),⟨none, .store 1 (.s 23) (.s 22), none⟩]))) [1, 2, 5, 14, 15] (.region false [oo 24 (.bin .add false (.s 15) (.c (.int .i64 1))),oo 15 (.mov (.s 24))]))))))) [1, 5] (.seq (.seq (.region false [oo 25 (.mov (.s 1)),oo 26 (.len (.s 25)),
 oo 27 (.mov (.c (.int .i64 0)))]) [5, 25, 26, 27] (.block 2 (.loop (.seq (.region false [oo 28 (.bin .lss false (.s 27) (.s 26))]) [5, 25, 26, 27, 28] (.seq (.cond (.s 28) (.skip) (.exit 2)) [5, 25, 26, 27] (.seq (.block 3 (.seq (.region false [oo 29 (.indexAddr 4 (.s 25) (.s 27)),
 oo 30 (.load true 4 (.s 29)),oo 8 (.alloc 42 [(.int .i64 0), (.int .i64 0), (.int .i64 0), (.int .i64 0)]),⟨none, .store 4 (.s 8) (.s 30), none⟩]) [5, 8, 25, 26, 27] (.seq (.region false [oo 31 (.fieldAddr 0 (.s 8)),oo 32 (.load false 1 (.s 31)),oo 33 (.bin .geq false (.s 32) (.c (.int .i64 0))),
 oo 34 (.mov (.s 33)),⟨some 35, .fieldAddr 0 (.s 8), (some (34, true))⟩,⟨some 36, .load false 1 (.s 35), (some (34, true))⟩,⟨some 37, .mov (.s 5), (some (34, true))⟩,⟨some 38, .len (.s 37), (some (34, true))⟩,⟨some 39, .bin .lss false (.s 36) (.s 38), (some (34, true))⟩,
 oo 40 (.pick (.s 34) (.s 39) (.c (.bool false)))]) [5, 8, 25, 26, 27, 40] (.cond (.s 40) (.region false [oo 41 (.mov (.s 5)),oo 42 (.fieldAddr 0 (.s 8)),oo 43 (.load false 1 (.s 42)),oo 44 (.fieldAddr 1 (.s 8)),oo 45 (.load false 1 (.s 44)),oo 46 (.indexAddr 1 (.s 41) (.s 43)),
 ⟨none, .store 1 (.s 46) (.s 45), none⟩]) (.skip))))) [5, 25, 26, 27] (.region false [oo 47 (.bin .add false (.s 27) (.c (.int .i64 1))),oo 27 (.mov (.s 47))]))))))) [5] (.seq (.region false [oo 48 (.mov (.s 5)),oo 4 (.mov (.s 48))]) [4] (.ret)))))⟩
def tf32 : TFn := ⟨44, [.tmp 8, .tmp 9],.seq (.region false [oo 4 (.box 26 (.s 0)),oo 6 (.box 78 (.s 2)),oo 8 (.mov (.c (.fsl []))),oo 9 (.mov (.c (.bool false)))]) [1, 3, 4, 6] (.seq (.region false [oo 11 (.load true 1 (.s 4)),oo 12 (.mov (.s 1)),oo 13 (.fieldAddr 0 (.s 6)),
 oo 14 (.load false 1 (.s 13)),oo 15 (.call 53 [(.s 11), (.s 12), (.s 14)]),oo 10 (.mov (.s 15))]) [1, 3, 6, 10] (.seq (.seq (.region false [oo 16 (.mov (.s 3)),oo 17 (.bin .lss false (.s 16) (.c (.int .i64 0))),oo 18 (.mov (.s 17)),⟨some 19, .mov (.s 10), (some (18, false))⟩,
 ⟨some 20, .fieldAddr 1 (.s 6), (some (18, false))⟩,⟨some 21, .load false 1 (.s 20), (some (18, false))⟩,⟨some 22, .bin .and false (.s 19) (.s 21), (some (18, false))⟩,⟨some 23, .bin .eql false (.s 22) (.c (.int .i64 0)), (some (18, false))⟩,oo 24 (.pick (.s 18) (.c (.bool true)) (.s 23)),
 oo 25 (.mov (.s 24)),⟨some 26, .mov (.s 10), (some (25, false))⟩,⟨some 27, .fieldAddr 1 (.s 6), (some (25, false))⟩,⟨some 28, .load false 1 (.s 27), (some (25, false))⟩,⟨some 29, .bin .andNot false (.s 26) (.s 28), (some (25, false))⟩,
 ⟨some 30, .bin .eql false (.s 29) (.c (.int .i64 0)), (some (25, false))⟩,oo 31 (.pick (.s 25) (.c (.bool true)) (.s 30))]) [1, 3, 6, 10, 31] (.cond (.s 31) (.seq (.region false [oo 8 (.mov (.c (.fsl []))),oo 9 (.mov (.c (.bool false)))]) [8, 9] (.ret)) (.skip))) [1, 3, 6, 10] (.seq (
 .region true [oo 32 (.mov (.s 1)),oo 33 (.fieldAddr 0 (.s 6)),oo 34 (.load false 1 (.s 33)),oo 35 (.mov (.s 10)),oo 36 (.fieldAddr 1 (.s 6)),oo 37 (.load false 1 (.s 36)),oo 38 (.bin .andNot false (.s 35) (.s 37)),oo 39 (.mov (.s 1)),oo 40 (.call 55 [(.s 39)]),oo 41 (.mov (.s 3)),
 oo 42 (.build [(.int .i64 0), (.int .i64 0), (.int .i64 0), (.int .i64 0)] [(0, 1, (.s 34)), (1, 1, (.s 38)), (2, 1, (.s 40)), (3, 1, (.s 41))]),oo 43 (.call 54 [(.s 32), (.s 42)]),oo 8 (.mov (.s 43)),oo 9 (.mov (.c (.bool true)))]) [8, 9] (.ret))))⟩
def tf33 : TFn := ⟨6, [.tmp 0],.seq (.region false [oo 0 (.mov (.c (.fsl [])))]) [] (.seq (.region false [oo 1 (.build [(.int .i64 0), (.int .i64 0), (.int .i64 0), (.str []), (.str [])] [(0, 1, (.c (.int .i64 1)))]),
 oo 2 (.build [(.int .i64 0), (.int .i64 0), (.int .i64 0), (.str []), (.str [])] [(0, 1, (.c (.int .i64 1))), (1, 1, (.c (.int .i64 2)))]),oo 3 (.build [(.int .i64 0), (.int .i64 0), (.int .i64 0), (.str []), (.str [])] [(0, 1, (.c (.int .i64 2))), (3, 1, (.c (.str [97, 46, 49])))]),
 oo 4 (.build [(.int .i64 0), (.int .i64 0), (.int .i64 0), (.str []), (.str [])] [(0, 1, (.c (.int .i64 2)))]),oo 5 (.buildSlice 5 50 [(.s 1), (.s 2), (.s 3), (.s 4)]),oo 0 (.mov (.s 5))]) [0] (.ret))⟩
def tf34 : TFn := ⟨4, [.cell 0 true 2],.seq (.region false [oo 0 (.alloc 60 [(.fsl []), (.fsl [])])]) [0] (.seq (.region false [oo 1 (.call 56 []),oo 2 (.call 56 []),oo 3 (.build [(.fsl []), (.fsl [])] [(0, 1, (.s 1)), (1, 1, (.s 2))]),⟨none, .store 2 (.s 0) (.s 3), none⟩]) [0] (.ret))⟩
def tf35 : TFn := ⟨26, [.tmp 2],.seq (.region false [oo 1 (.box 50 (.s 0)),oo 2 (.mov (.c (.bool false)))]) [1] (.seq (.region false [oo 3 (.fieldAddr 0 (.s 1)),oo 4 (.load false 1 (.s 3)),oo 5 (.call 57 [(.s 4)]),oo 6 (.mov (.s 5)),⟨some 7, .fieldAddr 1 (.s 1), (some (6, true))⟩,
 ⟨some 8, .load false 1 (.s 7), (some (6, true))⟩,⟨some 9, .call 57 [(.s 8)], (some (6, true))⟩,oo 10 (.pick (.s 6) (.s 9) (.c (.bool false))),oo 11 (.mov (.s 10)),⟨some 12, .fieldAddr 2 (.s 1), (some (11, true))⟩,⟨some 13, .load false 1 (.s 12), (some (11, true))⟩,
 ⟨some 14, .call 57 [(.s 13)], (some (11, true))⟩,oo 15 (.pick (.s 11) (.s 14) (.c (.bool false))),oo 16 (.mov (.s 15)),⟨some 17, .fieldAddr 3 (.s 1), (some (16, true))⟩,⟨some 18, .load false 1 (.s 17), (some (16, true))⟩,⟨some 19, .call 58 [(.s 18), (.c (.bool true))], (some (16, true))⟩,
 oo 20 (.pick (.s 16) (.s 19) (.c (.bool false))),oo 21 (.mov (.s 20)),⟨some 22, .fieldAddr 4 (.s 1), (some (21, true))⟩,⟨some 23, .load false 1 (.s 22), (some (21, true))⟩,⟨some 24, .call 58 [(.s 23), (.c (.bool false))], (some (21, true))⟩,oo 25 (.pick (.s 21) (.s 24) (.c (.bool false))),
 oo 2 (.mov (.s 25))]) [2] (.ret))⟩
def tf36 : TFn := ⟨2, [.cell 0 true 2],.seq (.region false [oo 0 (.alloc 60 [(.fsl []), (.fsl [])])]) [0] (.seq (.region false [oo 1 (.build [(.fsl []), (.fsl [])] []),⟨none, .store 2 (.s 0) (.s 1), none⟩]) [0] (.ret))⟩
def tf37 : TFn := ⟨6, [.cell 2 true 7],.seq (.region false [oo 1 (.box 50 (.s 0)),oo 2 (.alloc 92 [(.int .i64 0), (.int .i64 0), (.int .i64 0), (.int .i64 0), (.str []), (.str []), (.bool false)])]) [1, 2] (.seq (.region false [oo 3 (.load true 5 (.s 1)),oo 4 (.call 59 [(.s 3)]),
 oo 5 (.build [(.int .i64 0), (.int .i64 0), (.int .i64 0), (.int .i64 0), (.str []), (.str []), (.bool false)] [(1, 5, (.s 4))]),⟨none, .store 7 (.s 2) (.s 5), none⟩]) [2] (.ret))⟩
def tf38 : TFn := ⟨6, [.cell 2 true 7],.seq (.region false [oo 1 (.box 50 (.s 0)),oo 2 (.alloc 92 [(.int .i64 0), (.int .i64 0), (.int .i64 0), (.int .i64 0), (.str []), (.str []), (.bool false)])]) [1, 2] (.seq (.region false [oo 3 (.load true 5 (.s 1)),oo 4 (.call 59 [(.s 3)]),
 oo 5 (.build [(.int .i64 0), (.int .i64 0), (.int .i64 0), (.int .i64 0), (.str []), (.str []), (.bool false)] [(1, 5, (.s 4)), (6, 1, (.c (.bool true)))]),⟨none, .store 7 (.s 2) (.s 5), none⟩]) [2] (.ret))⟩
def tf39 : TFn := ⟨14, [.cell 2 true 7],.seq (.region false [oo 1 (.box 50 (.s 0)),oo 2 (.alloc 92 [(.int .i64 0), (.int .i64 0), (.int .i64 0), (.int .i64 0), (.str []), (.str []), (.bool false)])]) [1, 2] (.seq (.seq (.region false [oo 3 (.load true 5 (.s 1)),
 oo 4 (.call 60 [(.s 3)])]) [1, 2, 4] (.cond (.s 4) (.seq (.region false [oo 5 (.call 61 []),⟨none, .store 7 (.s 2) (.s 5), none⟩]) [2] (.ret)) (.skip))) [1, 2] (.seq (.region false [oo 6 (.fieldAddr 0 (.s 1)),oo 7 (.load false 1 (.s 6)),oo 8 (.fieldAddr 1 (.s 1)),oo 9 (.load false 1 (.s 8)),
 oo 10 (.fieldAddr 2 (.s 1)),oo 11 (.load false 1 (.s 10)),oo 12 (.build [(.int .i64 0), (.int .i64 0), (.int .i64 0), (.str []), (.str [])] [(0, 1, (.s 7)), (1, 1, (.s 9)), (2, 1, (.s 11))]),oo 13 (.call 37 [(.s 12)]),⟨none, .store 7 (.s 2) (.s 13), none⟩]) [2] (.ret)))⟩
def tf40 : TFn := ⟨21, [.cell 2 true 7],.seq (.region false [oo 1 (.box 50 (.s 0)),oo 2 (.alloc 92 [(.int .i64 0), (.int .i64 0), (.int .i64 0), (.int .i64 0), (.str []), (.str []), (.bool false)])]) [1, 2] (.seq (.region false [oo 6 (.fieldAddr 0 (.s 1)),oo 7 (.load false 1 (.s 6)),
 oo 8 (.fieldAddr 1 (.s 1)),oo 9 (.load false 1 (.s 8)),oo 10 (.fieldAddr 2 (.s 1)),oo 11 (.load false 1 (.s 10)),oo 12 (.build [(.int .i64 0), (.int .i64 0), (.int .i64 0), (.str []), (.str [])] [(0, 1, (.s 7)), (1, 1, (.s 9)), (2, 1, (.s 11))]),oo 13 (.call 62 [(.s 12)]),oo 5 (.mov (.s 13)),
 oo 14 (.extract 0 (.s 5)),oo 15 (.extract 1 (.s 5)),oo 3 (.alloc 50 [(.int .i64 0), (.int .i64 0), (.int .i64 0), (.str []), (.str [])]),⟨none, .store 5 (.s 3) (.s 14), none⟩,oo 4 (.mov (.s 15))]) [2, 3, 4] (.seq (.seq (.region false [oo 16 (.mov (.s 4)),oo 17 (.un .not (.s 16))]) [2, 3, 17] (
 .cond (.s 17) (.seq (.region false [oo 18 (.call 63 []),⟨none, .store 7 (.s 2) (.s 18), none⟩]) [2] (.ret)) (.skip))) [2, 3] (.seq (.region false [oo 19 (.load true 5 (.s 3)),oo 20 (.call 37 [(.s 19)]),⟨none, .store 7 (.s 2) (.s 20), none⟩]) [2] (.ret))))⟩
def tf41 : TFn := ⟨19, [.tmp 4],.seq (.region false [oo 4 (.mov (.c (.int .i64 0)))]) [0, 1] (.seq (.seq (.region false [oo 5 (.mov (.s 1)),oo 6 (.bin .lss false (.s 5) (.c (.int .i64 0))),oo 7 (.mov (.s 6)),⟨some 8, .mov (.s 1), (some (7, false))⟩,⟨some 9, .mov (.s 0), (some (7, false))⟩,
 ⟨some 10, .len (.s 9), (some (7, false))⟩,⟨some 11, .bin .geq false (.s 8) (.s 10), (some (7, false))⟩,oo 12 (.pick (.s 7) (.c (.bool true)) (.s 11))]) [0, 1, 12] (.cond (.s 12) (.seq (.region false [oo 13 (.mov (.s 1)),oo 14 (.bin .rem false (.s 13) (.c (.int .i64 3))),oo 4 (.mov (.s 14))]) [4] (
 .ret)) (.skip))) [0, 1] (.seq (.region false [oo 15 (.mov (.s 0)),oo 16 (.mov (.s 1)),oo 17 (.indexAddr 1 (.s 15) (.s 16)),oo 18 (.load false 1 (.s 17)),oo 4 (.mov (.s 18))]) [4] (.ret)))⟩
def tf42 : TFn := ⟨41, [.cell 4 true 2],.seq (.region false [oo 4 (.alloc 60 [(.fsl []), (.fsl [])])]) [0, 1, 4] (.seq (.region false [oo 8 (.mov (.s 0)),oo 9 (.call 18 [(.s 8), (.c (.int .i64 8))]),oo 5 (.mov (.s 9))]) [0, 1, 4, 5] (.seq (.region false [oo 10 (.call 36 []),
 oo 6 (.alloc 60 [(.fsl []), (.fsl [])]),⟨none, .store 2 (.s 6) (.s 10), none⟩]) [0, 1, 4, 5, 6] (.seq (.seq (.region false [oo 7 (.mov (.c (.int .i64 0)))]) [0, 1, 4, 5, 6, 7] (.block 0 (.loop (.seq (.seq (.region false [oo 11 (.mov (.s 7)),oo 12 (.mov (.s 1)),oo 13 (.len (.s 12)),
 oo 14 (.bin .lss false (.s 11) (.s 13))]) [0, 1, 4, 5, 6, 7, 14] (.cond (.s 14) (.skip) (.exit 0))) [0, 1, 4, 5, 6, 7] (.seq (.block 1 (.seq (.region false [oo 17 (.mov (.s 5)),oo 18 (.mov (.s 7)),oo 19 (.conv .u64 (.s 18)),oo 20 (.bin .shr false (.s 17) (.s 19)),
 oo 21 (.bin .and false (.s 20) (.c (.int .i64 1))),oo 22 (.bin .eql false (.s 21) (.c (.int .i64 1)))]) [0, 1, 4, 5, 6, 7, 22] (.cond (.s 22) (.region true [oo 23 (.load true 2 (.s 6)),oo 24 (.mov (.s 1)),oo 25 (.mov (.s 7)),oo 26 (.indexAddr 8 (.s 24) (.s 25)),oo 27 (.fieldAddr 0 (.s 26)),
 oo 28 (.load true 5 (.s 27)),oo 29 (.call 17 [(.s 28)]),oo 30 (.call 64 [(.s 23), (.s 29)]),⟨none, .store 2 (.s 6) (.s 30), none⟩]) (.skip)))) [0, 1, 4, 5, 6, 7] (.region false [oo 15 (.mov (.s 7)),oo 16 (.bin .add false (.s 15) (.c (.int .i64 1))),oo 7 (.mov (.s 16))])))))) [0, 4, 6] (.seq (
 .seq (.region false [oo 31 (.mov (.s 0)),oo 32 (.call 18 [(.s 31), (.c (.int .i64 6))])]) [4, 6, 32] (.block 2 (.seq (.region false [oo 34 (.bin .eql false (.s 32) (.c (.int .i64 0))),oo 33 (.mov (.s 34))]) [4, 6, 32, 33] (.cond (.s 33) (.seq (.region false [oo 35 (.call 34 []),
 ⟨none, .store 2 (.s 4) (.s 35), none⟩]) [4] (.ret)) (.seq (.region false [oo 37 (.bin .eql false (.s 32) (.c (.int .i64 1))),oo 36 (.mov (.s 37))]) [4, 6, 36] (.cond (.s 36) (.seq (.region false [oo 38 (.load true 2 (.s 6)),oo 39 (.call 65 [(.s 38)]),⟨none, .store 2 (.s 4) (.s 39), none⟩]) [4] (
 .ret)) (.skip))))))) [4, 6] (.seq (.region false [oo 40 (.load true 2 (.s 6)),⟨none, .store 2 (.s 4) (.s 40), none⟩]) [4] (.ret))))))⟩
def tf43 : TFn := ⟨13, [.tmp 2],.seq (.region false [oo 2 (.mov (.c (.int .i64 0)))]) [0] (.seq (.region false [oo 3 (.mov (.c (.int .i64 1)))]) [0, 3] (.seq (.seq (.region false [oo 4 (.mov (.c (.int .i64 0)))]) [0, 3, 4] (.block 0 (.loop (.seq (.seq (.region false [oo 5 (.mov (.s 4)),
 oo 6 (.mov (.s 0)),oo 7 (.bin .lss false (.s 5) (.s 6))]) [0, 3, 4, 7] (.cond (.s 7) (.skip) (.exit 0))) [0, 3, 4] (.seq (.block 1 (.region false [oo 10 (.mov (.s 3)),oo 11 (.bin .mul false (.s 10) (.c (.int .i64 2))),oo 3 (.mov (.s 11))])) [0, 3, 4] (.region false [oo 8 (.mov (.s 4)),
 oo 9 (.bin .add false (.s 8) (.c (.int .i64 1))),oo 4 (.mov (.s 9))])))))) [3] (.seq (.region false [oo 12 (.mov (.s 3)),oo 2 (.mov (.s 12))]) [2] (.ret))))⟩
def tf44 : TFn := ⟨13, [.tmp 2],.seq (.region false [oo 2 (.mov (.c (.int .i64 0)))]) [0] (.seq (.seq (.region false [oo 3 (.mov (.s 0)),oo 4 (.len (.s 3)),oo 5 (.bin .eql false (.s 4) (.c (.int .i64 0)))]) [0, 5] (.cond (.s 5) (.seq (.region false [oo 2 (.mov (.c (.int .i64 0)))]) [2] (.ret)) (
 .skip))) [0] (.seq (.region false [oo 6 (.mov (.s 0)),oo 7 (.mov (.s 0)),oo 8 (.len (.s 7)),oo 9 (.bin .sub false (.s 8) (.c (.int .i64 1))),oo 10 (.indexAddr 4 (.s 6) (.s 9)),oo 11 (.fieldAddr 2 (.s 10)),oo 12 (.load false 1 (.s 11)),oo 2 (.mov (.s 12))]) [2] (.ret)))⟩
def tf45 : TFn := ⟨85, [.tmp 6],.seq (.region false [oo 3 (.box 26 (.s 0)),oo 5 (.box 42 (.s 2)),oo 6 (.mov (.c (.bool false)))]) [1, 3, 5] (.seq (.seq (.region false [oo 8 (.fieldAddr 0 (.s 5)),oo 9 (.load false 1 (.s 8)),oo 10 (.bin .lss false (.s 9) (.c (.int .i64 0))),oo 11 (.mov (.s 10)),
 ⟨some 12, .fieldAddr 0 (.s 5), (some (11, false))⟩,⟨some 13, .load false 1 (.s 12), (some (11, false))⟩,⟨some 14, .fieldAddr 0 (.s 3), (some (11, false))⟩,⟨some 15, .load false 1 (.s 14), (some (11, false))⟩,⟨some 16, .len (.s 15), (some (11, false))⟩,
 ⟨some 17, .bin .geq false (.s 13) (.s 16), (some (11, false))⟩,oo 18 (.pick (.s 11) (.c (.bool true)) (.s 17)),oo 19 (.mov (.s 18)),⟨some 20, .fieldAddr 3 (.s 5), (some (19, false))⟩,⟨some 21, .load false 1 (.s 20), (some (19, false))⟩,
 ⟨some 22, .bin .lss false (.s 21) (.c (.int .i64 (-1))), (some (19, false))⟩,oo 23 (.pick (.s 19) (.c (.bool true)) (.s 22))]) [1, 3, 5, 23] (.cond (.s 23) (.seq (.region false [oo 6 (.mov (.c (.bool false)))]) [6] (.ret)) (.skip))) [1, 3, 5] (.seq (.region false [oo 24 (.load true 1 (.s 3)),
 oo 25 (.mov (.s 1)),oo 26 (.fieldAddr 0 (.s 5)),oo 27 (.load false 1 (.s 26)),oo 28 (.call 21 [(.s 24), (.s 25), (.s 27)]),oo 7 (.mov (.s 28))]) [1, 5, 7] (.seq (.seq (.region false [oo 29 (.fieldAddr 3 (.s 5)),oo 30 (.load false 1 (.s 29)),
 oo 31 (.bin .eql false (.s 30) (.c (.int .i64 (-1))))]) [1, 5, 7, 31] (.cond (.s 31) (.seq (.region true [oo 32 (.fieldAddr 1 (.s 5)),oo 33 (.load false 1 (.s 32)),oo 34 (.call 66 [(.s 33)]),oo 35 (.bin .geq false (.s 34) (.c (.int .i64 0))),oo 36 (.mov (.s 35)),
 ⟨some 37, .fieldAddr 1 (.s 5), (some (36, true))⟩,⟨some 38, .load false 1 (.s 37), (some (36, true))⟩,⟨some 39, .mov (.s 7), (some (36, true))⟩,⟨some 40, .bin .and false (.s 38) (.s 39), (some (36, true))⟩,⟨some 41, .fieldAddr 1 (.s 5), (some (36, true))⟩,
 ⟨some 42, .load false 1 (.s 41), (some (36, true))⟩,⟨some 43, .bin .eql false (.s 40) (.s 42), (some (36, true))⟩,oo 44 (.pick (.s 36) (.s 43) (.c (.bool false))),oo 45 (.mov (.s 44)),⟨some 46, .mov (.s 1), (some (45, true))⟩,⟨some 47, .fieldAddr 0 (.s 5), (some (45, true))⟩,
 ⟨some 48, .load false 1 (.s 47), (some (45, true))⟩,⟨some 49, .call 67 [(.s 46), (.s 48)], (some (45, true))⟩,⟨some 50, .un .not (.s 49), (some (45, true))⟩,oo 51 (.pick (.s 45) (.s 50) (.c (.bool false))),oo 52 (.mov (.s 51)),⟨some 53, .fieldAddr 2 (.s 5), (some (52, true))⟩,
 ⟨some 54, .load false 1 (.s 53), (some (52, true))⟩,⟨some 55, .mov (.s 1), (some (52, true))⟩,⟨some 56, .call 44 [(.s 55)], (some (52, true))⟩,⟨some 57, .bin .add false (.s 56) (.c (.int .i64 1)), (some (52, true))⟩,⟨some 58, .bin .eql false (.s 54) (.s 57), (some (52, true))⟩,
 oo 59 (.pick (.s 52) (.s 58) (.c (.bool false))),oo 6 (.mov (.s 59))]) [6] (.ret)) (.skip))) [1, 5, 7] (.seq (.region true [oo 60 (.fieldAddr 1 (.s 5)),oo 61 (.load false 1 (.s 60)),oo 62 (.bin .neq false (.s 61) (.c (.int .i64 0))),oo 63 (.mov (.s 62)),
 ⟨some 64, .fieldAddr 1 (.s 5), (some (63, true))⟩,⟨some 65, .load false 1 (.s 64), (some (63, true))⟩,⟨some 66, .mov (.s 7), (some (63, true))⟩,⟨some 67, .bin .and false (.s 65) (.s 66), (some (63, true))⟩,⟨some 68, .fieldAddr 1 (.s 5), (some (63, true))⟩,
 ⟨some 69, .load false 1 (.s 68), (some (63, true))⟩,⟨some 70, .bin .eql false (.s 67) (.s 69), (some (63, true))⟩,oo 71 (.pick (.s 63) (.s 70) (.c (.bool false))),oo 72 (.mov (.s 71)),⟨some 73, .fieldAddr 1 (.s 5), (some (72, true))⟩,⟨some 74, .load false 1 (.s 73), (some (72, true))⟩,
 ⟨some 75, .mov (.s 7), (some (72, true))⟩,⟨some 76, .bin .neq false (.s 74) (.s 75), (some (72, true))⟩,oo 77 (.pick (.s 72) (.s 76) (.c (.bool false))),oo 78 (.mov (.s 77)),⟨some 79, .fieldAddr 2 (.s 5), (some (78, true))⟩,⟨some 80, .load false 1 (.s 79), (some (78, true))⟩,
 ⟨some 81, .mov (.s 1), (some (78, true))⟩,⟨some 82, .call 44 [(.s 81)], (some (78, true))⟩,⟨some 83, .bin .eql false (.s 80) (.s 82), (some (78, true))⟩,oo 84 (.pick (.s 78) (.s 83) (.c (.bool false))),oo 6 (.mov (.s 84))]) [6] (.ret)))))⟩
def tf46 : TFn := ⟨63, [.tmp 10, .tmp 11],.seq (.region false [oo 5 (.box 26 (.s 0)),oo 10 (.mov (.c (.fsl []))),oo 11 (.mov (.c (.bool false)))]) [1, 2, 3, 4, 5] (.seq (.region false [oo 15 (.mov (.s 1)),oo 16 (.load true 1 (.s 5)),oo 17 (.mov (.s 1)),oo 18 (.call 25 [(.s 16), (.s 17)]),
 oo 19 (.mov (.s 2)),oo 20 (.conv .u64 (.s 19)),oo 21 (.bin .shl false (.c (.int .i64 2)) (.s 20)),oo 22 (.bin .and false (.s 18) (.s 21)),oo 23 (.build [(.int .i64 0), (.int .i64 0)] [(0, 1, (.s 15)), (1, 1, (.s 22))]),oo 24 (.buildSlice 2 78 [(.s 23)]),oo 12 (.mov (.s 24))]) [3, 4, 5, 12] (.seq (
 .seq (.region false [oo 13 (.mov (.c (.int .i64 0)))]) [3, 4, 5, 12, 13] (.block 0 (.loop (.seq (.seq (.region false [oo 25 (.mov (.s 13)),oo 26 (.mov (.s 3)),oo 27 (.len (.s 26)),oo 28 (.bin .lss false (.s 25) (.s 27))]) [3, 4, 5, 12, 13, 28] (.cond (.s 28) (.skip) (.exit 0))) [3, 4, 5, 12, 13] (
 .seq (.block 1 (.seq (.region true [oo 31 (.load true 1 (.s 5)),oo 32 (.mov (.s 3)),oo 33 (.mov (.s 13)),oo 34 (.indexAddr 3 (.s 32) (.s 33)),oo 35 (.load true 3 (.s 34)),oo 36 (.call 68 [(.s 31), (.s 35)]),oo 14 (.mov (.s 36))]) [3, 4, 5, 12, 13, 14] (.seq (.seq (
 .region false [oo 37 (.mov (.s 4)),oo 38 (.un .not (.s 37))]) [3, 4, 5, 12, 13, 14, 38] (.cond (.s 38) (.region true [oo 39 (.load true 1 (.s 5)),oo 40 (.mov (.s 3)),oo 41 (.mov (.s 13)),oo 42 (.indexAddr 3 (.s 40) (.s 41)),oo 43 (.fieldAddr 0 (.s 42)),oo 44 (.load false 1 (.s 43)),
 oo 45 (.call 25 [(.s 39), (.s 44)]),oo 46 (.mov (.s 14)),oo 47 (.bin .sub false (.s 45) (.s 46)),oo 14 (.mov (.s 47))]) (.skip))) [3, 4, 5, 12, 13, 14] (.region false [oo 48 (.mov (.s 12)),oo 49 (.mov (.s 3)),oo 50 (.mov (.s 13)),oo 51 (.indexAddr 3 (.s 49) (.s 50)),oo 52 (.fieldAddr 0 (.s 51)),
 oo 53 (.load false 1 (.s 52)),oo 54 (.mov (.s 14)),oo 55 (.build [(.int .i64 0), (.int .i64 0)] [(0, 1, (.s 53)), (1, 1, (.s 54))]),oo 56 (.buildSlice 2 78 [(.s 55)]),oo 57 (.append 2 78 16 (.s 48) (.s 56)),oo 12 (.mov (.s 57))])))) [3, 4, 5, 12, 13] (.region false [oo 29 (.mov (.s 13)),
 oo 30 (.bin .add false (.s 29) (.c (.int .i64 1))),oo 13 (.mov (.s 30))])))))) [5, 12] (.seq (.region false [oo 58 (.load true 1 (.s 5)),oo 59 (.mov (.s 12)),oo 60 (.call 24 [(.s 58), (.s 59)]),oo 61 (.extract 0 (.s 60)),oo 62 (.extract 1 (.s 60)),oo 10 (.mov (.s 61)),
 oo 11 (.mov (.s 62))]) [10, 11] (.ret))))⟩
def tf47 : TFn := ⟨79, [.tmp 6],.seq (.region false [oo 3 (.box 26 (.s 0)),oo 5 (.box 73 (.s 2)),oo 6 (.mov (.c (.fsl [])))]) [1, 3, 5] (.seq (.seq (.region false [oo 7 (.mov (.c (.int .i64 0)))]) [1, 3, 5, 7] (.block 0 (.loop (.seq (.seq (.region false [oo 10 (.mov (.s 7)),oo 11 (.mov (.s 1)),
 oo 12 (.len (.s 11)),oo 13 (.bin .lss false (.s 10) (.s 12))]) [1, 3, 5, 7, 13] (.cond (.s 13) (.skip) (.exit 0))) [1, 3, 5, 7] (.seq (.block 1 (.seq (.region false [oo 16 (.mov (.s 1)),oo 17 (.mov (.s 7)),oo 18 (.indexAddr 5 (.s 16) (.s 17)),oo 19 (.load true 5 (.s 18)),
 oo 8 (.alloc 73 [(.int .i64 0), (.int .i64 0), (.int .i64 0), (.int .i64 0), (.fsl [])]),⟨none, .store 5 (.s 8) (.s 19), none⟩]) [1, 3, 5, 7, 8] (.seq (.region true [oo 20 (.fieldAddr 0 (.s 8)),oo 21 (.load false 1 (.s 20)),oo 22 (.fieldAddr 0 (.s 5)),oo 23 (.load false 1 (.s 22)),
 oo 24 (.bin .eql false (.s 21) (.s 23)),oo 25 (.mov (.s 24)),⟨some 26, .fieldAddr 1 (.s 8), (some (25, true))⟩,⟨some 27, .load false 1 (.s 26), (some (25, true))⟩,⟨some 28, .fieldAddr 1 (.s 5), (some (25, true))⟩,⟨some 29, .load false 1 (.s 28), (some (25, true))⟩,
 ⟨some 30, .bin .eql false (.s 27) (.s 29), (some (25, true))⟩,oo 31 (.pick (.s 25) (.s 30) (.c (.bool false))),oo 32 (.mov (.s 31)),⟨some 33, .fieldAddr 4 (.s 8), (some (32, true))⟩,⟨some 34, .load false 1 (.s 33), (some (32, true))⟩,⟨some 35, .fieldAddr 1 (.s 5), (some (32, true))⟩,
 ⟨some 36, .load false 1 (.s 35), (some (32, true))⟩,⟨some 37, .call 70 [(.s 34), (.s 36)], (some (32, true))⟩,⟨some 38, .fieldAddr 4 (.s 5), (some (32, true))⟩,⟨some 39, .load false 1 (.s 38), (some (32, true))⟩,⟨some 40, .fieldAddr 1 (.s 5), (some (32, true))⟩,
 ⟨some 41, .load false 1 (.s 40), (some (32, true))⟩,⟨some 42, .call 70 [(.s 39), (.s 41)], (some (32, true))⟩,⟨some 43, .call 69 [(.s 37), (.s 42)], (some (32, true))⟩,oo 44 (.pick (.s 32) (.s 43) (.c (.bool false)))]) [1, 3, 5, 7, 8, 44] (.cond (.s 44) (.seq (
 .region true [oo 45 (.fieldAddr 1 (.s 5)),oo 46 (.load false 1 (.s 45)),oo 47 (.load true 1 (.s 3)),oo 48 (.fieldAddr 4 (.s 8)),oo 49 (.load false 1 (.s 48)),oo 50 (.fieldAddr 1 (.s 5)),oo 51 (.load false 1 (.s 50)),oo 52 (.call 27 [(.s 47), (.s 49), (.s 51)]),oo 53 (.load true 1 (.s 3)),
 oo 54 (.fieldAddr 4 (.s 5)),oo 55 (.load false 1 (.s 54)),oo 56 (.fieldAddr 1 (.s 5)),oo 57 (.load false 1 (.s 56)),oo 58 (.call 27 [(.s 53), (.s 55), (.s 57)]),oo 59 (.bin .or false (.s 52) (.s 58)),oo 60 (.build [(.int .i64 0), (.int .i64 0)] [(0, 1, (.s 46)), (1, 1, (.s 59))]),
 oo 61 (.buildSlice 2 78 [(.s 60)]),oo 62 (.fieldAddr 4 (.s 8)),oo 63 (.load false 1 (.s 62)),oo 64 (.fieldAddr 1 (.s 5)),oo 65 (.load false 1 (.s 64)),oo 66 (.call 70 [(.s 63), (.s 65)]),oo 67 (.append 2 78 16 (.s 61) (.s 66)),oo 9 (.mov (.s 67))]) [1, 7, 9] (.seq (
 .region false [oo 68 (.mov (.s 1)),oo 69 (.mov (.s 7)),oo 70 (.mov (.s 9)),oo 71 (.call 71 [(.s 70)]),oo 72 (.indexAddr 5 (.s 68) (.s 69)),oo 73 (.fieldAddr 4 (.s 72)),⟨none, .store 1 (.s 73) (.s 71), none⟩]) [1] (.seq (.region false [oo 74 (.mov (.s 1)),oo 6 (.mov (.s 74))]) [6] (.ret)))) (
 .skip))))) [1, 3, 5, 7] (.region false [oo 14 (.mov (.s 7)),oo 15 (.bin .add false (.s 14) (.c (.int .i64 1))),oo 7 (.mov (.s 15))])))))) [1, 5] (.seq (.region false [oo 75 (.mov (.s 1)),oo 76 (.load true 5 (.s 5)),oo 77 (.buildSlice 5 73 [(.s 76)]),oo 78 (.append 5 73 56 (.s 75) (.s 77)),
 oo 6 (.mov (.s 78))]) [6] (.ret)))⟩
def tf48 : TFn := ⟨19, [.tmp 2],.seq (.region false [oo 1 (.box 26 (.s 0)),oo 2 (.mov (.c (.fsl [])))]) [1] (.seq (.region false [oo 3 (.mov (.c (.fsl [])))]) [1, 3] (.seq (.seq (.region false [oo 4 (.mov (.c (.int .i64 0)))]) [1, 3, 4] (.block 0 (.loop (.seq (.seq (
 .region false [oo 5 (.mov (.s 4)),oo 6 (.fieldAddr 0 (.s 1)),oo 7 (.load false 1 (.s 6)),oo 8 (.len (.s 7)),oo 9 (.bin .lss false (.s 5) (.s 8))]) [1, 3, 4, 9] (.cond (.s 9) (.skip) (.exit 0))) [1, 3, 4] (.seq (.block 1 (.region false [oo 12 (.mov (.s 3)),oo 13 (.load true 1 (.s 1)),
 oo 14 (.mov (.s 4)),oo 15 (.call 25 [(.s 13), (.s 14)]),oo 16 (.buildSlice 1 3 [(.s 15)]),oo 17 (.append 1 3 8 (.s 12) (.s 16)),oo 3 (.mov (.s 17))])) [1, 3, 4] (.region false [oo 10 (.mov (.s 4)),oo 11 (.bin .add false (.s 10) (.c (.int .i64 1))),oo 4 (.mov (.s 11))])))))) [3] (.seq (
 .region false [oo 18 (.mov (.s 3)),oo 2 (.mov (.s 18))]) [2] (.ret))))⟩
def tf49 : TFn := ⟨37, [.tmp 4, .tmp 5],.seq (.region false [oo 2 (.box 26 (.s 0)),oo 4 (.mov (.c (.fsl []))),oo 5 (.mov (.c (.bool false)))]) [1, 2] (.seq (.region false [oo 6 (.mov (.c (.fsl [])))]) [1, 2, 6] (.seq (.seq (.region false [oo 7 (.mov (.c (.int .i64 0)))]) [1, 2, 6, 7] (.block 0 (
 .loop (.seq (.seq (.region false [oo 8 (.mov (.s 7)),oo 9 (.mov (.s 1)),oo 10 (.len (.s 9)),oo 11 (.bin .lss false (.s 8) (.s 10))]) [1, 2, 6, 7, 11] (.cond (.s 11) (.skip) (.exit 0))) [1, 2, 6, 7] (.seq (.block 1 (.seq (.seq (.region false [oo 14 (.mov (.s 1)),oo 15 (.mov (.s 7)),
 oo 16 (.indexAddr 1 (.s 14) (.s 15)),oo 17 (.load false 1 (.s 16)),oo 18 (.bin .eql false (.s 17) (.c (.int .i64 0)))]) [1, 2, 6, 7, 18] (.cond (.s 18) (.seq (.region false [oo 4 (.mov (.c (.fsl []))),oo 5 (.mov (.c (.bool false)))]) [4, 5] (.ret)) (.skip))) [1, 2, 6, 7] (.seq (
 .region true [oo 19 (.mov (.s 1)),oo 20 (.mov (.s 7)),oo 21 (.indexAddr 1 (.s 19) (.s 20)),oo 22 (.load false 1 (.s 21)),oo 23 (.load true 1 (.s 2)),oo 24 (.mov (.s 7)),oo 25 (.call 25 [(.s 23), (.s 24)]),oo 26 (.bin .neq false (.s 22) (.s 25))]) [1, 2, 6, 7, 26] (.cond (.s 26) (
 .region false [oo 27 (.mov (.s 6)),oo 28 (.mov (.s 7)),oo 29 (.mov (.s 1)),oo 30 (.mov (.s 7)),oo 31 (.indexAddr 1 (.s 29) (.s 30)),oo 32 (.load false 1 (.s 31)),oo 33 (.build [(.int .i64 0), (.int .i64 0)] [(0, 1, (.s 28)), (1, 1, (.s 32))]),oo 34 (.buildSlice 2 78 [(.s 33)]),
 oo 35 (.append 2 78 16 (.s 27) (.s 34)),oo 6 (.mov (.s 35))]) (.skip))))) [1, 2, 6, 7] (.region false [oo 12 (.mov (.s 7)),oo 13 (.bin .add false (.s 12) (.c (.int .i64 1))),oo 7 (.mov (.s 13))])))))) [6] (.seq (.region false [oo 36 (.mov (.s 6)),oo 4 (.mov (.s 36)),
 oo 5 (.mov (.c (.bool true)))]) [4, 5] (.ret))))⟩
def tf50 : TFn := ⟨16, [.tmp 4],.seq (.region false [oo 4 (.mov (.c (.int .i64 0)))]) [0, 1] (.seq (.block 0 (.seq (.region false [oo 6 (.mov (.s 0)),oo 7 (.mov (.s 1)),oo 8 (.bin .and false (.s 6) (.s 7)),oo 9 (.mov (.s 0)),oo 10 (.bin .eql false (.s 8) (.s 9)),oo 5 (.mov (.s 10))]) [0, 1, 5] (
 .cond (.s 5) (.seq (.region false [oo 4 (.mov (.c (.int .i64 2)))]) [4] (.ret)) (.seq (.region false [oo 12 (.mov (.s 0)),oo 13 (.mov (.s 1)),oo 14 (.bin .and false (.s 12) (.s 13)),oo 15 (.bin .eql false (.s 14) (.c (.int .i64 0))),oo 11 (.mov (.s 15))]) [11] (.cond (.s 11) (.seq (
 .region false [oo 4 (.mov (.c (.int .i64 0)))]) [4] (.ret)) (.skip)))))) [] (.seq (.region false [oo 4 (.mov (.c (.int .i64 1)))]) [4] (.ret)))⟩
def tf51 : TFn := ⟨54, [.tmp 4, .tmp 5],.seq (.region false [oo 4 (.mov (.c (.int .i64 0))),oo 5 (.mov (.c (.bool false)))]) [0, 1] (.seq (.region false [oo 6 (.mov (.c (.int .i64 (-1))))]) [0, 1, 6] (.seq (.seq (.region false [oo 11 (.mov (.s 1)),oo 12 (.len (.s 11)),
 oo 13 (.mov (.c (.int .i64 0)))]) [0, 6, 11, 12, 13] (.block 0 (.loop (.seq (.region false [oo 14 (.bin .lss false (.s 13) (.s 12))]) [0, 6, 11, 12, 13, 14] (.seq (.cond (.s 14) (.skip) (.exit 0)) [0, 6, 11, 12, 13] (.seq (.block 1 (.seq (.region false [oo 15 (.indexAddr 2 (.s 11) (.s 13)),
 oo 16 (.load true 2 (.s 15)),oo 8 (.alloc 78 [(.int .i64 0), (.int .i64 0)]),⟨none, .store 2 (.s 8) (.s 16), none⟩]) [0, 6, 8, 11, 12, 13] (.seq (.region false [oo 9 (.mov (.c (.int .i64 0)))]) [0, 6, 8, 9, 11, 12, 13] (.seq (.seq (.region false [oo 17 (.fieldAddr 0 (.s 8)),
 oo 18 (.load false 1 (.s 17)),oo 19 (.bin .geq false (.s 18) (.c (.int .i64 0))),oo 20 (.mov (.s 19)),⟨some 21, .fieldAddr 0 (.s 8), (some (20, true))⟩,⟨some 22, .load false 1 (.s 21), (some (20, true))⟩,⟨some 23, .mov (.s 0), (some (20, true))⟩,⟨some 24, .len (.s 23), (some (20, true))⟩,
 ⟨some 25, .bin .lss false (.s 22) (.s 24), (some (20, true))⟩,oo 26 (.pick (.s 20) (.s 25) (.c (.bool false)))]) [0, 6, 8, 9, 11, 12, 13, 26] (.cond (.s 26) (.region false [oo 27 (.mov (.s 0)),oo 28 (.fieldAddr 0 (.s 8)),oo 29 (.load false 1 (.s 28)),oo 30 (.indexAddr 1 (.s 27) (.s 29)),
 oo 31 (.load false 1 (.s 30)),oo 9 (.mov (.s 31))]) (.skip))) [0, 6, 8, 9, 11, 12, 13] (.seq (.region false [oo 32 (.mov (.s 9)),oo 33 (.fieldAddr 1 (.s 8)),oo 34 (.load false 1 (.s 33)),oo 35 (.call 72 [(.s 32), (.s 34)]),oo 10 (.mov (.s 35))]) [0, 6, 8, 10, 11, 12, 13] (.block 2 (.seq (
 .region false [oo 37 (.mov (.s 10)),oo 38 (.bin .eql false (.s 37) (.c (.int .i64 0))),oo 39 (.mov (.s 38)),⟨some 40, .mov (.s 10), (some (39, false))⟩,⟨some 41, .bin .eql false (.s 40) (.c (.int .i64 1)), (some (39, false))⟩,⟨some 42, .mov (.s 41), (some (39, false))⟩,
 ⟨some 43, .mov (.s 6), (some (42, true))⟩,⟨some 44, .bin .geq false (.s 43) (.c (.int .i64 0)), (some (42, true))⟩,⟨some 45, .pick (.s 42) (.s 44) (.c (.bool false)), (some (39, false))⟩,oo 46 (.pick (.s 39) (.c (.bool true)) (.s 45)),oo 36 (.mov (.s 46))]) [0, 6, 8, 10, 11, 12, 13, 36] (
 .cond (.s 36) (.seq (.region false [oo 4 (.mov (.c (.int .i64 0))),oo 5 (.mov (.c (.bool false)))]) [4, 5] (.ret)) (.seq (.region false [oo 48 (.mov (.s 10)),oo 49 (.bin .eql false (.s 48) (.c (.int .i64 1))),oo 47 (.mov (.s 49))]) [0, 6, 8, 11, 12, 13, 47] (.cond (.s 47) (
 .region false [oo 50 (.fieldAddr 0 (.s 8)),oo 51 (.load false 1 (.s 50)),oo 6 (.mov (.s 51))]) (.skip))))))))))) [0, 6, 11, 12, 13] (.region false [oo 52 (.bin .add false (.s 13) (.c (.int .i64 1))),oo 13 (.mov (.s 52))]))))))) [6] (.seq (.region false [oo 53 (.mov (.s 6)),oo 4 (.mov (.s 53)),
 oo 5 (.mov (.c (.bool true)))]) [4, 5] (.ret))))⟩
def tf52 : TFn := ⟨18, [.tmp 4],.seq (.region false [oo 2 (.box 26 (.s 0)),oo 4 (.mov (.c (.int .i64 0)))]) [1, 2] (.seq (.seq (.region false [oo 5 (.load true 1 (.s 2)),oo 6 (.mov (.s 1)),oo 7 (.call 73 [(.s 5), (.s 6)]),oo 8 (.un .not (.s 7))]) [1, 2, 8] (.cond (.s 8) (.seq (
 .region false [oo 4 (.mov (.c (.int .i64 0)))]) [4] (.ret)) (.skip))) [1, 2] (.seq (.region false [oo 9 (.fieldAddr 0 (.s 2)),oo 10 (.load false 1 (.s 9)),oo 11 (.mov (.s 1)),oo 12 (.indexAddr 3 (.s 10) (.s 11)),oo 13 (.fieldAddr 2 (.s 12)),oo 14 (.load false 1 (.s 13)),oo 15 (.len (.s 14)),
 oo 16 (.call 74 [(.s 15)]),oo 17 (.bin .sub false (.s 16) (.c (.int .i64 1))),oo 4 (.mov (.s 17))]) [4] (.ret)))⟩
def tf53 : TFn := ⟨15, [.tmp 6],.seq (.region false [oo 3 (.box 26 (.s 0)),oo 6 (.mov (.c (.int .i64 0)))]) [1, 2, 3] (.seq (.seq (.region false [oo 7 (.load true 1 (.s 3)),oo 8 (.mov (.s 2)),oo 9 (.call 52 [(.s 7), (.s 8)]),oo 10 (.bin .eql false (.s 9) (.c (.int .i64 0)))]) [1, 2, 3, 10] (
 .cond (.s 10) (.seq (.region false [oo 6 (.mov (.c (.int .i64 0)))]) [6] (.ret)) (.skip))) [1, 2, 3] (.seq (.region false [oo 11 (.load true 1 (.s 3)),oo 12 (.mov (.s 1)),oo 13 (.mov (.s 2)),oo 14 (.call 75 [(.s 11), (.s 12), (.s 13)]),oo 6 (.mov (.s 14))]) [6] (.ret)))⟩
def tf54 : TFn := ⟨14, [.tmp 4],.seq (.region false [oo 3 (.box 42 (.s 1)),oo 4 (.mov (.c (.fsl [])))]) [0, 3] (.seq (.region true [oo 5 (.mov (.s 0)),oo 6 (.mov (.s 0)),oo 7 (.len (.s 6)),oo 8 (.mov (.s 0)),oo 9 (.len (.s 8)),oo 10 (.slice 4 (.s 5) none (some (.s 7)) (some (.s 9))),
 oo 11 (.load true 4 (.s 3)),oo 12 (.buildSlice 4 42 [(.s 11)]),oo 13 (.append 4 42 32 (.s 10) (.s 12)),oo 4 (.mov (.s 13))]) [4] (.ret))⟩
def tf55 : TFn := ⟨13, [.tmp 2],.seq (.region false [oo 2 (.mov (.c (.int .i64 0)))]) [0] (.seq (.seq (.region false [oo 3 (.mov (.s 0)),oo 4 (.len (.s 3)),oo 5 (.bin .eql false (.s 4) (.c (.int .i64 0)))]) [0, 5] (.cond (.s 5) (.seq (.region false [oo 2 (.mov (.c (.int .i64 0)))]) [2] (.ret)) (
 .skip))) [0] (.seq (.region false [oo 6 (.mov (.s 0)),oo 7 (.mov (.s 0)),oo 8 (.len (.s 7)),oo 9 (.bin .sub false (.s 8) (.c (.int .i64 1))),oo 10 (.indexAddr 4 (.s 6) (.s 9)),oo 11 (.fieldAddr 2 (.s 10)),oo 12 (.load false 1 (.s 11)),oo 2 (.mov (.s 12))]) [2] (.ret)))⟩
def tf56 : TFn := ⟨5, [.tmp 0],.seq (.region false [oo 0 (.mov (.c (.fsl [])))]) [] (.seq (.region false [oo 1 (.call 61 []),oo 2 (.call 63 []),
 oo 3 (.build [(.int .i64 0), (.int .i64 0), (.int .i64 0), (.int .i64 0), (.str []), (.str []), (.bool false), (.int .i64 0), (.int .i64 0), (.int .i64 0), (.int .i64 0), (.str []), (.str []), (.bool false)] [(0, 7, (.s 1)), (7, 7, (.s 2))]),oo 4 (.buildSlice 14 95 [(.s 3)]),
 oo 0 (.mov (.s 4))]) [0] (.ret))⟩
def tf57 : TFn := ⟨9, [.tmp 2],.seq (.region false [oo 2 (.mov (.c (.bool false)))]) [0] (.seq (.region false [oo 3 (.mov (.s 0)),oo 4 (.bin .geq false (.s 3) (.c (.int .i64 0))),oo 5 (.mov (.s 4)),⟨some 6, .mov (.s 0), (some (5, true))⟩,
 ⟨some 7, .bin .leq false (.s 6) (.c (.int .i64 9999)), (some (5, true))⟩,oo 8 (.pick (.s 5) (.s 7) (.c (.bool false))),oo 2 (.mov (.s 8))]) [2] (.ret))⟩
def tf58 : TFn := ⟨48, [.tmp 4],.seq (.region false [oo 4 (.mov (.c (.bool false)))]) [0, 1] (.seq (.seq (.region false [oo 9 (.mov (.s 0)),oo 10 (.bin .eql false (.s 9) (.c (.str [])))]) [0, 1, 10] (.cond (.s 10) (.seq (.region false [oo 4 (.mov (.c (.bool true)))]) [4] (.ret)) (.skip))) [0, 1] (
 .seq (.region false [oo 11 (.mov (.s 0)),oo 12 (.call 76 [(.s 11), (.c (.int .u8 46))]),oo 5 (.mov (.s 12))]) [1, 5] (.seq (.seq (.region false [oo 13 (.mov (.s 5)),oo 14 (.len (.s 13)),oo 15 (.bin .gtr false (.s 14) (.c (.int .i64 4)))]) [1, 5, 15] (.cond (.s 15) (.seq (
 .region false [oo 4 (.mov (.c (.bool false)))]) [4] (.ret)) (.skip))) [1, 5] (.seq (.seq (.region false [oo 6 (.mov (.c (.int .i64 0)))]) [1, 5, 6] (.block 0 (.loop (.seq (.seq (.region false [oo 16 (.mov (.s 6)),oo 17 (.mov (.s 5)),oo 18 (.len (.s 17)),
 oo 19 (.bin .lss false (.s 16) (.s 18))]) [1, 5, 6, 19] (.cond (.s 19) (.skip) (.exit 0))) [1, 5, 6] (.seq (.block 1 (.seq (.seq (.region false [oo 22 (.mov (.s 5)),oo 23 (.mov (.s 6)),oo 24 (.indexAddr 1 (.s 22) (.s 23)),oo 25 (.load false 1 (.s 24)),oo 26 (.call 77 [(.s 25)]),
 oo 27 (.un .not (.s 26))]) [1, 5, 6, 27] (.cond (.s 27) (.seq (.region false [oo 4 (.mov (.c (.bool false)))]) [4] (.ret)) (.skip))) [1, 5, 6] (.seq (.region false [oo 29 (.mov (.s 5)),oo 30 (.mov (.s 6)),oo 31 (.indexAddr 1 (.s 29) (.s 30)),oo 32 (.load false 1 (.s 31)),
 oo 33 (.call 78 [(.s 32)]),oo 28 (.mov (.s 33)),oo 34 (.extract 0 (.s 28)),oo 35 (.extract 1 (.s 28)),oo 7 (.mov (.s 34)),oo 8 (.mov (.s 35))]) [1, 5, 6, 8] (.seq (.region false [oo 36 (.mov (.s 1)),oo 37 (.mov (.s 36)),⟨some 38, .mov (.s 5), (some (37, true))⟩,
 ⟨some 39, .mov (.s 6), (some (37, true))⟩,⟨some 40, .indexAddr 1 (.s 38) (.s 39), (some (37, true))⟩,⟨some 41, .load false 1 (.s 40), (some (37, true))⟩,⟨some 42, .call 79 [(.s 41)], (some (37, true))⟩,oo 43 (.pick (.s 37) (.s 42) (.c (.bool false))),oo 44 (.mov (.s 43)),
 ⟨some 45, .mov (.s 8), (some (44, true))⟩,⟨some 46, .un .not (.s 45), (some (44, true))⟩,oo 47 (.pick (.s 44) (.s 46) (.c (.bool false)))]) [1, 5, 6, 47] (.cond (.s 47) (.seq (.region false [oo 4 (.mov (.c (.bool false)))]) [4] (.ret)) (.skip)))))) [1, 5, 6] (.region false [oo 20 (.mov (.s 6)),
 oo 21 (.bin .add false (.s 20) (.c (.int .i64 1))),oo 6 (.mov (.s 21))])))))) [] (.seq (.region false [oo 4 (.mov (.c (.bool true)))]) [4] (.ret))))))⟩
def tf59 : TFn := ⟨5, [.cell 2 true 5],.seq (.region false [oo 1 (.box 50 (.s 0)),oo 2 (.alloc 50 [(.int .i64 0), (.int .i64 0), (.int .i64 0), (.str []), (.str [])])]) [1, 2] (.seq (.region false [oo 3 (.fieldAddr 4 (.s 1)),⟨none, .store 1 (.s 3) (.c (.str [])), none⟩]) [1, 2] (.seq (
 .region false [oo 4 (.load true 5 (.s 1)),⟨none, .store 5 (.s 2) (.s 4), none⟩]) [2] (.ret)))⟩
def tf60 : TFn := ⟨16, [.tmp 2],.seq (.region false [oo 1 (.box 50 (.s 0)),oo 2 (.mov (.c (.bool false)))]) [1] (.seq (.region false [oo 3 (.fieldAddr 0 (.s 1)),oo 4 (.load false 1 (.s 3)),oo 5 (.bin .eql false (.s 4) (.c (.int .i64 0))),oo 6 (.mov (.s 5)),
 ⟨some 7, .fieldAddr 1 (.s 1), (some (6, true))⟩,⟨some 8, .load false 1 (.s 7), (some (6, true))⟩,⟨some 9, .bin .eql false (.s 8) (.c (.int .i64 0)), (some (6, true))⟩,oo 10 (.pick (.s 6) (.s 9) (.c (.bool false))),oo 11 (.mov (.s 10)),⟨some 12, .fieldAddr 2 (.s 1), (some (11, true))⟩,
 ⟨some 13, .load false 1 (.s 12), (some (11, true))⟩,⟨some 14, .bin .eql false (.s 13) (.c (.int .i64 0)), (some (11, true))⟩,oo 15 (.pick (.s 11) (.s 14) (.c (.bool false))),oo 2 (.mov (.s 15))]) [2] (.ret))⟩
def tf61 : TFn := ⟨2, [.cell 0 true 7],.seq (.region false [oo 0 (.alloc 92 [(.int .i64 0), (.int .i64 0), (.int .i64 0), (.int .i64 0), (.str []), (.str []), (.bool false)])]) [0] (.seq (
 .region false [oo 1 (.build [(.int .i64 0), (.int .i64 0), (.int .i64 0), (.int .i64 0), (.str []), (.str []), (.bool false)] [(0, 1, (.c (.int .i64 (-1))))]),⟨none, .store 7 (.s 0) (.s 1), none⟩]) [0] (.ret))⟩
def tf62 : TFn := ⟨34, [.cell 2 true 5, .tmp 3],.seq (.region false [oo 1 (.box 50 (.s 0)),oo 2 (.alloc 50 [(.int .i64 0), (.int .i64 0), (.int .i64 0), (.str []), (.str [])]),oo 3 (.mov (.c (.bool false)))]) [1, 2] (.seq (.seq (.region false [oo 7 (.load true 5 (.s 1)),oo 8 (.call 35 [(.s 7)]),
 oo 9 (.un .not (.s 8))]) [1, 2, 9] (.cond (.s 9) (.seq (.region false [oo 10 (.build [(.int .i64 0), (.int .i64 0), (.int .i64 0), (.str []), (.str [])] []),⟨none, .store 5 (.s 2) (.s 10), none⟩,oo 3 (.mov (.c (.bool false)))]) [2, 3] (.ret)) (.skip))) [1, 2] (.seq (.seq (
 .region false [oo 11 (.fieldAddr 3 (.s 1)),oo 12 (.load false 1 (.s 11)),oo 13 (.bin .neq false (.s 12) (.c (.str [])))]) [1, 2, 13] (.cond (.s 13) (.seq (.region false [oo 14 (.fieldAddr 0 (.s 1)),oo 15 (.load false 1 (.s 14)),oo 16 (.fieldAddr 1 (.s 1)),oo 17 (.load false 1 (.s 16)),
 oo 18 (.fieldAddr 2 (.s 1)),oo 19 (.load false 1 (.s 18)),oo 20 (.build [(.int .i64 0), (.int .i64 0), (.int .i64 0), (.str []), (.str [])] [(0, 1, (.s 15)), (1, 1, (.s 17)), (2, 1, (.s 19))]),⟨none, .store 5 (.s 2) (.s 20), none⟩,oo 3 (.mov (.c (.bool true)))]) [2, 3] (.ret)) (.skip))) [1, 2] (
 .seq (.seq (.region false [oo 4 (.mov (.c (.int .i64 2)))]) [1, 2, 4] (.block 0 (.loop (.seq (.seq (.region false [oo 21 (.mov (.s 4)),oo 22 (.bin .geq false (.s 21) (.c (.int .i64 0)))]) [1, 2, 4, 22] (.cond (.s 22) (.skip) (.exit 0))) [1, 2, 4] (.seq (.block 1 (.seq (
 .region false [oo 26 (.load true 5 (.s 1)),oo 27 (.mov (.s 4)),oo 28 (.call 80 [(.s 26), (.s 27)]),oo 25 (.mov (.s 28)),oo 29 (.extract 0 (.s 25)),oo 30 (.extract 1 (.s 25)),oo 5 (.alloc 50 [(.int .i64 0), (.int .i64 0), (.int .i64 0), (.str []), (.str [])]),⟨none, .store 5 (.s 5) (.s 29), none⟩,
 oo 6 (.mov (.s 30))]) [1, 2, 4, 5, 6] (.seq (.region false [oo 31 (.mov (.s 6))]) [1, 2, 4, 5, 31] (.cond (.s 31) (.seq (.region false [oo 32 (.load true 5 (.s 5)),⟨none, .store 5 (.s 2) (.s 32), none⟩,oo 3 (.mov (.c (.bool true)))]) [2, 3] (.ret)) (.skip))))) [1, 2, 4] (
 .region false [oo 23 (.mov (.s 4)),oo 24 (.bin .sub false (.s 23) (.c (.int .i64 1))),oo 4 (.mov (.s 24))])))))) [2] (.seq (.region false [oo 33 (.build [(.int .i64 0), (.int .i64 0), (.int .i64 0), (.str []), (.str [])] []),⟨none, .store 5 (.s 2) (.s 33), none⟩,
 oo 3 (.mov (.c (.bool false)))]) [2, 3] (.ret)))))⟩
def tf63 : TFn := ⟨2, [.cell 0 true 7],.seq (.region false [oo 0 (.alloc 92 [(.int .i64 0), (.int .i64 0), (.int .i64 0), (.int .i64 0), (.str []), (.str []), (.bool false)])]) [0] (.seq (
 .region false [oo 1 (.build [(.int .i64 0), (.int .i64 0), (.int .i64 0), (.int .i64 0), (.str []), (.str []), (.bool false)] [(0, 1, (.c (.int .i64 1)))]),⟨none, .store 7 (.s 0) (.s 1), none⟩]) [0] (.ret))⟩
def tf64 : TFn := ⟨25, [.cell 4 true 2],.seq (.region false [oo 2 (.box 60 (.s 0)),oo 3 (.box 60 (.s 1)),oo 4 (.alloc 60 [(.fsl []), (.fsl [])])]) [2, 3, 4] (.seq (.seq (.region false [oo 5 (.load true 2 (.s 2)),oo 6 (.call 81 [(.s 5)]),oo 7 (.un .not (.s 6)),oo 8 (.mov (.s 7)),
 ⟨some 9, .load true 2 (.s 3), (some (8, false))⟩,⟨some 10, .call 81 [(.s 9)], (some (8, false))⟩,⟨some 11, .un .not (.s 10), (some (8, false))⟩,oo 12 (.pick (.s 8) (.c (.bool true)) (.s 11))]) [2, 3, 4, 12] (.cond (.s 12) (.seq (.region false [oo 13 (.call 36 []),
 ⟨none, .store 2 (.s 4) (.s 13), none⟩]) [4] (.ret)) (.skip))) [2, 3, 4] (.seq (.region true [oo 14 (.fieldAddr 0 (.s 2)),oo 15 (.load false 1 (.s 14)),oo 16 (.fieldAddr 0 (.s 3)),oo 17 (.load false 1 (.s 16)),oo 18 (.call 82 [(.s 15), (.s 17)]),oo 19 (.fieldAddr 1 (.s 2)),
 oo 20 (.load false 1 (.s 19)),oo 21 (.fieldAddr 1 (.s 3)),oo 22 (.load false 1 (.s 21)),oo 23 (.call 82 [(.s 20), (.s 22)]),oo 24 (.build [(.fsl []), (.fsl [])] [(0, 1, (.s 18)), (1, 1, (.s 23))]),⟨none, .store 2 (.s 4) (.s 24), none⟩]) [4] (.ret)))⟩
def tf65 : TFn := ⟨14, [.cell 2 true 2],.seq (.region false [oo 1 (.box 60 (.s 0)),oo 2 (.alloc 60 [(.fsl []), (.fsl [])])]) [1, 2] (.seq (.seq (.region false [oo 3 (.load true 2 (.s 1)),oo 4 (.call 81 [(.s 3)]),oo 5 (.un .not (.s 4))]) [1, 2, 5] (.cond (.s 5) (.seq (
 .region false [oo 6 (.call 36 []),⟨none, .store 2 (.s 2) (.s 6), none⟩]) [2] (.ret)) (.skip))) [1, 2] (.seq (.region true [oo 7 (.fieldAddr 0 (.s 1)),oo 8 (.load false 1 (.s 7)),oo 9 (.call 83 [(.s 8)]),oo 10 (.fieldAddr 1 (.s 1)),oo 11 (.load false 1 (.s 10)),oo 12 (.call 83 [(.s 11)]),
 oo 13 (.build [(.fsl []), (.fsl [])] [(0, 1, (.s 9)), (1, 1, (.s 12))]),⟨none, .store 2 (.s 2) (.s 13), none⟩]) [2] (.ret)))⟩
def tf66 : TFn := ⟨12, [.tmp 2],.seq (.region false [oo 2 (.mov (.c (.int .i64 0)))]) [0] (.seq (.region false [oo 4 (.mov (.s 0)),oo 5 (.call 20 [(.s 4)]),oo 3 (.mov (.s 5))]) [3] (.seq (.seq (.region false [oo 6 (.mov (.s 3)),oo 7 (.len (.s 6)),
 oo 8 (.bin .neq false (.s 7) (.c (.int .i64 1)))]) [3, 8] (.cond (.s 8) (.seq (.region false [oo 2 (.mov (.c (.int .i64 (-1))))]) [2] (.ret)) (.skip))) [3] (.seq (.region false [oo 9 (.mov (.s 3)),oo 10 (.indexAddr 1 (.s 9) (.c (.int .i64 0))),oo 11 (.load false 1 (.s 10)),
 oo 2 (.mov (.s 11))]) [2] (.ret))))⟩
def tf67 : TFn := ⟨27, [.tmp 4],.seq (.region false [oo 4 (.mov (.c (.bool false)))]) [0, 1] (.seq (.seq (.region false [oo 5 (.mov (.c (.int .i64 0)))]) [0, 1, 5] (.block 0 (.loop (.seq (.seq (.region false [oo 6 (.mov (.s 5)),oo 7 (.mov (.s 0)),oo 8 (.len (.s 7)),
 oo 9 (.bin .lss false (.s 6) (.s 8))]) [0, 1, 5, 9] (.cond (.s 9) (.skip) (.exit 0))) [0, 1, 5] (.seq (.block 1 (.seq (.region false [oo 12 (.mov (.s 0)),oo 13 (.mov (.s 5)),oo 14 (.indexAddr 4 (.s 12) (.s 13)),oo 15 (.fieldAddr 0 (.s 14)),oo 16 (.load false 1 (.s 15)),oo 17 (.mov (.s 1)),
 oo 18 (.bin .eql false (.s 16) (.s 17)),oo 19 (.mov (.s 18)),⟨some 20, .mov (.s 0), (some (19, true))⟩,⟨some 21, .mov (.s 5), (some (19, true))⟩,⟨some 22, .indexAddr 4 (.s 20) (.s 21), (some (19, true))⟩,⟨some 23, .fieldAddr 3 (.s 22), (some (19, true))⟩,
 ⟨some 24, .load false 1 (.s 23), (some (19, true))⟩,⟨some 25, .bin .eql false (.s 24) (.c (.int .i64 (-1))), (some (19, true))⟩,oo 26 (.pick (.s 19) (.s 25) (.c (.bool false)))]) [0, 1, 5, 26] (.cond (.s 26) (.seq (.region false [oo 4 (.mov (.c (.bool true)))]) [4] (.ret)) (.skip)))) [0, 1, 5] (
 .region false [oo 10 (.mov (.s 5)),oo 11 (.bin .add false (.s 10) (.c (.int .i64 1))),oo 5 (.mov (.s 11))])))))) [] (.seq (.region false [oo 4 (.mov (.c (.bool false)))]) [4] (.ret)))⟩
def tf68 : TFn := ⟨50, [.tmp 4],.seq (.region false [oo 2 (.box 26 (.s 0)),oo 3 (.box 63 (.s 1)),oo 4 (.mov (.c (.int .i64 0)))]) [2, 3] (.seq (.seq (.region false [oo 8 (.fieldAddr 0 (.s 3)),oo 9 (.load false 1 (.s 8)),oo 10 (.bin .lss false (.s 9) (.c (.int .i64 0))),oo 11 (.mov (.s 10)),
 ⟨some 12, .fieldAddr 0 (.s 3), (some (11, false))⟩,⟨some 13, .load false 1 (.s 12), (some (11, false))⟩,⟨some 14, .fieldAddr 0 (.s 2), (some (11, false))⟩,⟨some 15, .load false 1 (.s 14), (some (11, false))⟩,⟨some 16, .len (.s 15), (some (11, false))⟩,
 ⟨some 17, .bin .geq false (.s 13) (.s 16), (some (11, false))⟩,oo 18 (.pick (.s 11) (.c (.bool true)) (.s 17))]) [2, 3, 18] (.cond (.s 18) (.seq (.region false [oo 4 (.mov (.c (.int .i64 0)))]) [4] (.ret)) (.skip))) [2, 3] (.seq (.region false [oo 5 (.mov (.c (.int .i64 0)))]) [2, 3, 5] (.seq (
 .region false [oo 19 (.fieldAddr 0 (.s 2)),oo 20 (.load false 1 (.s 19)),oo 21 (.fieldAddr 0 (.s 3)),oo 22 (.load false 1 (.s 21)),oo 23 (.indexAddr 3 (.s 20) (.s 22)),oo 24 (.fieldAddr 2 (.s 23)),oo 25 (.load false 1 (.s 24)),oo 6 (.mov (.s 25))]) [3, 5, 6] (.seq (.seq (
 .region false [oo 7 (.mov (.c (.int .i64 0)))]) [3, 5, 6, 7] (.block 0 (.loop (.seq (.seq (.region false [oo 26 (.mov (.s 7)),oo 27 (.mov (.s 6)),oo 28 (.len (.s 27)),oo 29 (.bin .lss false (.s 26) (.s 28)),oo 30 (.mov (.s 29)),⟨some 31, .mov (.s 7), (some (30, true))⟩,
 ⟨some 32, .bin .lss false (.s 31) (.c (.int .i64 16)), (some (30, true))⟩,oo 33 (.pick (.s 30) (.s 32) (.c (.bool false)))]) [3, 5, 6, 7, 33] (.cond (.s 33) (.skip) (.exit 0))) [3, 5, 6, 7] (.seq (.block 1 (.seq (.region true [oo 36 (.fieldAddr 1 (.s 3)),oo 37 (.load true 2 (.s 36)),
 oo 38 (.mov (.s 6)),oo 39 (.mov (.s 7)),oo 40 (.indexAddr 8 (.s 38) (.s 39)),oo 41 (.fieldAddr 0 (.s 40)),oo 42 (.load true 5 (.s 41)),oo 43 (.call 84 [(.s 37), (.s 42)])]) [3, 5, 6, 7, 43] (.cond (.s 43) (.region false [oo 44 (.mov (.s 5)),oo 45 (.mov (.s 7)),
 oo 46 (.bin .add false (.s 45) (.c (.int .i64 1))),oo 47 (.call 43 [(.s 46)]),oo 48 (.bin .add false (.s 44) (.s 47)),oo 5 (.mov (.s 48))]) (.skip)))) [3, 5, 6, 7] (.region false [oo 34 (.mov (.s 7)),oo 35 (.bin .add false (.s 34) (.c (.int .i64 1))),oo 7 (.mov (.s 35))])))))) [5] (.seq (
 .region false [oo 49 (.mov (.s 5)),oo 4 (.mov (.s 49))]) [4] (.ret))))))⟩
def tf69 : TFn := ⟨26, [.tmp 4],.seq (.region false [oo 4 (.mov (.c (.bool false)))]) [0, 1] (.seq (.seq (.region false [oo 6 (.mov (.s 0)),oo 7 (.len (.s 6)),oo 8 (.mov (.s 1)),oo 9 (.len (.s 8)),oo 10 (.bin .neq false (.s 7) (.s 9))]) [0, 1, 10] (.cond (.s 10) (.seq (
 .region false [oo 4 (.mov (.c (.bool false)))]) [4] (.ret)) (.skip))) [0, 1] (.seq (.seq (.region false [oo 5 (.mov (.c (.int .i64 0)))]) [0, 1, 5] (.block 0 (.loop (.seq (.seq (.region false [oo 11 (.mov (.s 5)),oo 12 (.mov (.s 0)),oo 13 (.len (.s 12)),
 oo 14 (.bin .lss false (.s 11) (.s 13))]) [0, 1, 5, 14] (.cond (.s 14) (.skip) (.exit 0))) [0, 1, 5] (.seq (.block 1 (.seq (.region true [oo 17 (.mov (.s 0)),oo 18 (.mov (.s 5)),oo 19 (.indexAddr 2 (.s 17) (.s 18)),oo 20 (.load true 2 (.s 19)),oo 21 (.mov (.s 1)),oo 22 (.mov (.s 5)),
 oo 23 (.indexAddr 2 (.s 21) (.s 22)),oo 24 (.load true 2 (.s 23)),oo 25 (.eqs true [0, 0] (.s 20) (.s 24))]) [0, 1, 5, 25] (.cond (.s 25) (.seq (.region false [oo 4 (.mov (.c (.bool false)))]) [4] (.ret)) (.skip)))) [0, 1, 5] (.region false [oo 15 (.mov (.s 5)),
 oo 16 (.bin .add false (.s 15) (.c (.int .i64 1))),oo 5 (.mov (.s 16))])))))) [] (.seq (.region false [oo 4 (.mov (.c (.bool true)))]) [4] (.ret))))⟩
def tf70 : TFn := ⟨28, [.tmp 4],.seq (.region false [oo 4 (.mov (.c (.fsl [])))]) [0, 1] (.seq (.region false [oo 5 (.mov (.c (.fsl [])))]) [0, 1, 5] (.seq (.seq (.region false [oo 6 (.mov (.c (.int .i64 0)))]) [0, 1, 5, 6] (.block 0 (.loop (.seq (.seq (.region false [oo 7 (.mov (.s 6)),
 oo 8 (.mov (.s 0)),oo 9 (.len (.s 8)),oo 10 (.bin .lss false (.s 7) (.s 9))]) [0, 1, 5, 6, 10] (.cond (.s 10) (.skip) (.exit 0))) [0, 1, 5, 6] (.seq (.block 1 (.seq (.region false [oo 13 (.mov (.s 0)),oo 14 (.mov (.s 6)),oo 15 (.indexAddr 2 (.s 13) (.s 14)),oo 16 (.fieldAddr 0 (.s 15)),
 oo 17 (.load false 1 (.s 16)),oo 18 (.mov (.s 1)),oo 19 (.bin .neq false (.s 17) (.s 18))]) [0, 1, 5, 6, 19] (.cond (.s 19) (.region false [oo 20 (.mov (.s 5)),oo 21 (.mov (.s 0)),oo 22 (.mov (.s 6)),oo 23 (.indexAddr 2 (.s 21) (.s 22)),oo 24 (.load true 2 (.s 23)),
 oo 25 (.buildSlice 2 78 [(.s 24)]),oo 26 (.append 2 78 16 (.s 20) (.s 25)),oo 5 (.mov (.s 26))]) (.skip)))) [0, 1, 5, 6] (.region false [oo 11 (.mov (.s 6)),oo 12 (.bin .add false (.s 11) (.c (.int .i64 1))),oo 6 (.mov (.s 12))])))))) [5] (.seq (.region false [oo 27 (.mov (.s 5)),
 oo 4 (.mov (.s 27))]) [4] (.ret))))⟩
def tf71 : TFn := ⟨31, [.tmp 2],.seq (.region false [oo 2 (.mov (.c (.fsl [])))]) [0] (.seq (.region false [oo 3 (.mov (.c (.fsl [])))]) [0, 3] (.seq (.seq (.region false [oo 4 (.mov (.c (.int .i64 0)))]) [0, 3, 4] (.block 0 (.loop (.seq (.seq (.region false [oo 6 (.mov (.s 4)),
 oo 7 (.bin .lss false (.s 6) (.c (.int .i64 48)))]) [0, 3, 4, 7] (.cond (.s 7) (.skip) (.exit 0))) [0, 3, 4] (.seq (.block 1 (.seq (.region false [oo 5 (.mov (.c (.int .i64 0)))]) [0, 3, 4, 5] (.block 2 (.loop (.seq (.seq (.region false [oo 10 (.mov (.s 5)),oo 11 (.mov (.s 0)),
 oo 12 (.len (.s 11)),oo 13 (.bin .lss false (.s 10) (.s 12))]) [0, 3, 4, 5, 13] (.cond (.s 13) (.skip) (.exit 2))) [0, 3, 4, 5] (.seq (.block 3 (.seq (.region false [oo 16 (.mov (.s 0)),oo 17 (.mov (.s 5)),oo 18 (.indexAddr 2 (.s 16) (.s 17)),oo 19 (.fieldAddr 0 (.s 18)),
 oo 20 (.load false 1 (.s 19)),oo 21 (.mov (.s 4)),oo 22 (.bin .eql false (.s 20) (.s 21))]) [0, 3, 4, 5, 22] (.cond (.s 22) (.region false [oo 23 (.mov (.s 3)),oo 24 (.mov (.s 0)),oo 25 (.mov (.s 5)),oo 26 (.indexAddr 2 (.s 24) (.s 25)),oo 27 (.load true 2 (.s 26)),
 oo 28 (.buildSlice 2 78 [(.s 27)]),oo 29 (.append 2 78 16 (.s 23) (.s 28)),oo 3 (.mov (.s 29))]) (.skip)))) [0, 3, 4, 5] (.region false [oo 14 (.mov (.s 5)),oo 15 (.bin .add false (.s 14) (.c (.int .i64 1))),oo 5 (.mov (.s 15))]))))))) [0, 3, 4] (.region false [oo 8 (.mov (.s 4)),
 oo 9 (.bin .add false (.s 8) (.c (.int .i64 1))),oo 4 (.mov (.s 9))])))))) [3] (.seq (.region false [oo 30 (.mov (.s 3)),oo 2 (.mov (.s 30))]) [2] (.ret))))⟩
def tf72 : TFn := ⟨15, [.tmp 4],.seq (.region false [oo 4 (.mov (.c (.int .i64 0)))]) [0, 1] (.seq (.block 0 (.seq (.region false [oo 6 (.mov (.s 0)),oo 7 (.mov (.s 1)),oo 8 (.bin .andNot false (.s 6) (.s 7)),oo 9 (.bin .eql false (.s 8) (.c (.int .i64 0))),oo 5 (.mov (.s 9))]) [0, 1, 5] (
 .cond (.s 5) (.seq (.region false [oo 4 (.mov (.c (.int .i64 2)))]) [4] (.ret)) (.seq (.region false [oo 11 (.mov (.s 0)),oo 12 (.mov (.s 1)),oo 13 (.bin .and false (.s 11) (.s 12)),oo 14 (.bin .eql false (.s 13) (.c (.int .i64 0))),oo 10 (.mov (.s 14))]) [10] (.cond (.s 10) (.seq (
 .region false [oo 4 (.mov (.c (.int .i64 0)))]) [4] (.ret)) (.skip)))))) [] (.seq (.region false [oo 4 (.mov (.c (.int .i64 1)))]) [4] (.ret)))⟩
def tf73 : TFn := ⟨14, [.tmp 4],.seq (.region false [oo 2 (.box 26 (.s 0)),oo 4 (.mov (.c (.bool false)))]) [1, 2] (.seq (.region false [oo 5 (.mov (.s 1)),oo 6 (.bin .geq false (.s 5) (.c (.int .i64 0))),oo 7 (.mov (.s 6)),⟨some 8, .mov (.s 1), (some (7, true))⟩,
 ⟨some 9, .fieldAddr 0 (.s 2), (some (7, true))⟩,⟨some 10, .load false 1 (.s 9), (some (7, true))⟩,⟨some 11, .len (.s 10), (some (7, true))⟩,⟨some 12, .bin .lss false (.s 8) (.s 11), (some (7, true))⟩,oo 13 (.pick (.s 7) (.s 12) (.c (.bool false))),oo 4 (.mov (.s 13))]) [4] (.ret))⟩
def tf74 : TFn := ⟨6, [.tmp 2],.seq (.region false [oo 2 (.mov (.c (.int .i64 0)))]) [0] (.seq (.region false [oo 3 (.mov (.s 0)),oo 4 (.bin .add false (.s 3) (.c (.int .i64 1))),oo 5 (.bin .shl false (.c (.int .i64 1)) (.s 4)),oo 2 (.mov (.s 5))]) [2] (.ret))⟩
def tf75 : TFn := ⟨30, [.tmp 6],.seq (.region false [oo 3 (.box 26 (.s 0)),oo 6 (.mov (.c (.int .i64 0)))]) [1, 2, 3] (.seq (.seq (.region false [oo 8 (.mov (.s 1)),oo 9 (.len (.s 8)),oo 10 (.bin .sub false (.s 9) (.c (.int .i64 1))),oo 7 (.mov (.s 10))]) [1, 2, 3, 7] (.block 0 (.loop (.seq (.seq (
 .region false [oo 11 (.mov (.s 7)),oo 12 (.bin .geq false (.s 11) (.c (.int .i64 0)))]) [1, 2, 3, 7, 12] (.cond (.s 12) (.skip) (.exit 0))) [1, 2, 3, 7] (.seq (.block 1 (.seq (.region false [oo 15 (.mov (.s 1)),oo 16 (.mov (.s 7)),oo 17 (.indexAddr 4 (.s 15) (.s 16)),oo 18 (.fieldAddr 0 (.s 17)),
 oo 19 (.load false 1 (.s 18)),oo 20 (.mov (.s 2)),oo 21 (.bin .eql false (.s 19) (.s 20))]) [1, 2, 3, 7, 21] (.cond (.s 21) (.seq (.region false [oo 22 (.mov (.s 1)),oo 23 (.mov (.s 7)),oo 24 (.indexAddr 4 (.s 22) (.s 23)),oo 25 (.fieldAddr 1 (.s 24)),oo 26 (.load false 1 (.s 25)),
 oo 6 (.mov (.s 26))]) [6] (.ret)) (.skip)))) [1, 2, 3, 7] (.region false [oo 13 (.mov (.s 7)),oo 14 (.bin .sub false (.s 13) (.c (.int .i64 1))),oo 7 (.mov (.s 14))])))))) [2, 3] (.seq (.region false [oo 27 (.load true 1 (.s 3)),oo 28 (.mov (.s 2)),oo 29 (.call 52 [(.s 27), (.s 28)]),
 oo 6 (.mov (.s 29))]) [6] (.ret)))⟩
def tf76 : TFn := ⟨34, [.tmp 4],.seq (.region false [oo 4 (.mov (.c (.fsl [])))]) [0, 1] (.seq (.region false [oo 5 (.mov (.c (.fsl [])))]) [0, 1, 5] (.seq (.region false [oo 6 (.mov (.c (.int .i64 0)))]) [0, 1, 5, 6] (.seq (.seq (.region false [oo 7 (.mov (.c (.int .i64 0)))]) [0, 1, 5, 6, 7] (
 .block 0 (.loop (.seq (.seq (.region false [oo 8 (.mov (.s 7)),oo 9 (.mov (.s 0)),oo 10 (.lenStr (.s 9)),oo 11 (.bin .lss false (.s 8) (.s 10))]) [0, 1, 5, 6, 7, 11] (.cond (.s 11) (.skip) (.exit 0))) [0, 1, 5, 6, 7] (.seq (.block 1 (.seq (.region false [oo 14 (.mov (.s 0)),oo 15 (.mov (.s 7)),
 oo 16 (.indexStr (.s 14) (.s 15)),oo 17 (.mov (.s 1)),oo 18 (.bin .eql false (.s 16) (.s 17))]) [0, 1, 5, 6, 7, 18] (.cond (.s 18) (.seq (.region false [oo 19 (.mov (.s 5)),oo 20 (.mov (.s 0)),oo 21 (.mov (.s 6)),oo 22 (.mov (.s 7)),oo 23 (.sliceStr (.s 20) (some (.s 21)) (some (.s 22))),
 oo 24 (.buildSlice 1 9 [(.s 23)]),oo 25 (.append 1 9 16 (.s 19) (.s 24)),oo 5 (.mov (.s 25))]) [0, 1, 5, 7] (.region false [oo 26 (.mov (.s 7)),oo 27 (.bin .add false (.s 26) (.c (.int .i64 1))),oo 6 (.mov (.s 27))])) (.skip)))) [0, 1, 5, 6, 7] (.region false [oo 12 (.mov (.s 7)),
 oo 13 (.bin .add false (.s 12) (.c (.int .i64 1))),oo 7 (.mov (.s 13))])))))) [0, 5, 6] (.seq (.region false [oo 28 (.mov (.s 5)),oo 29 (.mov (.s 0)),oo 30 (.mov (.s 6)),oo 31 (.sliceStr (.s 29) (some (.s 30)) none),oo 32 (.buildSlice 1 9 [(.s 31)]),oo 33 (.append 1 9 16 (.s 28) (.s 32)),
 oo 4 (.mov (.s 33))]) [4] (.ret)))))⟩
def tf77 : TFn := ⟨40, [.tmp 2],.seq (.region false [oo 2 (.mov (.c (.bool false)))]) [0] (.seq (.seq (.region false [oo 5 (.mov (.s 0)),oo 6 (.lenStr (.s 5)),oo 7 (.bin .lss false (.s 6) (.c (.int .i64 1))),oo 8 (.mov (.s 7)),⟨some 9, .mov (.s 0), (some (8, false))⟩,
 ⟨some 10, .lenStr (.s 9), (some (8, false))⟩,⟨some 11, .bin .gtr false (.s 10) (.c (.int .i64 8)), (some (8, false))⟩,oo 12 (.pick (.s 8) (.c (.bool true)) (.s 11))]) [0, 12] (.cond (.s 12) (.seq (.region false [oo 2 (.mov (.c (.bool false)))]) [2] (.ret)) (.skip))) [0] (.seq (.seq (
 .region false [oo 3 (.mov (.c (.int .i64 0)))]) [0, 3] (.block 0 (.loop (.seq (.seq (.region false [oo 13 (.mov (.s 3)),oo 14 (.mov (.s 0)),oo 15 (.lenStr (.s 14)),oo 16 (.bin .lss false (.s 13) (.s 15))]) [0, 3, 16] (.cond (.s 16) (.skip) (.exit 0))) [0, 3] (.seq (.block 1 (.seq (
 .region false [oo 19 (.mov (.s 0)),oo 20 (.mov (.s 3)),oo 21 (.indexStr (.s 19) (.s 20)),oo 4 (.mov (.s 21))]) [0, 3, 4] (.seq (.region false [oo 22 (.mov (.s 4)),oo 23 (.bin .lss false (.s 22) (.c (.int .u8 97))),oo 24 (.mov (.s 23)),⟨some 25, .mov (.s 4), (some (24, false))⟩,
 ⟨some 26, .bin .gtr false (.s 25) (.c (.int .u8 122)), (some (24, false))⟩,oo 27 (.pick (.s 24) (.c (.bool true)) (.s 26)),oo 28 (.mov (.s 27)),⟨some 29, .mov (.s 4), (some (28, true))⟩,⟨some 30, .bin .lss false (.s 29) (.c (.int .u8 48)), (some (28, true))⟩,
 ⟨some 31, .mov (.s 30), (some (28, true))⟩,⟨some 32, .mov (.s 4), (some (31, false))⟩,⟨some 33, .bin .gtr false (.s 32) (.c (.int .u8 57)), (some (31, false))⟩,⟨some 34, .pick (.s 31) (.c (.bool true)) (.s 33), (some (28, true))⟩,oo 35 (.pick (.s 28) (.s 34) (.c (.bool false))),
 oo 36 (.mov (.s 35)),⟨some 37, .mov (.s 4), (some (36, true))⟩,⟨some 38, .bin .neq false (.s 37) (.c (.int .u8 45)), (some (36, true))⟩,oo 39 (.pick (.s 36) (.s 38) (.c (.bool false)))]) [0, 3, 39] (.cond (.s 39) (.seq (.region false [oo 2 (.mov (.c (.bool false)))]) [2] (.ret)) (
 .skip))))) [0, 3] (.region false [oo 17 (.mov (.s 3)),oo 18 (.bin .add false (.s 17) (.c (.int .i64 1))),oo 3 (.mov (.s 18))])))))) [] (.seq (.region false [oo 2 (.mov (.c (.bool true)))]) [2] (.ret))))⟩
def tf78 : TFn := ⟨46, [.tmp 2, .tmp 3],.seq (.region false [oo 2 (.mov (.c (.int .i64 0))),oo 3 (.mov (.c (.bool false)))]) [0] (.seq (.seq (.region false [oo 6 (.mov (.s 0)),oo 7 (.lenStr (.s 6)),oo 8 (.bin .lss false (.s 7) (.c (.int .i64 1))),oo 9 (.mov (.s 8)),
 ⟨some 10, .mov (.s 0), (some (9, false))⟩,⟨some 11, .lenStr (.s 10), (some (9, false))⟩,⟨some 12, .bin .gtr false (.s 11) (.c (.int .i64 9)), (some (9, false))⟩,oo 13 (.pick (.s 9) (.c (.bool true)) (.s 12)),oo 14 (.mov (.s 13)),⟨some 15, .mov (.s 0), (some (14, false))⟩,
 ⟨some 16, .lenStr (.s 15), (some (14, false))⟩,⟨some 17, .bin .gtr false (.s 16) (.c (.int .i64 1)), (some (14, false))⟩,⟨some 18, .mov (.s 17), (some (14, false))⟩,⟨some 19, .mov (.s 0), (some (18, true))⟩,⟨some 20, .indexStr (.s 19) (.c (.int .i64 0)), (some (18, true))⟩,
 ⟨some 21, .bin .eql false (.s 20) (.c (.int .u8 48)), (some (18, true))⟩,⟨some 22, .pick (.s 18) (.s 21) (.c (.bool false)), (some (14, false))⟩,oo 23 (.pick (.s 14) (.c (.bool true)) (.s 22))]) [0, 23] (.cond (.s 23) (.seq (.region false [oo 2 (.mov (.c (.int .i64 0))),
 oo 3 (.mov (.c (.bool false)))]) [2, 3] (.ret)) (.skip))) [0] (.seq (.region false [oo 4 (.mov (.c (.int .i64 0)))]) [0, 4] (.seq (.seq (.region false [oo 5 (.mov (.c (.int .i64 0)))]) [0, 4, 5] (.block 0 (.loop (.seq (.seq (.region false [oo 24 (.mov (.s 5)),oo 25 (.mov (.s 0)),
 oo 26 (.lenStr (.s 25)),oo 27 (.bin .lss false (.s 24) (.s 26))]) [0, 4, 5, 27] (.cond (.s 27) (.skip) (.exit 0))) [0, 4, 5] (.seq (.block 1 (.seq (.seq (.region false [oo 30 (.mov (.s 0)),oo 31 (.mov (.s 5)),oo 32 (.indexStr (.s 30) (.s 31)),oo 33 (.call 85 [(.s 32)]),
 oo 34 (.un .not (.s 33))]) [0, 4, 5, 34] (.cond (.s 34) (.seq (.region false [oo 2 (.mov (.c (.int .i64 0))),oo 3 (.mov (.c (.bool false)))]) [2, 3] (.ret)) (.skip))) [0, 4, 5] (.region false [oo 35 (.mov (.s 4)),oo 36 (.bin .mul false (.s 35) (.c (.int .i64 10))),oo 37 (.mov (.s 0)),
 oo 38 (.mov (.s 5)),oo 39 (.indexStr (.s 37) (.s 38)),oo 40 (.bin .sub false (.s 39) (.c (.int .u8 48))),oo 41 (.conv .i64 (.s 40)),oo 42 (.bin .add false (.s 36) (.s 41)),oo 4 (.mov (.s 42))]))) [0, 4, 5] (.region false [oo 28 (.mov (.s 5)),oo 29 (.bin .add false (.s 28) (.c (.int .i64 1))),
 oo 5 (.mov (.s 29))])))))) [4] (.seq (.seq (.region false [oo 43 (.mov (.s 4)),oo 44 (.bin .gtr false (.s 43) (.c (.int .i64 9999)))]) [4, 44] (.cond (.s 44) (.seq (.region false [oo 2 (.mov (.c (.int .i64 0))),oo 3 (.mov (.c (.bool false)))]) [2, 3] (.ret)) (.skip))) [4] (.seq (
 .region false [oo 45 (.mov (.s 4)),oo 2 (.mov (.s 45)),oo 3 (.mov (.c (.bool true)))]) [2, 3] (.ret))))))⟩
def tf79 : TFn := ⟨23, [.tmp 2],.seq (.region false [oo 2 (.mov (.c (.bool false)))]) [0] (.seq (.seq (.region false [oo 3 (.mov (.c (.int .i64 0)))]) [0, 3] (.block 0 (.loop (.seq (.seq (.region false [oo 4 (.mov (.s 3)),oo 5 (.mov (.s 0)),oo 6 (.lenStr (.s 5)),
 oo 7 (.bin .lss false (.s 4) (.s 6))]) [0, 3, 7] (.cond (.s 7) (.skip) (.exit 0))) [0, 3] (.seq (.block 1 (.seq (.region false [oo 10 (.mov (.s 0)),oo 11 (.mov (.s 3)),oo 12 (.indexStr (.s 10) (.s 11)),oo 13 (.bin .lss false (.s 12) (.c (.int .u8 48))),oo 14 (.mov (.s 13)),
 ⟨some 15, .mov (.s 0), (some (14, false))⟩,⟨some 16, .mov (.s 3), (some (14, false))⟩,⟨some 17, .indexStr (.s 15) (.s 16), (some (14, false))⟩,⟨some 18, .bin .gtr false (.s 17) (.c (.int .u8 57)), (some (14, false))⟩,oo 19 (.pick (.s 14) (.c (.bool true)) (.s 18))]) [0, 3, 19] (.cond (.s 19) (
 .seq (.region false [oo 2 (.mov (.c (.bool false)))]) [2] (.ret)) (.skip)))) [0, 3] (.region false [oo 8 (.mov (.s 3)),oo 9 (.bin .add false (.s 8) (.c (.int .i64 1))),oo 3 (.mov (.s 9))])))))) [0] (.seq (.region false [oo 20 (.mov (.s 0)),oo 21 (.lenStr (.s 20)),
 oo 22 (.bin .gtr false (.s 21) (.c (.int .i64 0))),oo 2 (.mov (.s 22))]) [2] (.ret)))⟩
def tf80 : TFn := ⟨47, [.cell 4 true 5, .tmp 5],.seq (.region false [oo 2 (.box 50 (.s 0)),oo 4 (.alloc 50 [(.int .i64 0), (.int .i64 0), (.int .i64 0), (.str []), (.str [])]),oo 5 (.mov (.c (.bool false)))]) [1, 2, 4] (.seq (.seq (.region false [oo 7 (.load true 5 (.s 2)),oo 8 (.call 35 [(.s 7)]),
 oo 9 (.un .not (.s 8)),oo 10 (.mov (.s 9)),⟨some 11, .mov (.s 1), (some (10, false))⟩,⟨some 12, .bin .lss false (.s 11) (.c (.int .i64 0)), (some (10, false))⟩,oo 13 (.pick (.s 10) (.c (.bool true)) (.s 12)),oo 14 (.mov (.s 13)),⟨some 15, .mov (.s 1), (some (14, false))⟩,
 ⟨some 16, .bin .gtr false (.s 15) (.c (.int .i64 2)), (some (14, false))⟩,oo 17 (.pick (.s 14) (.c (.bool true)) (.s 16))]) [1, 2, 4, 17] (.cond (.s 17) (.seq (.region false [oo 18 (.build [(.int .i64 0), (.int .i64 0), (.int .i64 0), (.str []), (.str [])] []),
 ⟨none, .store 5 (.s 4) (.s 18), none⟩,oo 5 (.mov (.c (.bool false)))]) [4, 5] (.ret)) (.skip))) [1, 2, 4] (.seq (.region false [oo 6 (.alloc 50 [(.int .i64 0), (.int .i64 0), (.int .i64 0), (.str []), (.str [])])]) [1, 2, 4, 6] (.seq (.seq (.region false [oo 19 (.mov (.s 1))]) [2, 4, 6, 19] (
 .block 0 (.seq (.region false [oo 29 (.bin .eql false (.s 19) (.c (.int .i64 0))),oo 28 (.mov (.s 29))]) [2, 4, 6, 19, 28] (.cond (.s 28) (.region false [oo 30 (.fieldAddr 0 (.s 2)),oo 31 (.load false 1 (.s 30)),oo 32 (.bin .add false (.s 31) (.c (.int .i64 1))),
 oo 33 (.build [(.int .i64 0), (.int .i64 0), (.int .i64 0), (.str []), (.str [])] [(0, 1, (.s 32))]),⟨none, .store 5 (.s 6) (.s 33), none⟩]) (.seq (.region false [oo 35 (.bin .eql false (.s 19) (.c (.int .i64 1))),oo 34 (.mov (.s 35))]) [2, 4, 6, 34] (.cond (.s 34) (
 .region false [oo 36 (.fieldAddr 0 (.s 2)),oo 37 (.load false 1 (.s 36)),oo 38 (.fieldAddr 1 (.s 2)),oo 39 (.load false 1 (.s 38)),oo 40 (.bin .add false (.s 39) (.c (.int .i64 1))),
 oo 41 (.build [(.int .i64 0), (.int .i64 0), (.int .i64 0), (.str []), (.str [])] [(0, 1, (.s 37)), (1, 1, (.s 40))]),⟨none, .store 5 (.s 6) (.s 41), none⟩]) (.region false [oo 20 (.fieldAddr 0 (.s 2)),oo 21 (.load false 1 (.s 20)),oo 22 (.fieldAddr 1 (.s 2)),oo 23 (.load false 1 (.s 22)),
 oo 24 (.fieldAddr 2 (.s 2)),oo 25 (.load false 1 (.s 24)),oo 26 (.bin .add false (.s 25) (.c (.int .i64 1))),oo 27 (.build [(.int .i64 0), (.int .i64 0), (.int .i64 0), (.str []), (.str [])] [(0, 1, (.s 21)), (1, 1, (.s 23)), (2, 1, (.s 26))]),⟨none, .store 5 (.s 6) (.s 27), none⟩]))))))) [4, 6] (
 .seq (.seq (.region false [oo 42 (.load true 5 (.s 6)),oo 43 (.call 35 [(.s 42)]),oo 44 (.un .not (.s 43))]) [4, 6, 44] (.cond (.s 44) (.seq (.region false [oo 45 (.build [(.int .i64 0), (.int .i64 0), (.int .i64 0), (.str []), (.str [])] []),⟨none, .store 5 (.s 4) (.s 45), none⟩,
 oo 5 (.mov (.c (.bool false)))]) [4, 5] (.ret)) (.skip))) [4, 6] (.seq (.region false [oo 46 (.load true 5 (.s 6)),⟨none, .store 5 (.s 4) (.s 46), none⟩,oo 5 (.mov (.c (.bool true)))]) [4, 5] (.ret))))))⟩
def tf81 : TFn := ⟨39, [.tmp 2],.seq (.region false [oo 1 (.box 60 (.s 0)),oo 2 (.mov (.c (.bool false)))]) [1] (.seq (.seq (.region false [oo 4 (.fieldAddr 0 (.s 1)),oo 5 (.load false 1 (.s 4)),oo 6 (.call 86 [(.s 5)]),oo 7 (.un .not (.s 6)),oo 8 (.mov (.s 7)),
 ⟨some 9, .fieldAddr 1 (.s 1), (some (8, false))⟩,⟨some 10, .load false 1 (.s 9), (some (8, false))⟩,⟨some 11, .call 86 [(.s 10)], (some (8, false))⟩,⟨some 12, .un .not (.s 11), (some (8, false))⟩,oo 13 (.pick (.s 8) (.c (.bool true)) (.s 12))]) [1, 13] (.cond (.s 13) (.seq (
 .region false [oo 2 (.mov (.c (.bool false)))]) [2] (.ret)) (.skip))) [1] (.seq (.seq (.region false [oo 3 (.mov (.c (.int .i64 0)))]) [1, 3] (.block 0 (.loop (.seq (.seq (.region false [oo 14 (.mov (.s 3)),oo 15 (.fieldAddr 0 (.s 1)),oo 16 (.load false 1 (.s 15)),oo 17 (.len (.s 16)),
 oo 18 (.bin .lss false (.s 14) (.s 17))]) [1, 3, 18] (.cond (.s 18) (.skip) (.exit 0))) [1, 3] (.seq (.block 1 (.seq (.region false [oo 21 (.fieldAddr 0 (.s 1)),oo 22 (.load false 1 (.s 21)),oo 23 (.mov (.s 3)),oo 24 (.indexAddr 14 (.s 22) (.s 23)),oo 25 (.fieldAddr 0 (.s 24)),
 oo 26 (.load true 7 (.s 25)),oo 27 (.call 87 [(.s 26)]),oo 28 (.un .not (.s 27)),oo 29 (.mov (.s 28)),⟨some 30, .fieldAddr 0 (.s 1), (some (29, false))⟩,⟨some 31, .load false 1 (.s 30), (some (29, false))⟩,⟨some 32, .mov (.s 3), (some (29, false))⟩,
 ⟨some 33, .indexAddr 14 (.s 31) (.s 32), (some (29, false))⟩,⟨some 34, .fieldAddr 7 (.s 33), (some (29, false))⟩,⟨some 35, .load true 7 (.s 34), (some (29, false))⟩,⟨some 36, .call 87 [(.s 35)], (some (29, false))⟩,⟨some 37, .un .not (.s 36), (some (29, false))⟩,
 oo 38 (.pick (.s 29) (.c (.bool true)) (.s 37))]) [1, 3, 38] (.cond (.s 38) (.seq (.region false [oo 2 (.mov (.c (.bool false)))]) [2] (.ret)) (.skip)))) [1, 3] (.region false [oo 19 (.mov (.s 3)),oo 20 (.bin .add false (.s 19) (.c (.int .i64 1))),oo 3 (.mov (.s 20))])))))) [] (.seq (
 .region false [oo 2 (.mov (.c (.bool true)))]) [2] (.ret))))⟩
def tf82 : TFn := ⟨24, [.tmp 4],.seq (.region false [oo 4 (.mov (.c (.fsl [])))]) [0, 1] (.seq (.seq (.region false [oo 7 (.mov (.s 0)),oo 8 (.call 86 [(.s 7)]),oo 9 (.un .not (.s 8)),oo 10 (.mov (.s 9)),⟨some 11, .mov (.s 1), (some (10, false))⟩,⟨some 12, .call 86 [(.s 11)], (some (10, false))⟩,
 ⟨some 13, .un .not (.s 12), (some (10, false))⟩,oo 14 (.pick (.s 10) (.c (.bool true)) (.s 13))]) [0, 1, 14] (.cond (.s 14) (.seq (.region false [oo 4 (.mov (.c (.fsl [])))]) [4] (.ret)) (.skip))) [0, 1] (.seq (.region false [oo 16 (.mov (.s 0)),oo 17 (.append 14 95 144 (.c (.fsl [])) (.s 16)),
 oo 18 (.mov (.s 1)),oo 19 (.append 14 95 144 (.s 17) (.s 18)),oo 20 (.call 88 [(.s 19)]),oo 15 (.mov (.s 20)),oo 21 (.extract 0 (.s 15)),oo 22 (.extract 1 (.s 15)),oo 5 (.mov (.s 21)),oo 6 (.mov (.s 22))]) [5] (.seq (.region false [oo 23 (.mov (.s 5)),oo 4 (.mov (.s 23))]) [4] (.ret))))⟩
def tf83 : TFn := ⟨42, [.tmp 2],.seq (.region false [oo 2 (.mov (.c (.fsl [])))]) [0] (.seq (.seq (.region false [oo 6 (.mov (.s 0)),oo 7 (.call 86 [(.s 6)]),oo 8 (.un .not (.s 7))]) [0, 8] (.cond (.s 8) (.seq (.region false [oo 2 (.mov (.c (.fsl [])))]) [2] (.ret)) (.skip))) [0] (.seq (
 .region false [oo 3 (.mov (.c (.fsl [])))]) [0, 3] (.seq (.region false [oo 9 (.mov (.s 0)),oo 10 (.call 89 [(.s 9)]),oo 4 (.mov (.s 10))]) [0, 3, 4] (.seq (.seq (.region false [oo 5 (.mov (.c (.int .i64 0)))]) [0, 3, 4, 5] (.block 0 (.loop (.seq (.seq (.region false [oo 11 (.mov (.s 5)),
 oo 12 (.bin .add false (.s 11) (.c (.int .i64 1))),oo 13 (.mov (.s 4)),oo 14 (.len (.s 13)),oo 15 (.bin .lss false (.s 12) (.s 14))]) [0, 3, 4, 5, 15] (.cond (.s 15) (.skip) (.exit 0))) [0, 3, 4, 5] (.seq (.block 1 (.seq (.region true [oo 18 (.mov (.s 0)),oo 19 (.mov (.s 4)),oo 20 (.mov (.s 5)),
 oo 21 (.indexAddr 7 (.s 19) (.s 20)),oo 22 (.load true 7 (.s 21)),oo 23 (.mov (.s 4)),oo 24 (.mov (.s 5)),oo 25 (.bin .add false (.s 24) (.c (.int .i64 1))),oo 26 (.indexAddr 7 (.s 23) (.s 25)),oo 27 (.load true 7 (.s 26)),oo 28 (.call 90 [(.s 18), (.s 22), (.s 27)]),
 oo 29 (.un .not (.s 28))]) [0, 3, 4, 5, 29] (.cond (.s 29) (.region true [oo 30 (.mov (.s 3)),oo 31 (.mov (.s 4)),oo 32 (.mov (.s 5)),oo 33 (.indexAddr 7 (.s 31) (.s 32)),oo 34 (.load true 7 (.s 33)),oo 35 (.mov (.s 4)),oo 36 (.mov (.s 5)),oo 37 (.bin .add false (.s 36) (.c (.int .i64 1))),
 oo 38 (.indexAddr 7 (.s 35) (.s 37)),oo 39 (.load true 7 (.s 38)),oo 40 (.call 91 [(.s 30), (.s 34), (.s 39)]),oo 3 (.mov (.s 40))]) (.skip)))) [0, 3, 4, 5] (.region false [oo 16 (.mov (.s 5)),oo 17 (.bin .add false (.s 16) (.c (.int .i64 1))),oo 5 (.mov (.s 17))])))))) [3] (.seq (
 .region false [oo 41 (.mov (.s 3)),oo 2 (.mov (.s 41))]) [2] (.ret))))))⟩
def tf84 : TFn := ⟨24, [.tmp 4],.seq (.region false [oo 2 (.box 60 (.s 0)),oo 3 (.box 50 (.s 1)),oo 4 (.mov (.c (.bool false)))]) [2, 3] (.seq (.seq (.region false [oo 5 (.load true 2 (.s 2)),oo 6 (.call 81 [(.s 5)]),oo 7 (.un .not (.s 6)),oo 8 (.mov (.s 7)),
 ⟨some 9, .load true 5 (.s 3), (some (8, false))⟩,⟨some 10, .call 35 [(.s 9)], (some (8, false))⟩,⟨some 11, .un .not (.s 10), (some (8, false))⟩,oo 12 (.pick (.s 8) (.c (.bool true)) (.s 11))]) [2, 3, 12] (.cond (.s 12) (.seq (.region false [oo 4 (.mov (.c (.bool false)))]) [4] (.ret)) (
 .skip))) [2, 3] (.seq (.seq (.region false [oo 13 (.fieldAddr 3 (.s 3)),oo 14 (.load false 1 (.s 13)),oo 15 (.bin .eql false (.s 14) (.c (.str [])))]) [2, 3, 15] (.cond (.s 15) (.seq (.region false [oo 16 (.fieldAddr 0 (.s 2)),oo 17 (.load false 1 (.s 16)),oo 18 (.load true 5 (.s 3)),
 oo 19 (.call 92 [(.s 17), (.s 18)]),oo 4 (.mov (.s 19))]) [4] (.ret)) (.skip))) [2, 3] (.seq (.region false [oo 20 (.fieldAddr 1 (.s 2)),oo 21 (.load false 1 (.s 20)),oo 22 (.load true 5 (.s 3)),oo 23 (.call 92 [(.s 21), (.s 22)]),oo 4 (.mov (.s 23))]) [4] (.ret))))⟩
def tf85 : TFn := ⟨9, [.tmp 2],.seq (.region false [oo 2 (.mov (.c (.bool false)))]) [0] (.seq (.region false [oo 3 (.mov (.s 0)),oo 4 (.bin .geq false (.s 3) (.c (.int .u8 48))),oo 5 (.mov (.s 4)),⟨some 6, .mov (.s 0), (some (5, true))⟩,
 ⟨some 7, .bin .leq false (.s 6) (.c (.int .u8 57)), (some (5, true))⟩,oo 8 (.pick (.s 5) (.s 7) (.c (.bool false))),oo 2 (.mov (.s 8))]) [2] (.ret))⟩
def tf86 : TFn := ⟨35, [.tmp 2],.seq (.region false [oo 2 (.mov (.c (.bool false)))]) [0] (.seq (.seq (.region false [oo 3 (.mov (.c (.int .i64 0)))]) [0, 3] (.block 0 (.loop (.seq (.seq (.region false [oo 4 (.mov (.s 3)),oo 5 (.mov (.s 0)),oo 6 (.len (.s 5)),
 oo 7 (.bin .lss false (.s 4) (.s 6))]) [0, 3, 7] (.cond (.s 7) (.skip) (.exit 0))) [0, 3] (.seq (.block 1 (.seq (.region true [oo 10 (.mov (.s 0)),oo 11 (.mov (.s 3)),oo 12 (.indexAddr 14 (.s 10) (.s 11)),oo 13 (.load true 14 (.s 12)),oo 14 (.call 93 [(.s 13)]),oo 15 (.un .not (.s 14)),
 oo 16 (.mov (.s 15)),⟨some 17, .mov (.s 3), (some (16, false))⟩,⟨some 18, .bin .gtr false (.s 17) (.c (.int .i64 0)), (some (16, false))⟩,⟨some 19, .mov (.s 18), (some (16, false))⟩,⟨some 20, .mov (.s 0), (some (19, true))⟩,⟨some 21, .mov (.s 3), (some (19, true))⟩,
 ⟨some 22, .bin .sub false (.s 21) (.c (.int .i64 1)), (some (19, true))⟩,⟨some 23, .indexAddr 14 (.s 20) (.s 22), (some (19, true))⟩,⟨some 24, .fieldAddr 7 (.s 23), (some (19, true))⟩,⟨some 25, .load true 7 (.s 24), (some (19, true))⟩,⟨some 26, .mov (.s 0), (some (19, true))⟩,
 ⟨some 27, .mov (.s 3), (some (19, true))⟩,⟨some 28, .indexAddr 14 (.s 26) (.s 27), (some (19, true))⟩,⟨some 29, .fieldAddr 0 (.s 28), (some (19, true))⟩,⟨some 30, .load true 7 (.s 29), (some (19, true))⟩,⟨some 31, .call 94 [(.s 25), (.s 30)], (some (19, true))⟩,
 ⟨some 32, .bin .geq false (.s 31) (.c (.int .i64 0)), (some (19, true))⟩,⟨some 33, .pick (.s 19) (.s 32) (.c (.bool false)), (some (16, false))⟩,oo 34 (.pick (.s 16) (.c (.bool true)) (.s 33))]) [0, 3, 34] (.cond (.s 34) (.seq (.region false [oo 2 (.mov (.c (.bool false)))]) [2] (.ret)) (
 .skip)))) [0, 3] (.region false [oo 8 (.mov (.s 3)),oo 9 (.bin .add false (.s 8) (.c (.int .i64 1))),oo 3 (.mov (.s 9))])))))) [] (.seq (.region false [oo 2 (.mov (.c (.bool true)))]) [2] (.ret)))⟩
def tf87 : TFn := ⟨23, [.tmp 2],.seq (.region false [oo 1 (.box 92 (.s 0)),oo 2 (.mov (.c (.bool false)))]) [1] (.seq (.region false [oo 3 (.fieldAddr 0 (.s 1)),oo 4 (.load false 1 (.s 3)),oo 5 (.bin .neq false (.s 4) (.c (.int .i64 0))),oo 6 (.mov (.s 5)),
 ⟨some 7, .fieldAddr 6 (.s 1), (some (6, false))⟩,⟨some 8, .load false 1 (.s 7), (some (6, false))⟩,⟨some 9, .un .not (.s 8), (some (6, false))⟩,⟨some 10, .mov (.s 9), (some (6, false))⟩,⟨some 11, .fieldAddr 1 (.s 1), (some (10, true))⟩,⟨some 12, .fieldAddr 3 (.s 11), (some (10, true))⟩,
 ⟨some 13, .load false 1 (.s 12), (some (10, true))⟩,⟨some 14, .bin .eql false (.s 13) (.c (.str [])), (some (10, true))⟩,⟨some 15, .pick (.s 10) (.s 14) (.c (.bool false)), (some (6, false))⟩,⟨some 16, .mov (.s 15), (some (6, false))⟩,⟨some 17, .fieldAddr 1 (.s 1), (some (16, true))⟩,
 ⟨some 18, .load true 5 (.s 17), (some (16, true))⟩,⟨some 19, .call 60 [(.s 18)], (some (16, true))⟩,⟨some 20, .un .not (.s 19), (some (16, true))⟩,⟨some 21, .pick (.s 16) (.s 20) (.c (.bool false)), (some (6, false))⟩,oo 22 (.pick (.s 6) (.c (.bool true)) (.s 21)),oo 2 (.mov (.s 22))]) [2] (
 .ret))⟩
def tf88 : TFn := ⟨52, [.tmp 2, .tmp 3],.seq (.region false [oo 2 (.mov (.c (.fsl []))),oo 3 (.mov (.c (.bool false)))]) [0] (.seq (.seq (.region false [oo 4 (.mov (.c (.int .i64 0)))]) [0, 4] (.block 0 (.loop (.seq (.seq (.region false [oo 8 (.mov (.s 4)),oo 9 (.mov (.s 0)),oo 10 (.len (.s 9)),
 oo 11 (.bin .lss false (.s 8) (.s 10))]) [0, 4, 11] (.cond (.s 11) (.skip) (.exit 0))) [0, 4] (.seq (.block 1 (.seq (.region false [oo 14 (.mov (.s 0)),oo 15 (.mov (.s 4)),oo 16 (.indexAddr 14 (.s 14) (.s 15)),oo 17 (.load true 14 (.s 16)),oo 18 (.call 93 [(.s 17)]),
 oo 19 (.un .not (.s 18))]) [0, 4, 19] (.cond (.s 19) (.seq (.region false [oo 2 (.mov (.c (.fsl []))),oo 3 (.mov (.c (.bool false)))]) [2, 3] (.ret)) (.skip)))) [0, 4] (.region false [oo 12 (.mov (.s 4)),oo 13 (.bin .add false (.s 12) (.c (.int .i64 1))),oo 4 (.mov (.s 13))])))))) [0] (.seq (
 .region false [oo 5 (.mov (.c (.fsl [])))]) [0, 5] (.seq (.region false [oo 20 (.mov (.s 0)),oo 21 (.call 89 [(.s 20)]),oo 6 (.mov (.s 21))]) [0, 5, 6] (.seq (.seq (.region false [oo 7 (.mov (.c (.int .i64 0)))]) [0, 5, 6, 7] (.block 2 (.loop (.seq (.seq (.region false [oo 22 (.mov (.s 7)),
 oo 23 (.bin .add false (.s 22) (.c (.int .i64 1))),oo 24 (.mov (.s 6)),oo 25 (.len (.s 24)),oo 26 (.bin .lss false (.s 23) (.s 25))]) [0, 5, 6, 7, 26] (.cond (.s 26) (.skip) (.exit 2))) [0, 5, 6, 7] (.seq (.block 3 (.seq (.region true [oo 29 (.mov (.s 0)),oo 30 (.mov (.s 6)),oo 31 (.mov (.s 7)),
 oo 32 (.indexAddr 7 (.s 30) (.s 31)),oo 33 (.load true 7 (.s 32)),oo 34 (.mov (.s 6)),oo 35 (.mov (.s 7)),oo 36 (.bin .add false (.s 35) (.c (.int .i64 1))),oo 37 (.indexAddr 7 (.s 34) (.s 36)),oo 38 (.load true 7 (.s 37)),oo 39 (.call 90 [(.s 29), (.s 33), (.s 38)])]) [0, 5, 6, 7, 39] (
 .cond (.s 39) (.region true [oo 40 (.mov (.s 5)),oo 41 (.mov (.s 6)),oo 42 (.mov (.s 7)),oo 43 (.indexAddr 7 (.s 41) (.s 42)),oo 44 (.load true 7 (.s 43)),oo 45 (.mov (.s 6)),oo 46 (.mov (.s 7)),oo 47 (.bin .add false (.s 46) (.c (.int .i64 1))),oo 48 (.indexAddr 7 (.s 45) (.s 47)),
 oo 49 (.load true 7 (.s 48)),oo 50 (.call 91 [(.s 40), (.s 44), (.s 49)]),oo 5 (.mov (.s 50))]) (.skip)))) [0, 5, 6, 7] (.region false [oo 27 (.mov (.s 7)),oo 28 (.bin .add false (.s 27) (.c (.int .i64 1))),oo 7 (.mov (.s 28))])))))) [5] (.seq (.region false [oo 51 (.mov (.s 5)),
 oo 2 (.mov (.s 51)),oo 3 (.mov (.c (.bool true)))]) [2, 3] (.ret))))))⟩
def tf89 : TFn := ⟨28, [.tmp 2],.seq (.region false [oo 2 (.mov (.c (.fsl [])))]) [0] (.seq (.region false [oo 5 (.call 61 []),oo 6 (.call 63 []),oo 7 (.buildSlice 7 92 [(.s 5), (.s 6)]),oo 3 (.mov (.s 7))]) [0, 3] (.seq (.seq (.region false [oo 4 (.mov (.c (.int .i64 0)))]) [0, 3, 4] (.block 0 (
 .loop (.seq (.seq (.region false [oo 8 (.mov (.s 4)),oo 9 (.mov (.s 0)),oo 10 (.len (.s 9)),oo 11 (.bin .lss false (.s 8) (.s 10))]) [0, 3, 4, 11] (.cond (.s 11) (.skip) (.exit 0))) [0, 3, 4] (.seq (.block 1 (.region true [oo 14 (.mov (.s 3)),oo 15 (.mov (.s 0)),oo 16 (.mov (.s 4)),
 oo 17 (.indexAddr 14 (.s 15) (.s 16)),oo 18 (.fieldAddr 0 (.s 17)),oo 19 (.load true 7 (.s 18)),oo 20 (.call 95 [(.s 14), (.s 19)]),oo 21 (.mov (.s 0)),oo 22 (.mov (.s 4)),oo 23 (.indexAddr 14 (.s 21) (.s 22)),oo 24 (.fieldAddr 7 (.s 23)),oo 25 (.load true 7 (.s 24)),
 oo 26 (.call 95 [(.s 20), (.s 25)]),oo 3 (.mov (.s 26))])) [0, 3, 4] (.region false [oo 12 (.mov (.s 4)),oo 13 (.bin .add false (.s 12) (.c (.int .i64 1))),oo 4 (.mov (.s 13))])))))) [3] (.seq (.region false [oo 27 (.mov (.s 3)),oo 2 (.mov (.s 27))]) [2] (.ret))))⟩
def tf90 : TFn := ⟨32, [.tmp 6],.seq (.region false [oo 4 (.box 92 (.s 1)),oo 5 (.box 92 (.s 2)),oo 6 (.mov (.c (.bool false)))]) [0, 4, 5] (.seq (.seq (.region false [oo 7 (.mov (.c (.int .i64 0)))]) [0, 4, 5, 7] (.block 0 (.loop (.seq (.seq (.region false [oo 8 (.mov (.s 7)),oo 9 (.mov (.s 0)),
 oo 10 (.len (.s 9)),oo 11 (.bin .lss false (.s 8) (.s 10))]) [0, 4, 5, 7, 11] (.cond (.s 11) (.skip) (.exit 0))) [0, 4, 5, 7] (.seq (.block 1 (.seq (.region true [oo 14 (.mov (.s 0)),oo 15 (.mov (.s 7)),oo 16 (.indexAddr 14 (.s 14) (.s 15)),oo 17 (.fieldAddr 0 (.s 16)),
 oo 18 (.load true 7 (.s 17)),oo 19 (.load true 7 (.s 4)),oo 20 (.call 94 [(.s 18), (.s 19)]),oo 21 (.bin .leq false (.s 20) (.c (.int .i64 0))),oo 22 (.mov (.s 21)),⟨some 23, .load true 7 (.s 5), (some (22, true))⟩,⟨some 24, .mov (.s 0), (some (22, true))⟩,
 ⟨some 25, .mov (.s 7), (some (22, true))⟩,⟨some 26, .indexAddr 14 (.s 24) (.s 25), (some (22, true))⟩,⟨some 27, .fieldAddr 7 (.s 26), (some (22, true))⟩,⟨some 28, .load true 7 (.s 27), (some (22, true))⟩,⟨some 29, .call 94 [(.s 23), (.s 28)], (some (22, true))⟩,
 ⟨some 30, .bin .leq false (.s 29) (.c (.int .i64 0)), (some (22, true))⟩,oo 31 (.pick (.s 22) (.s 30) (.c (.bool false)))]) [0, 4, 5, 7, 31] (.cond (.s 31) (.seq (.region false [oo 6 (.mov (.c (.bool true)))]) [6] (.ret)) (.skip)))) [0, 4, 5, 7] (.region false [oo 12 (.mov (.s 7)),
 oo 13 (.bin .add false (.s 12) (.c (.int .i64 1))),oo 7 (.mov (.s 13))])))))) [] (.seq (.region false [oo 6 (.mov (.c (.bool false)))]) [6] (.ret)))⟩
def tf91 : TFn := ⟨35, [.tmp 6],.seq (.region false [oo 4 (.box 92 (.s 1)),oo 5 (.box 92 (.s 2)),oo 6 (.mov (.c (.fsl [])))]) [0, 4, 5] (.seq (.seq (.region false [oo 8 (.mov (.s 0)),oo 9 (.len (.s 8)),oo 10 (.bin .sub false (.s 9) (.c (.int .i64 1))),oo 7 (.mov (.s 10))]) [0, 4, 5, 7] (.seq (
 .region true [oo 11 (.mov (.s 7)),oo 12 (.bin .geq false (.s 11) (.c (.int .i64 0))),oo 13 (.mov (.s 12)),⟨some 14, .mov (.s 0), (some (13, true))⟩,⟨some 15, .mov (.s 7), (some (13, true))⟩,⟨some 16, .indexAddr 14 (.s 14) (.s 15), (some (13, true))⟩,
 ⟨some 17, .fieldAddr 7 (.s 16), (some (13, true))⟩,⟨some 18, .load true 7 (.s 17), (some (13, true))⟩,⟨some 19, .load true 7 (.s 4), (some (13, true))⟩,⟨some 20, .call 94 [(.s 18), (.s 19)], (some (13, true))⟩,⟨some 21, .bin .eql false (.s 20) (.c (.int .i64 0)), (some (13, true))⟩,
 oo 22 (.pick (.s 13) (.s 21) (.c (.bool false)))]) [0, 4, 5, 7, 22] (.cond (.s 22) (.seq (.region false [oo 23 (.mov (.s 0)),oo 24 (.mov (.s 7)),oo 25 (.load true 7 (.s 5)),oo 26 (.indexAddr 14 (.s 23) (.s 24)),oo 27 (.fieldAddr 7 (.s 26)),⟨none, .store 7 (.s 27) (.s 25), none⟩]) [0] (.seq (
 .region false [oo 28 (.mov (.s 0)),oo 6 (.mov (.s 28))]) [6] (.ret))) (.skip)))) [0, 4, 5] (.seq (.region false [oo 29 (.mov (.s 0)),oo 30 (.load true 7 (.s 4)),oo 31 (.load true 7 (.s 5)),
 oo 32 (.build [(.int .i64 0), (.int .i64 0), (.int .i64 0), (.int .i64 0), (.str []), (.str []), (.bool false), (.int .i64 0), (.int .i64 0), (.int .i64 0), (.int .i64 0), (.str []), (.str []), (.bool false)] [(0, 7, (.s 30)), (7, 7, (.s 31))]),oo 33 (.buildSlice 14 95 [(.s 32)]),
 oo 34 (.append 14 95 144 (.s 29) (.s 33)),oo 6 (.mov (.s 34))]) [6] (.ret)))⟩
def tf92 : TFn := ⟨22, [.tmp 4],.seq (.region false [oo 3 (.box 50 (.s 1)),oo 4 (.mov (.c (.bool false)))]) [0, 3] (.seq (.seq (.region false [oo 5 (.mov (.c (.int .i64 0)))]) [0, 3, 5] (.block 0 (.loop (.seq (.seq (.region false [oo 6 (.mov (.s 5)),oo 7 (.mov (.s 0)),oo 8 (.len (.s 7)),
 oo 9 (.bin .lss false (.s 6) (.s 8)),oo 10 (.mov (.s 9)),⟨some 11, .mov (.s 0), (some (10, true))⟩,⟨some 12, .call 86 [(.s 11)], (some (10, true))⟩,oo 13 (.pick (.s 10) (.s 12) (.c (.bool false)))]) [0, 3, 5, 13] (.cond (.s 13) (.skip) (.exit 0))) [0, 3, 5] (.seq (.block 1 (.seq (
 .region true [oo 16 (.mov (.s 0)),oo 17 (.mov (.s 5)),oo 18 (.indexAddr 14 (.s 16) (.s 17)),oo 19 (.load true 14 (.s 18)),oo 20 (.load true 5 (.s 3)),oo 21 (.call 96 [(.s 19), (.s 20)])]) [0, 3, 5, 21] (.cond (.s 21) (.seq (.region false [oo 4 (.mov (.c (.bool true)))]) [4] (.ret)) (
 .skip)))) [0, 3, 5] (.region false [oo 14 (.mov (.s 5)),oo 15 (.bin .add false (.s 14) (.c (.int .i64 1))),oo 5 (.mov (.s 15))])))))) [] (.seq (.region false [oo 4 (.mov (.c (.bool false)))]) [4] (.ret)))⟩
def tf93 : TFn := ⟨19, [.tmp 2],.seq (.region false [oo 1 (.box 95 (.s 0)),oo 2 (.mov (.c (.bool false)))]) [1] (.seq (.region false [oo 3 (.fieldAddr 0 (.s 1)),oo 4 (.load true 7 (.s 3)),oo 5 (.call 97 [(.s 4)]),oo 6 (.mov (.s 5)),⟨some 7, .fieldAddr 7 (.s 1), (some (6, true))⟩,
 ⟨some 8, .load true 7 (.s 7), (some (6, true))⟩,⟨some 9, .call 97 [(.s 8)], (some (6, true))⟩,oo 10 (.pick (.s 6) (.s 9) (.c (.bool false))),oo 11 (.mov (.s 10)),⟨some 12, .fieldAddr 0 (.s 1), (some (11, true))⟩,⟨some 13, .load true 7 (.s 12), (some (11, true))⟩,
 ⟨some 14, .fieldAddr 7 (.s 1), (some (11, true))⟩,⟨some 15, .load true 7 (.s 14), (some (11, true))⟩,⟨some 16, .call 94 [(.s 13), (.s 15)], (some (11, true))⟩,⟨some 17, .bin .lss false (.s 16) (.c (.int .i64 0)), (some (11, true))⟩,oo 18 (.pick (.s 11) (.s 17) (.c (.bool false))),
 oo 2 (.mov (.s 18))]) [2] (.ret))⟩
def tf94 : TFn := ⟨46, [.tmp 4],.seq (.region false [oo 2 (.box 92 (.s 0)),oo 3 (.box 92 (.s 1)),oo 4 (.mov (.c (.int .i64 0)))]) [2, 3] (.seq (.seq (.region false [oo 6 (.load true 7 (.s 2)),oo 7 (.call 97 [(.s 6)]),oo 8 (.un .not (.s 7)),oo 9 (.mov (.s 8)),
 ⟨some 10, .load true 7 (.s 3), (some (9, false))⟩,⟨some 11, .call 97 [(.s 10)], (some (9, false))⟩,⟨some 12, .un .not (.s 11), (some (9, false))⟩,oo 13 (.pick (.s 9) (.c (.bool true)) (.s 12))]) [2, 3, 13] (.cond (.s 13) (.seq (.region false [oo 4 (.mov (.c (.int .i64 0)))]) [4] (.ret)) (
 .skip))) [2, 3] (.seq (.seq (.region false [oo 14 (.fieldAddr 0 (.s 2)),oo 15 (.load false 1 (.s 14)),oo 16 (.fieldAddr 0 (.s 3)),oo 17 (.load false 1 (.s 16)),oo 18 (.bin .neq false (.s 15) (.s 17)),oo 19 (.mov (.s 18)),⟨some 20, .fieldAddr 0 (.s 2), (some (19, false))⟩,
 ⟨some 21, .load false 1 (.s 20), (some (19, false))⟩,⟨some 22, .bin .neq false (.s 21) (.c (.int .i64 0)), (some (19, false))⟩,oo 23 (.pick (.s 19) (.c (.bool true)) (.s 22))]) [2, 3, 23] (.cond (.s 23) (.seq (.region false [oo 24 (.fieldAddr 0 (.s 2)),oo 25 (.load false 1 (.s 24)),
 oo 26 (.fieldAddr 0 (.s 3)),oo 27 (.load false 1 (.s 26)),oo 28 (.call 98 [(.s 25), (.s 27)]),oo 4 (.mov (.s 28))]) [4] (.ret)) (.skip))) [2, 3] (.seq (.seq (.region false [oo 29 (.fieldAddr 1 (.s 2)),oo 30 (.load true 5 (.s 29)),oo 31 (.fieldAddr 1 (.s 3)),oo 32 (.load true 5 (.s 31)),
 oo 33 (.call 99 [(.s 30), (.s 32)]),oo 5 (.mov (.s 33))]) [2, 3, 5] (.seq (.region false [oo 34 (.mov (.s 5)),oo 35 (.bin .neq false (.s 34) (.c (.int .i64 0)))]) [2, 3, 5, 35] (.cond (.s 35) (.seq (.region false [oo 36 (.mov (.s 5)),oo 4 (.mov (.s 36))]) [4] (.ret)) (.skip)))) [2, 3] (.seq (
 .block 0 (.seq (.region false [oo 38 (.fieldAddr 6 (.s 2)),oo 39 (.load false 1 (.s 38)),oo 40 (.fieldAddr 6 (.s 3)),oo 41 (.load false 1 (.s 40)),oo 42 (.bin .eql true (.s 39) (.s 41)),oo 37 (.mov (.s 42))]) [3, 37] (.cond (.s 37) (.seq (.region false [oo 4 (.mov (.c (.int .i64 0)))]) [4] (
 .ret)) (.seq (.region false [oo 44 (.fieldAddr 6 (.s 3)),oo 45 (.load false 1 (.s 44)),oo 43 (.mov (.s 45))]) [43] (.cond (.s 43) (.seq (.region false [oo 4 (.mov (.c (.int .i64 (-1))))]) [4] (.ret)) (.skip)))))) [] (.seq (.region false [oo 4 (.mov (.c (.int .i64 1)))]) [4] (.ret))))))⟩
def tf95 : TFn := ⟨46, [.tmp 4],.seq (.region false [oo 3 (.box 92 (.s 1)),oo 4 (.mov (.c (.fsl [])))]) [0, 3] (.seq (.region false [oo 5 (.mov (.c (.int .i64 0)))]) [0, 3, 5] (.seq (.block 0 (.loop (.seq (.seq (.region true [oo 6 (.mov (.s 5)),oo 7 (.mov (.s 0)),oo 8 (.len (.s 7)),
 oo 9 (.bin .lss false (.s 6) (.s 8)),oo 10 (.mov (.s 9)),⟨some 11, .mov (.s 0), (some (10, true))⟩,⟨some 12, .mov (.s 5), (some (10, true))⟩,⟨some 13, .indexAddr 7 (.s 11) (.s 12), (some (10, true))⟩,⟨some 14, .load true 7 (.s 13), (some (10, true))⟩,
 ⟨some 15, .load true 7 (.s 3), (some (10, true))⟩,⟨some 16, .call 94 [(.s 14), (.s 15)], (some (10, true))⟩,⟨some 17, .bin .lss false (.s 16) (.c (.int .i64 0)), (some (10, true))⟩,oo 18 (.pick (.s 10) (.s 17) (.c (.bool false)))]) [0, 3, 5, 18] (.cond (.s 18) (.skip) (.exit 0))) [0, 3, 5] (
 .block 1 (.region false [oo 19 (.mov (.s 5)),oo 20 (.bin .add false (.s 19) (.c (.int .i64 1))),oo 5 (.mov (.s 20))]))))) [0, 3, 5] (.seq (.seq (.region true [oo 21 (.mov (.s 5)),oo 22 (.mov (.s 0)),oo 23 (.len (.s 22)),oo 24 (.bin .lss false (.s 21) (.s 23)),oo 25 (.mov (.s 24)),
 ⟨some 26, .mov (.s 0), (some (25, true))⟩,⟨some 27, .mov (.s 5), (some (25, true))⟩,⟨some 28, .indexAddr 7 (.s 26) (.s 27), (some (25, true))⟩,⟨some 29, .load true 7 (.s 28), (some (25, true))⟩,⟨some 30, .load true 7 (.s 3), (some (25, true))⟩,
 ⟨some 31, .call 94 [(.s 29), (.s 30)], (some (25, true))⟩,⟨some 32, .bin .eql false (.s 31) (.c (.int .i64 0)), (some (25, true))⟩,oo 33 (.pick (.s 25) (.s 32) (.c (.bool false)))]) [0, 3, 5, 33] (.cond (.s 33) (.seq (.region false [oo 34 (.mov (.s 0)),oo 4 (.mov (.s 34))]) [4] (.ret)) (
 .skip))) [0, 3, 5] (.seq (.region true [oo 35 (.mov (.s 0)),oo 36 (.mov (.s 5)),oo 37 (.slice 7 (.s 35) none (some (.s 36)) none),oo 38 (.append 7 92 72 (.c (.fsl [])) (.s 37)),oo 39 (.load true 7 (.s 3)),oo 40 (.buildSlice 7 92 [(.s 39)]),oo 41 (.append 7 92 72 (.s 38) (.s 40)),
 oo 42 (.mov (.s 0)),oo 43 (.mov (.s 5)),oo 44 (.slice 7 (.s 42) (some (.s 43)) none none),oo 45 (.append 7 92 72 (.s 41) (.s 44)),oo 4 (.mov (.s 45))]) [4] (.ret)))))⟩
def tf96 : TFn := ⟨24, [.tmp 4],.seq (.region false [oo 2 (.box 95 (.s 0)),oo 3 (.box 50 (.s 1)),oo 4 (.mov (.c (.bool false)))]) [2, 3] (.seq (.region false [oo 5 (.load true 14 (.s 2)),oo 6 (.call 93 [(.s 5)]),oo 7 (.mov (.s 6)),⟨some 8, .load true 5 (.s 3), (some (7, true))⟩,
 ⟨some 9, .call 35 [(.s 8)], (some (7, true))⟩,oo 10 (.pick (.s 7) (.s 9) (.c (.bool false))),oo 11 (.mov (.s 10)),⟨some 12, .fieldAddr 0 (.s 2), (some (11, true))⟩,⟨some 13, .load true 7 (.s 12), (some (11, true))⟩,⟨some 14, .load true 5 (.s 3), (some (11, true))⟩,
 ⟨some 15, .call 100 [(.s 13), (.s 14)], (some (11, true))⟩,oo 16 (.pick (.s 11) (.s 15) (.c (.bool false))),oo 17 (.mov (.s 16)),⟨some 18, .fieldAddr 7 (.s 2), (some (17, true))⟩,⟨some 19, .load true 7 (.s 18), (some (17, true))⟩,⟨some 20, .load true 5 (.s 3), (some (17, true))⟩,
 ⟨some 21, .call 100 [(.s 19), (.s 20)], (some (17, true))⟩,⟨some 22, .un .not (.s 21), (some (17, true))⟩,oo 23 (.pick (.s 17) (.s 22) (.c (.bool false))),oo 4 (.mov (.s 23))]) [4] (.ret))⟩
def tf97 : TFn := ⟨34, [.tmp 2],.seq (.region false [oo 1 (.box 92 (.s 0)),oo 2 (.mov (.c (.bool false)))]) [1] (.seq (.seq (.region false [oo 3 (.fieldAddr 0 (.s 1)),oo 4 (.load false 1 (.s 3)),oo 5 (.bin .eql false (.s 4) (.c (.int .i64 0)))]) [1, 5] (.cond (.s 5) (.seq (
 .region false [oo 6 (.fieldAddr 1 (.s 1)),oo 7 (.load true 5 (.s 6)),oo 8 (.call 35 [(.s 7)]),oo 9 (.mov (.s 8)),⟨some 10, .fieldAddr 1 (.s 1), (some (9, true))⟩,⟨some 11, .fieldAddr 4 (.s 10), (some (9, true))⟩,⟨some 12, .load false 1 (.s 11), (some (9, true))⟩,
 ⟨some 13, .bin .eql false (.s 12) (.c (.str [])), (some (9, true))⟩,oo 14 (.pick (.s 9) (.s 13) (.c (.bool false))),oo 2 (.mov (.s 14))]) [2] (.ret)) (.skip))) [1] (.seq (.region false [oo 15 (.fieldAddr 0 (.s 1)),oo 16 (.load false 1 (.s 15)),oo 17 (.bin .eql false (.s 16) (.c (.int .i64 (-1)))),
 oo 18 (.mov (.s 17)),⟨some 19, .fieldAddr 0 (.s 1), (some (18, false))⟩,⟨some 20, .load false 1 (.s 19), (some (18, false))⟩,⟨some 21, .bin .eql false (.s 20) (.c (.int .i64 1)), (some (18, false))⟩,oo 22 (.pick (.s 18) (.c (.bool true)) (.s 21)),oo 23 (.mov (.s 22)),
 ⟨some 24, .fieldAddr 1 (.s 1), (some (23, true))⟩,⟨some 25, .load true 5 (.s 24), (some (23, true))⟩,⟨some 26, .build [(.int .i64 0), (.int .i64 0), (.int .i64 0), (.str []), (.str [])] [], (some (23, true))⟩,⟨some 27, .eqs false [0, 0, 0, 2, 2] (.s 25) (.s 26), (some (23, true))⟩,
 oo 28 (.pick (.s 23) (.s 27) (.c (.bool false))),oo 29 (.mov (.s 28)),⟨some 30, .fieldAddr 6 (.s 1), (some (29, true))⟩,⟨some 31, .load false 1 (.s 30), (some (29, true))⟩,⟨some 32, .un .not (.s 31), (some (29, true))⟩,oo 33 (.pick (.s 29) (.s 32) (.c (.bool false))),oo 2 (.mov (.s 33))]) [2] (
 .ret)))⟩
def tf98 : TFn := ⟨13, [.tmp 4],.seq (.region false [oo 4 (.mov (.c (.int .i64 0)))]) [0, 1] (.seq (.block 0 (.seq (.region false [oo 6 (.mov (.s 0)),oo 7 (.mov (.s 1)),oo 8 (.bin .lss false (.s 6) (.s 7)),oo 5 (.mov (.s 8))]) [0, 1, 5] (.cond (.s 5) (.seq (
 .region false [oo 4 (.mov (.c (.int .i64 (-1))))]) [4] (.ret)) (.seq (.region false [oo 10 (.mov (.s 0)),oo 11 (.mov (.s 1)),oo 12 (.bin .gtr false (.s 10) (.s 11)),oo 9 (.mov (.s 12))]) [9] (.cond (.s 9) (.seq (.region false [oo 4 (.mov (.c (.int .i64 1)))]) [4] (.ret)) (.skip)))))) [] (.seq (
 .region false [oo 4 (.mov (.c (.int .i64 0)))]) [4] (.ret)))⟩
def tf99 : TFn := ⟨45, [.tmp 4],.seq (.region false [oo 2 (.box 50 (.s 0)),oo 3 (.box 50 (.s 1)),oo 4 (.mov (.c (.int .i64 0)))]) [2, 3] (.seq (.seq (.region false [oo 8 (.load true 5 (.s 2)),oo 9 (.call 35 [(.s 8)]),oo 10 (.un .not (.s 9)),oo 11 (.mov (.s 10)),
 ⟨some 12, .load true 5 (.s 3), (some (11, false))⟩,⟨some 13, .call 35 [(.s 12)], (some (11, false))⟩,⟨some 14, .un .not (.s 13), (some (11, false))⟩,oo 15 (.pick (.s 11) (.c (.bool true)) (.s 14))]) [2, 3, 15] (.cond (.s 15) (.seq (.region false [oo 4 (.mov (.c (.int .i64 0)))]) [4] (.ret)) (
 .skip))) [2, 3] (.seq (.seq (.region false [oo 16 (.fieldAddr 0 (.s 2)),oo 17 (.load false 1 (.s 16)),oo 18 (.fieldAddr 0 (.s 3)),oo 19 (.load false 1 (.s 18)),oo 20 (.call 98 [(.s 17), (.s 19)]),oo 5 (.mov (.s 20))]) [2, 3, 5] (.seq (.region false [oo 21 (.mov (.s 5)),
 oo 22 (.bin .neq false (.s 21) (.c (.int .i64 0)))]) [2, 3, 5, 22] (.cond (.s 22) (.seq (.region false [oo 23 (.mov (.s 5)),oo 4 (.mov (.s 23))]) [4] (.ret)) (.skip)))) [2, 3] (.seq (.seq (.region false [oo 24 (.fieldAddr 1 (.s 2)),oo 25 (.load false 1 (.s 24)),oo 26 (.fieldAddr 1 (.s 3)),
 oo 27 (.load false 1 (.s 26)),oo 28 (.call 98 [(.s 25), (.s 27)]),oo 6 (.mov (.s 28))]) [2, 3, 6] (.seq (.region false [oo 29 (.mov (.s 6)),oo 30 (.bin .neq false (.s 29) (.c (.int .i64 0)))]) [2, 3, 6, 30] (.cond (.s 30) (.seq (.region false [oo 31 (.mov (.s 6)),oo 4 (.mov (.s 31))]) [4] (
 .ret)) (.skip)))) [2, 3] (.seq (.seq (.region false [oo 32 (.fieldAddr 2 (.s 2)),oo 33 (.load false 1 (.s 32)),oo 34 (.fieldAddr 2 (.s 3)),oo 35 (.load false 1 (.s 34)),oo 36 (.call 98 [(.s 33), (.s 35)]),oo 7 (.mov (.s 36))]) [2, 3, 7] (.seq (.region false [oo 37 (.mov (.s 7)),
 oo 38 (.bin .neq false (.s 37) (.c (.int .i64 0)))]) [2, 3, 7, 38] (.cond (.s 38) (.seq (.region false [oo 39 (.mov (.s 7)),oo 4 (.mov (.s 39))]) [4] (.ret)) (.skip)))) [2, 3] (.seq (.region false [oo 40 (.fieldAddr 3 (.s 2)),oo 41 (.load false 1 (.s 40)),oo 42 (.fieldAddr 3 (.s 3)),
 oo 43 (.load false 1 (.s 42)),oo 44 (.call 101 [(.s 41), (.s 43)]),oo 4 (.mov (.s 44))]) [4] (.ret))))))⟩
def tf100 : TFn := ⟨35, [.tmp 4],.seq (.region false [oo 2 (.box 92 (.s 0)),oo 3 (.box 50 (.s 1)),oo 4 (.mov (.c (.bool false)))]) [2, 3] (.seq (.seq (.region false [oo 6 (.load true 7 (.s 2)),oo 7 (.call 97 [(.s 6)]),oo 8 (.un .not (.s 7)),oo 9 (.mov (.s 8)),
 ⟨some 10, .load true 5 (.s 3), (some (9, false))⟩,⟨some 11, .call 35 [(.s 10)], (some (9, false))⟩,⟨some 12, .un .not (.s 11), (some (9, false))⟩,oo 13 (.pick (.s 9) (.c (.bool true)) (.s 12))]) [2, 3, 13] (.cond (.s 13) (.seq (.region false [oo 4 (.mov (.c (.bool false)))]) [4] (.ret)) (
 .skip))) [2, 3] (.seq (.seq (.region false [oo 14 (.fieldAddr 0 (.s 2)),oo 15 (.load false 1 (.s 14)),oo 16 (.bin .neq false (.s 15) (.c (.int .i64 0)))]) [2, 3, 16] (.cond (.s 16) (.seq (.region false [oo 17 (.fieldAddr 0 (.s 2)),oo 18 (.load false 1 (.s 17)),
 oo 19 (.bin .lss false (.s 18) (.c (.int .i64 0))),oo 4 (.mov (.s 19))]) [4] (.ret)) (.skip))) [2, 3] (.seq (.region false [oo 20 (.fieldAddr 1 (.s 2)),oo 21 (.load true 5 (.s 20)),oo 22 (.load true 5 (.s 3)),oo 23 (.call 99 [(.s 21), (.s 22)]),oo 5 (.mov (.s 23))]) [2, 5] (.seq (
 .region false [oo 24 (.mov (.s 5)),oo 25 (.bin .lss false (.s 24) (.c (.int .i64 0))),oo 26 (.mov (.s 25)),⟨some 27, .mov (.s 5), (some (26, false))⟩,⟨some 28, .bin .eql false (.s 27) (.c (.int .i64 0)), (some (26, false))⟩,⟨some 29, .mov (.s 28), (some (26, false))⟩,
 ⟨some 30, .fieldAddr 6 (.s 2), (some (29, true))⟩,⟨some 31, .load false 1 (.s 30), (some (29, true))⟩,⟨some 32, .un .not (.s 31), (some (29, true))⟩,⟨some 33, .pick (.s 29) (.s 32) (.c (.bool false)), (some (26, false))⟩,oo 34 (.pick (.s 26) (.c (.bool true)) (.s 33)),oo 4 (.mov (.s 34))]) [4] (
 .ret)))))⟩
def tf101 : TFn := ⟨52, [.tmp 4],.seq (.region false [oo 4 (.mov (.c (.int .i64 0)))]) [0, 1] (.seq (.block 0 (.seq (.region false [oo 10 (.mov (.s 0)),oo 11 (.mov (.s 1)),oo 12 (.bin .eql false (.s 10) (.s 11)),oo 9 (.mov (.s 12))]) [0, 1, 9] (.cond (.s 9) (.seq (
 .region false [oo 4 (.mov (.c (.int .i64 0)))]) [4] (.ret)) (.seq (.region false [oo 14 (.mov (.s 0)),oo 15 (.bin .eql false (.s 14) (.c (.str []))),oo 13 (.mov (.s 15))]) [0, 1, 13] (.cond (.s 13) (.seq (.region false [oo 4 (.mov (.c (.int .i64 1)))]) [4] (.ret)) (.seq (
 .region false [oo 17 (.mov (.s 1)),oo 18 (.bin .eql false (.s 17) (.c (.str []))),oo 16 (.mov (.s 18))]) [0, 1, 16] (.cond (.s 16) (.seq (.region false [oo 4 (.mov (.c (.int .i64 (-1))))]) [4] (.ret)) (.skip)))))))) [0, 1] (.seq (.region false [oo 19 (.mov (.s 0)),
 oo 20 (.call 76 [(.s 19), (.c (.int .u8 46))]),oo 21 (.mov (.s 1)),oo 22 (.call 76 [(.s 21), (.c (.int .u8 46))]),oo 5 (.mov (.s 20)),oo 6 (.mov (.s 22))]) [5, 6] (.seq (.seq (.region false [oo 7 (.mov (.c (.int .i64 0)))]) [5, 6, 7] (.block 1 (.loop (.seq (.seq (
 .region false [oo 23 (.mov (.s 7)),oo 24 (.mov (.s 5)),oo 25 (.len (.s 24)),oo 26 (.bin .lss false (.s 23) (.s 25)),oo 27 (.mov (.s 26)),⟨some 28, .mov (.s 7), (some (27, true))⟩,⟨some 29, .mov (.s 6), (some (27, true))⟩,⟨some 30, .len (.s 29), (some (27, true))⟩,
 ⟨some 31, .bin .lss false (.s 28) (.s 30), (some (27, true))⟩,oo 32 (.pick (.s 27) (.s 31) (.c (.bool false)))]) [5, 6, 7, 32] (.cond (.s 32) (.skip) (.exit 1))) [5, 6, 7] (.seq (.block 2 (.seq (.region true [oo 35 (.mov (.s 5)),oo 36 (.mov (.s 7)),oo 37 (.indexAddr 1 (.s 35) (.s 36)),
 oo 38 (.load false 1 (.s 37)),oo 39 (.mov (.s 6)),oo 40 (.mov (.s 7)),oo 41 (.indexAddr 1 (.s 39) (.s 40)),oo 42 (.load false 1 (.s 41)),oo 43 (.call 102 [(.s 38), (.s 42)]),oo 8 (.mov (.s 43))]) [5, 6, 7, 8] (.seq (.region false [oo 44 (.mov (.s 8)),
 oo 45 (.bin .neq false (.s 44) (.c (.int .i64 0)))]) [5, 6, 7, 8, 45] (.cond (.s 45) (.seq (.region false [oo 46 (.mov (.s 8)),oo 4 (.mov (.s 46))]) [4] (.ret)) (.skip))))) [5, 6, 7] (.region false [oo 33 (.mov (.s 7)),oo 34 (.bin .add false (.s 33) (.c (.int .i64 1))),
 oo 7 (.mov (.s 34))])))))) [5, 6] (.seq (.region false [oo 47 (.mov (.s 5)),oo 48 (.len (.s 47)),oo 49 (.mov (.s 6)),oo 50 (.len (.s 49)),oo 51 (.call 98 [(.s 48), (.s 50)]),oo 4 (.mov (.s 51))]) [4] (.ret)))))⟩
def tf102 : TFn := ⟨40, [.tmp 4],.seq (.region false [oo 4 (.mov (.c (.int .i64 0)))]) [0, 1] (.seq (.region false [oo 11 (.mov (.s 0)),oo 12 (.call 79 [(.s 11)]),oo 13 (.mov (.s 1)),oo 14 (.call 79 [(.s 13)]),oo 5 (.mov (.s 12)),oo 6 (.mov (.s 14))]) [0, 1, 5, 6] (.seq (.block 0 (.seq (
 .region false [oo 16 (.mov (.s 5)),oo 17 (.mov (.s 16)),⟨some 18, .mov (.s 6), (some (17, true))⟩,oo 19 (.pick (.s 17) (.s 18) (.c (.bool false))),oo 15 (.mov (.s 19))]) [0, 1, 5, 6, 15] (.cond (.s 15) (.seq (.region false [oo 21 (.mov (.s 0)),oo 22 (.call 78 [(.s 21)]),oo 20 (.mov (.s 22)),
 oo 23 (.extract 0 (.s 20)),oo 24 (.extract 1 (.s 20)),oo 7 (.mov (.s 23)),oo 8 (.mov (.s 24))]) [1, 7] (.seq (.region false [oo 26 (.mov (.s 1)),oo 27 (.call 78 [(.s 26)]),oo 25 (.mov (.s 27)),oo 28 (.extract 0 (.s 25)),oo 29 (.extract 1 (.s 25)),oo 9 (.mov (.s 28)),oo 10 (.mov (.s 29))]) [7, 9] (
 .seq (.region false [oo 30 (.mov (.s 7)),oo 31 (.mov (.s 9)),oo 32 (.call 98 [(.s 30), (.s 31)]),oo 4 (.mov (.s 32))]) [4] (.ret)))) (.seq (.region false [oo 34 (.mov (.s 5)),oo 33 (.mov (.s 34))]) [0, 1, 6, 33] (.cond (.s 33) (.seq (.region false [oo 4 (.mov (.c (.int .i64 (-1))))]) [4] (.ret)) (
 .seq (.region false [oo 36 (.mov (.s 6)),oo 35 (.mov (.s 36))]) [0, 1, 35] (.cond (.s 35) (.seq (.region false [oo 4 (.mov (.c (.int .i64 1)))]) [4] (.ret)) (.skip)))))))) [0, 1] (.seq (.region false [oo 37 (.mov (.s 0)),oo 38 (.mov (.s 1)),oo 39 (.call 103 [(.s 37), (.s 38)]),
 oo 4 (.mov (.s 39))]) [4] (.ret))))⟩
def tf103 : TFn := ⟨13, [.tmp 4],.seq (.region false [oo 4 (.mov (.c (.int .i64 0)))]) [0, 1] (.seq (.block 0 (.seq (.region false [oo 6 (.mov (.s 0)),oo 7 (.mov (.s 1)),oo 8 (.bin .lss false (.s 6) (.s 7)),oo 5 (.mov (.s 8))]) [0, 1, 5] (.cond (.s 5) (.seq (
 .region false [oo 4 (.mov (.c (.int .i64 (-1))))]) [4] (.ret)) (.seq (.region false [oo 10 (.mov (.s 0)),oo 11 (.mov (.s 1)),oo 12 (.bin .gtr false (.s 10) (.s 11)),oo 9 (.mov (.s 12))]) [9] (.cond (.s 9) (.seq (.region false [oo 4 (.mov (.c (.int .i64 1)))]) [4] (.ret)) (.skip)))))) [] (.seq (
 .region false [oo 4 (.mov (.c (.int .i64 0)))]) [4] (.ret)))⟩
theorem tp3 : QK Try.prog Try.f3 = some tf3.erase := by kernel_rfl
theorem tp4 : QK Try.prog Try.f4 = some tf4.erase := by kernel_rfl
theorem tp5 : QK Try.prog Try.f5 = some tf5.erase := by kernel_rfl
theorem tp6 : QK Try.prog Try.f6 = some tf6.erase := by kernel_rfl
theorem tp7 : QK Try.prog Try.f7 = some tf7.erase := by kernel_rfl
theorem tp8 : QK Try.prog Try.f8 = some tf8.erase := by kernel_rfl
theorem tp9 : QK Try.prog Try.f9 = some tf9.erase := by kernel_rfl
theorem QqX : QK Try.prog Try.f10 = some tf10.erase := by kernel_rfl
theorem QqY : QK Try.prog Try.f11 = some tf11.erase := by kernel_rfl
theorem QqZ : QK Try.prog Try.f12 = some tf12.erase := by kernel_rfl
theorem Qq0 : QK Try.prog Try.f13 = some tf13.erase := by kernel_rfl
theorem Qq1 : QK Try.prog Try.f14 = some tf14.erase := by kernel_rfl
theorem Qq2 : QK Try.prog Try.f15 = some tf15.erase := by kernel_rfl
theorem Qq3 : QK Try.prog Try.f16 = some tf16.erase := by kernel_rfl
theorem Qq4 : QK Try.prog Try.f17 = some tf17.erase := by kernel_rfl
theorem Qq5 : QK Try.prog Try.f18 = some tf18.erase := by kernel_rfl
theorem Qq6 : QK Try.prog Try.f19 = some tf19.erase := by kernel_rfl
theorem Qq7 : QK Try.prog Try.f20 = some tf20.erase := by kernel_rfl
theorem Qq8 : QK Try.prog Try.f21 = some tf21.erase := by kernel_rfl
theorem Qq9 : QK Try.prog Try.f22 = some tf22.erase := by kernel_rfl
theorem Qra : QK Try.prog Try.f23 = some tf23.erase := by kernel_rfl
theorem Qrb : QK Try.prog Try.f24 = some tf24.erase := by kernel_rfl
theorem Qrc : QK Try.prog Try.f25 = some tf25.erase := by kernel_rfl
theorem Qrd : QK Try.prog Try.f26 = some tf26.erase := by kernel_rfl
theorem Qre : QK Try.prog Try.f27 = some tf27.erase := by kernel_rfl
theorem Qrf : QK Try.prog Try.f28 = some tf28.erase := by kernel_rfl
theorem Qrg : QK Try.prog Try.f29 = some tf29.erase := by kernel_rfl
theorem Qrh : QK Try.prog Try.f30 = some tf30.erase := by kernel_rfl
theorem Qri : QK Try.prog Try.f31 = some tf31.erase := by kernel_rfl
theorem Qrj : QK Try.prog Try.f32 = some tf32.erase := by kernel_rfl
theorem Qrk : QK Try.prog Try.f33 = some tf33.erase := by kernel_rfl
theorem Qrl : QK Try.prog Try.f34 = some tf34.erase := by kernel_rfl
theorem Qrm : QK Try.prog Try.f35 = some tf35.erase := by kernel_rfl
theorem Qrn : QK Try.prog Try.f36 = some tf36.erase := by kernel_rfl
theorem Qro : QK Try.prog Try.f37 = some tf37.erase := by kernel_rfl
theorem Qrp : QK Try.prog Try.f38 = some tf38.erase := by kernel_rfl
theorem Qrq : QK Try.prog Try.f39 = some tf39.erase := by kernel_rfl
theorem Qrr : QK Try.prog Try.f40 = some tf40.erase := by kernel_rfl
theorem Qrs : QK Try.prog Try.f41 = some tf41.erase := by kernel_rfl
theorem Qrt : QK Try.prog Try.f42 = some tf42.erase := by kernel_rfl
theorem Qru : QK Try.prog Try.f43 = some tf43.erase := by kernel_rfl
theorem Qrv : QK Try.prog Try.f44 = some tf44.erase := by kernel_rfl
theorem Qrw : QK Try.prog Try.f45 = some tf45.erase := by kernel_rfl
theorem Qrx : QK Try.prog Try.f46 = some tf46.erase := by kernel_rfl
theorem Qry : QK Try.prog Try.f47 = some tf47.erase := by kernel_rfl
theorem Qrz : QK Try.prog Try.f48 = some tf48.erase := by kernel_rfl
theorem QrA : QK Try.prog Try.f49 = some tf49.erase := by kernel_rfl
theorem QrB : QK Try.prog Try.f50 = some tf50.erase := by kernel_rfl
theorem QrC : QK Try.prog Try.f51 = some tf51.erase := by kernel_rfl
theorem QrD : QK Try.prog Try.f52 = some tf52.erase := by kernel_rfl
theorem QrE : QK Try.prog Try.f53 = some tf53.erase := by kernel_rfl
theorem QrF : QK Try.prog Try.f54 = some tf54.erase := by kernel_rfl
theorem QrG : QK Try.prog Try.f55 = some tf55.erase := by kernel_rfl
theorem QrH : QK Try.prog Try.f56 = some tf56.erase := by kernel_rfl
theorem QrI : QK Try.prog Try.f57 = some tf57.erase := by kernel_rfl
theorem QrJ : QK Try.prog Try.f58 = some tf58.erase := by kernel_rfl
theorem QrK : QK Try.prog Try.f59 = some tf59.erase := by kernel_rfl
theorem QrL : QK Try.prog Try.f60 = some tf60.erase := by kernel_rfl
theorem QrM : QK Try.prog Try.f61 = some tf61.erase := by kernel_rfl
theorem QrN : QK Try.prog Try.f62 = some tf62.erase := by kernel_rfl
theorem QrO : QK Try.prog Try.f63 = some tf63.erase := by kernel_rfl
theorem QrP : QK Try.prog Try.f64 = some tf64.erase := by kernel_rfl
theorem QrQ : QK Try.prog Try.f65 = some tf65.erase := by kernel_rfl
theorem QrR : QK Try.prog Try.f66 = some tf66.erase := by kernel_rfl
theorem QrS : QK Try.prog Try.f67 = some tf67.erase := by kernel_rfl
theorem QrT : QK Try.prog Try.f68 = some tf68.erase := by kernel_rfl
theorem QrU : QK Try.prog Try.f69 = some tf69.erase := by kernel_rfl
theorem QrV : QK Try.prog Try.f70 = some tf70.erase := by kernel_rfl
theorem QrW : QK Try.prog Try.f71 = some tf71.erase := by kernel_rfl
theorem QrX : QK Try.prog Try.f72 = some tf72.erase := by kernel_rfl
theorem QrY : QK Try.prog Try.f73 = some tf73.erase := by kernel_rfl
theorem QrZ : QK Try.prog Try.f74 = some tf74.erase := by kernel_rfl
theorem Qr0 : QK Try.prog Try.f75 = some tf75.erase := by kernel_rfl
theorem Qr1 : QK Try.prog Try.f76 = some tf76.erase := by kernel_rfl
theorem Qr2 : QK Try.prog Try.f77 = some tf77.erase := by kernel_rfl
theorem Qr3 : QK Try.prog Try.f78 = some tf78.erase := by kernel_rfl
theorem Qr4 : QK Try.prog Try.f79 = some tf79.erase := by kernel_rfl
theorem Qr5 : QK Try.prog Try.f80 = some tf80.erase := by kernel_rfl
theorem Qr6 : QK Try.prog Try.f81 = some tf81.erase := by kernel_rfl
theorem Qr7 : QK Try.prog Try.f82 = some tf82.erase := by kernel_rfl
theorem Qr8 : QK Try.prog Try.f83 = some tf83.erase := by kernel_rfl
theorem Qr9 : QK Try.prog Try.f84 = some tf84.erase := by kernel_rfl
theorem Qsa : QK Try.prog Try.f85 = some tf85.erase := by kernel_rfl
theorem Qsb : QK Try.prog Try.f86 = some tf86.erase := by kernel_rfl
theorem Qsc : QK Try.prog Try.f87 = some tf87.erase := by kernel_rfl
theorem Qsd : QK Try.prog Try.f88 = some tf88.erase := by kernel_rfl
theorem Qse : QK Try.prog Try.f89 = some tf89.erase := by kernel_rfl
theorem Qsf : QK Try.prog Try.f90 = some tf90.erase := by kernel_rfl
theorem Qsg : QK Try.prog Try.f91 = some tf91.erase := by kernel_rfl
theorem Qsh : QK Try.prog Try.f92 = some tf92.erase := by kernel_rfl
theorem Qsi : QK Try.prog Try.f93 = some tf93.erase := by kernel_rfl
theorem Qsj : QK Try.prog Try.f94 = some tf94.erase := by kernel_rfl
theorem Qsk : QK Try.prog Try.f95 = some tf95.erase := by kernel_rfl
theorem Qsl : QK Try.prog Try.f96 = some tf96.erase := by kernel_rfl
theorem Qsm : QK Try.prog Try.f97 = some tf97.erase := by kernel_rfl
theorem Qsn : QK Try.prog Try.f98 = some tf98.erase := by kernel_rfl
theorem Qso : QK Try.prog Try.f99 = some tf99.erase := by kernel_rfl
theorem QqI : QK Try.prog Try.f100 = some tf100.erase := by kernel_rfl
theorem QqJ : QK Try.prog Try.f101 = some tf101.erase := by kernel_rfl
theorem QqK : QK Try.prog Try.f102 = some tf102.erase := by kernel_rfl
theorem QqL : QK Try.prog Try.f103 = some tf103.erase := by kernel_rfl
theorem Z2 : Try.prog.follows .mixedOrders = true := by kernel_rfl
end Go.Proofs
namespace M3
open Go Go.Abs
def Qjr (n : Int) : Bool := decide (0 <= n) && decide (n <= 9999)
def QcJ (m n : Int) : Int := if m < n then -1 else if n < m then 1 else 0
def Qaj (c : UInt8) : Bool := decide (48 <= c.toNat) && decide (c.toNat <= 57)
def XD (s : List UInt8) : Bool := s.all Qaj && !decide (s = [])
theorem QgG {s : List UInt8} {i : Nat} (h : i < s.length) (hd : Qaj s[i] = false) : XD s = false := by
 have : s.all Qaj = false := by
  rw [Bool.eq_false_iff]
  intro ha
  rw [List.all_eq_true] at ha
  rw [ha _ (List.getElem_mem h)] at hd
  cases hd
 rw [XD, this]; rfl
theorem Qju {s : List UInt8} {i : Nat} (hi : s.length <= i) (h : (s.take i).all Qaj = true) : XD s = !decide (s = []) := by
 rw [List.take_of_length_le hi] at h
 rw [XD, h]; rfl
def QfK (v n : Int) : Int := if v.tmod n < 0 then v.tmod n + n else v.tmod n
def Zt (l : List Int) : D := .sl (l.map fun x => [.int .i64 x])
theorem QnR {v n : Int} (h : 0 < n) : 0 <= QfK v n := by
 unfold QfK
 have h1 := Int.tmod_lt_of_pos v h
 have h2 := Int.lt_tmod_of_pos v h
 split <;> omega
theorem QnQ {v n : Int} (h : 0 < n) : QfK v n < n := by
 unfold QfK
 have h1 := Int.tmod_lt_of_pos v h
 split <;> omega
end M3
namespace M3
open Go Go.Abs
def QaK (c : Int) : List UInt8 -> List UInt8 -> List (List UInt8)
 | [], cur => [cur]
 | x :: xs, cur => if (x.toNat : Int) = c then cur :: QaK c xs [] else QaK c xs (cur ++ [x])
def Yn (s : List UInt8) (c : Int) : List (List UInt8) := QaK c s []
def QaQ (l : List (List UInt8)) : List (List D) := l.map fun x => [.str x]
def SplitI (s : List UInt8) (c : Int) (i k : Nat) (acc : List (List UInt8)) : Prop :=
 i <= s.length /\ k <= i /\ acc.length <= i /\ Yn s c = acc ++ QaK c (s.drop i) ((s.take i).drop k)
theorem SplitI.zero {s : List UInt8} {c : Int} : SplitI s c 0 0 [] := ⟨Nat.zero_le _, Nat.le_refl _, Nat.le_refl _, by simp [Yn]⟩
theorem SplitI.hit {s : List UInt8} {c : Int} {i k : Nat} {acc : List (List UInt8)} (h : SplitI s c i k acc) (hi : i < s.length) (he : ((s[i]).toNat : Int) = c) : SplitI s c (i + 1) (i + 1) (acc ++ [(s.take i).drop k]) := by
 obtain ⟨h1, h2, h3, h4⟩ := h
 refine ⟨hi, Nat.le_refl _, by simp; omega, ?_⟩
 rw [List.drop_eq_getElem_cons hi] at h4
 simp only [QaK, he, if_true] at h4
 rw [h4, List.append_assoc]
 simp
theorem SplitI.miss {s : List UInt8} {c : Int} {i k : Nat} {acc : List (List UInt8)} (h : SplitI s c i k acc) (hi : i < s.length) (he : ¬ ((s[i]).toNat : Int) = c) : SplitI s c (i + 1) k acc := by
 obtain ⟨h1, h2, h3, h4⟩ := h
 refine ⟨hi, by omega, by omega, ?_⟩
 rw [List.drop_eq_getElem_cons hi] at h4
 simp only [QaK, he, if_false] at h4
 rw [h4, List.take_succ_eq_append_getElem hi, List.drop_append_of_le_length (by simp; omega)]
theorem SplitI.done {s : List UInt8} {c : Int} {i k : Nat} {acc : List (List UInt8)} (h : SplitI s c i k acc) (hi : s.length <= i) : Yn s c = acc ++ [s.drop k] := by
 obtain ⟨h1, h2, h3, h4⟩ := h
 rw [h4, List.drop_eq_nil_of_le hi, List.take_of_length_le hi]
 rfl
end M3
namespace M3
open Go Go.Abs
def Qiy (a b : List UInt8) : Int := if Op.bytesLess a b = true then -1 else if a = b then 0 else 1
def XM (c : Int) : Bool := decide (48 <= c) && decide (c <= 57)
def Xd (c : UInt8) : Bool := (decide (97 <= c.toNat) && decide (c.toNat <= 122)) || (decide (48 <= c.toNat) && decide (c.toNat <= 57)) || decide (c.toNat = 45)
def QfM (s : List UInt8) : Bool := decide (1 <= s.length) && decide (s.length <= 8) && s.all Xd
def val (s : List UInt8) : Nat := s.foldl (fun n c => 10 * n + (c.toNat - 48)) 0
def Y9 (s : List UInt8) : Int × Bool :=
 if s.length < 1 \/ 9 < s.length \/ (1 < s.length /\ s.head? = some 48) \/ s.all Qaj = false \/ 9999 < val s then (0, false) else ((val s : Int), true)
def Qm6 (a b : List UInt8) : Int :=
 if XD a = true /\ XD b = true then QcJ (Y9 a).1 (Y9 b).1
 else if XD a = true then -1 else if XD b = true then 1 else Qiy a b
def Qlk : List (List UInt8) -> List (List UInt8) -> Int
 | [], [] => 0
 | [], _ :: _ => -1
 | _ :: _, [] => 1
 | a :: l, b :: m => if Qm6 a b ≠ 0 then Qm6 a b else Qlk l m
def Qgb (a b : List UInt8) : Int := if a = b then 0 else if a = [] then 1 else if b = [] then -1 else Qlk (Yn a 46) (Yn b 46)
def QeM (pre : Bool) (t : List UInt8) : Bool := QfM t && !(pre && XD t && !(Y9 t).2)
def Qb5 (s : List UInt8) (pre : Bool) : Bool := decide (s = []) || (decide ((Yn s 46).length <= 4) && (Yn s 46).all (QeM pre))
def QhO (a b c : Int) (p q : List UInt8) : Bool := Qjr a && Qjr b && Qjr c && Qb5 p true && Qb5 q false
def Ql7 (a b c : Int) (p q : List UInt8) (a' b' c' : Int) (p' q' : List UInt8) : Int :=
 if QhO a b c p q = false \/ QhO a' b' c' p' q' = false then 0
 else if QcJ a a' ≠ 0 then QcJ a a' else if QcJ b b' ≠ 0 then QcJ b b' else if QcJ c c' ≠ 0 then QcJ c c' else Qgb p p'
theorem XJ {α : Type} {s : List α} {p : α -> Bool} {i : Nat} (h : i < s.length) (hd : p s[i] = false) : s.all p = false := by
 rw [Bool.eq_false_iff]
 intro ha
 rw [List.all_eq_true] at ha
 rw [ha _ (List.getElem_mem h)] at hd
 cases hd
theorem Xy {α : Type} {s : List α} {p : α -> Bool} {i : Nat} (hi : s.length <= i) (h : (s.take i).all p = true) : s.all p = true := by rwa [List.take_of_length_le hi] at h
theorem QkH {s : List UInt8} {i : Nat} (h : i < s.length) : val (s.take (i + 1)) = 10 * val (s.take i) + (s[i].toNat - 48) := by
 rw [List.take_succ_eq_append_getElem h]; simp only [val, List.foldl_append, List.foldl_cons, List.foldl_nil]
theorem Qqe : ∀ {s : List UInt8}, s.all Qaj = true -> val s < 10 ^ s.length := by
 intro s
 rw [<- List.reverse_reverse s]
 generalize s.reverse = r
 induction r with
 | nil => intro _; decide
 | cons c r ih =>
  intro h
  rw [List.reverse_cons, List.all_append, Bool.and_eq_true] at h
  have h1 := ih h.1
  have h2 : Qaj c = true := by simpa using h.2
  simp only [Qaj, Bool.and_eq_true, decide_eq_true_eq] at h2
  rw [List.reverse_cons]
  simp only [val, List.foldl_append, List.foldl_cons, List.foldl_nil, List.length_append, List.length_cons, List.length_nil] at h1 ⊢
  rw [Nat.pow_succ]
  omega
theorem Qmf {l m : List (List UInt8)} {i : Nat} (h1 : i < l.length) (h2 : i < m.length) (h : Qm6 l[i] m[i] = 0) : Qlk (l.drop i) (m.drop i) = Qlk (l.drop (i + 1)) (m.drop (i + 1)) := by
 rw [List.drop_eq_getElem_cons h1, List.drop_eq_getElem_cons h2]
 simp [Qlk, h]
theorem Qck {l m : List (List UInt8)} {i : Nat} (h1 : i < l.length) (h2 : i < m.length) (h : Qm6 l[i] m[i] ≠ 0) : Qlk (l.drop i) (m.drop i) = Qm6 l[i] m[i] := by
 rw [List.drop_eq_getElem_cons h1, List.drop_eq_getElem_cons h2]
 simp [Qlk, h]
theorem Qcj {l m : List (List UInt8)} {i : Nat} (hl : i <= l.length) (hm : i <= m.length) (h : l.length <= i \/ m.length <= i) : Qlk (l.drop i) (m.drop i) = QcJ l.length m.length := by
 rcases Nat.lt_or_ge i l.length with h1 | h1 <;> rcases Nat.lt_or_ge i m.length with h2 | h2
 ·omega
 ·rw [List.drop_eq_getElem_cons h1, List.drop_eq_nil_of_le h2]
  simp only [Qlk, QcJ]
  rw [if_neg (by omega), if_pos (by omega)]
 ·rw [List.drop_eq_getElem_cons h2, List.drop_eq_nil_of_le h1]
  simp only [Qlk, QcJ]
  rw [if_pos (by omega)]
 ·rw [List.drop_eq_nil_of_le h1, List.drop_eq_nil_of_le h2]
  simp only [Qlk, QcJ]
  rw [if_neg (by omega), if_neg (by omega)]
end M3
namespace M3
end M3
namespace M3
theorem QpT {s : List UInt8} (h : 0 < s.length) (e : ((s[0]).toNat : Int) = 48) : s.head? = some 48 := by
 cases s with
 | nil => simp at h
 | cons x r =>
  simp only [List.getElem_cons_zero] at e
  have : x = 48 := UInt8.toNat_inj.1 (by simpa using (by omega : x.toNat = 48))
  simp [this]
theorem QlW {s : List UInt8} (h : 0 < s.length) (e : ¬ ((s[0]).toNat : Int) = 48) : s.head? ≠ some 48 := by
 cases s with
 | nil => simp at h
 | cons x r =>
  simp only [List.getElem_cons_zero] at e
  intro hh
  simp at hh
  subst hh
  exact e rfl
theorem QgF {s : List UInt8} {i : Nat} (h : ¬ (s.length < 1 \/ 9 < s.length \/ (1 < s.length /\ s.head? = some 48))) (hi : s.length <= i) (ha : (s.take i).all Qaj = true) (hv : val (s.take i) <= 9999) : Y9 s = ((val (s.take i) : Int), true) := by
 have h1 := Xy hi ha
 rw [List.take_of_length_le hi] at hv ⊢
 rw [Y9, if_neg]
 rintro (q | q | q | q | q)
 ·exact h (.inl q)
 ·exact h (.inr (.inl q))
 ·exact h (.inr (.inr q))
 ·rw [h1] at q; cases q
 ·omega
theorem Qej {s : List UInt8} {i : Nat} (hi : s.length <= i) (hv : 9999 < val (s.take i)) : Y9 s = (0, false) := by
 rw [List.take_of_length_le hi] at hv
 rw [Y9, if_pos (.inr (.inr (.inr (.inr hv))))]
theorem Qek {s : List UInt8} {i : Nat} (h : i < s.length) (hd : Qaj s[i] = false) : Y9 s = (0, false) := by
 rw [Y9, if_pos (.inr (.inr (.inr (.inl (XJ h hd)))))]
theorem Qel {s : List UInt8} (h : s.length < 1 \/ 9 < s.length) : Y9 s = (0, false) := by
 rw [Y9, if_pos (by rcases h with h | h; exact .inl h; exact .inr (.inl h))]
theorem Qcm {s : List UInt8} (h : 1 < s.length) (e : ((s[0]).toNat : Int) = 48) : Y9 s = (0, false) := by
 rw [Y9, if_pos (.inr (.inr (.inl ⟨h, QpT (by omega) e⟩)))]
end M3
namespace M3
open Go Go.Abs
theorem Ze (l : List (List UInt8)) : (QaQ l).length = l.length := by simp [QaQ]
theorem Qdu {l : List (List UInt8)} {i : Nat} (h : i < l.length) : (QaQ l)[((i : Nat) : Int).toNat]? = some [.str l[i]] := by simp [QaQ, h]
theorem Qbn {c : Int} : ∀ (s cur : List UInt8), (QaK c s cur).length <= s.length + 1 /\ ∀ x ∈ QaK c s cur, x.length <= s.length + cur.length
 | [], cur => by simp [QaK]
 | x :: xs, cur => by
  simp only [QaK]
  split
  ·obtain ⟨h1, h2⟩ := Qbn (c := c) xs []
   refine ⟨by simp; omega, fun y hy => ?_⟩
   rcases List.mem_cons.1 hy with rfl | hy
   ·simp <;> omega
   ·have := h2 y hy; simp at this ⊢; omega
  ·obtain ⟨h1, h2⟩ := Qbn (c := c) xs (cur ++ [x])
   refine ⟨by simp; omega, fun y hy => ?_⟩
   have := h2 y hy; simp at this ⊢; omega
theorem QmR {s : List UInt8} {c : Int} : (Yn s c).length <= s.length + 1 := (Qbn s []).1
theorem QdU {s : List UInt8} {c : Int} {i : Nat} (h : i < (Yn s c).length) (hl : s.length <= 1000000) : ((Yn s c)[i]).length <= 1000000 := by
 have := (Qbn (c := c) s []).2 _ (List.getElem_mem h)
 simp only [List.length_nil, Nat.add_zero] at this
 exact Nat.le_trans this hl
end M3
namespace M3
open Go Go.Abs
theorem QdG {s : List UInt8} {pre : Bool} {i : Nat} (hs : s ≠ []) (h : i < (Yn s 46).length) (hd : QeM pre (Yn s 46)[i] = false) : Qb5 s pre = false := by
 rw [Qb5, XJ h hd]; simp [hs]
theorem Qb6 {s : List UInt8} {pre : Bool} {i : Nat} (h4 : (Yn s 46).length <= 4) (hi : (Yn s 46).length <= i) (h : ((Yn s 46).take i).all (QeM pre) = true) : Qb5 s pre = true := by
 rw [Qb5, Xy hi h]; simp [h4]
end M3
namespace M3
open Go Go.Abs
structure Cu where
 e : Int
 a : Int
 b : Int
 c : Int
 p : List UInt8
 q : List UInt8
 f : Bool
def Qed (e a b c : Int) (p q : List UInt8) (f : Bool) : Bool :=
 if e = 0 then QhO a b c p q && decide (q = [])
 else (decide (e = -1) || decide (e = 1)) && (decide (a = 0) && (decide (b = 0) && (decide (c = 0) && (decide (p = []) && (decide (q = []) && true))))) && !f
def Qbg (e a b c : Int) (p q : List UInt8) (f : Bool) (e' a' b' c' : Int) (p' q' : List UInt8) (f' : Bool) : Int :=
 if Qed e a b c p q f = false \/ Qed e' a' b' c' p' q' f' = false then 0
 else if e ≠ e' \/ e ≠ 0 then QcJ e e'
 else if Ql7 a b c p q a' b' c' p' q' ≠ 0 then Ql7 a b c p q a' b' c' p' q'
 else if f = f' then 0 else if f' = true then -1 else 1
def Qae (e a b c : Int) (p q : List UInt8) (f : Bool) (a' b' c' : Int) (p' q' : List UInt8) : Bool :=
 if Qed e a b c p q f = false \/ QhO a' b' c' p' q' = false then false
 else if e ≠ 0 then decide (e < 0)
 else decide (Ql7 a b c p q a' b' c' p' q' < 0) || (decide (Ql7 a b c p q a' b' c' p' q' = 0) && !f)
end M3
namespace M3
def Qhv (e a b c : Int) (p q : List UInt8) (f : Bool) (e' a' b' c' : Int) (p' q' : List UInt8) (f' : Bool) : Bool :=
 Qed e a b c p q f && Qed e' a' b' c' p' q' f' && decide (Qbg e a b c p q f e' a' b' c' p' q' f' < 0)
def QcN (e a b c : Int) (p q : List UInt8) (f : Bool) (e' a' b' c' : Int) (p' q' : List UInt8) (f' : Bool) (x y z : Int) (r s : List UInt8) : Bool :=
 Qhv e a b c p q f e' a' b' c' p' q' f' && QhO x y z r s && Qae e a b c p q f x y z r s && !Qae e' a' b' c' p' q' f' x y z r s
end M3
namespace M3
open Go Go.Abs
end M3
namespace M3
open Go Go.Abs
end M3
namespace M3
open Go Go.Abs
end M3
namespace M3
open Go Go.Abs
end M3
namespace Go.Proofs
open Go Go.Abs M3
set_option linter.unusedVariables false
set_option linter.unusedSimpArgs false
theorem Xj {n : Int} : Ok Try.prog 57 [.int .i64 n] (.bool (Qjr n)) := by
 refine Ok.ofT Z2 Try.func57 QrI (Nat.le_of_ble_eq_true rfl) ?_
 show TW _ _ tf57.body _ _
 refine Qe fun K hK => Qa rfl ?_
 refine hK _ _ (Qb (kp1 rfl) ?_)
 refine Qe fun K hK => Qa rfl (Qew rfl rfl (Qa rfl ?_))
 refine QF (g := 5) rfl (fun h1 => ?_) (fun h1 => ?_)
 ·try rw [h1]
  try simp only [qa, qb, qc, qd, qe] at h1
  refine Qk rfl (Qa rfl (Qk rfl (QoO rfl rfl (Qn rfl rfl (Qa rfl ?_)))))
  refine hK _ _ (Qb (kp1 rfl) ?_)
  refine Qu (Qs rfl ?_)
  simp_all [Qjr] <;> omega
 ·try rw [h1]
  try simp only [qa, qb, qc, qd, qe] at h1
  refine Qt rfl (Qt rfl (Qn rfl rfl (Qa rfl ?_)))
  refine hK _ _ (Qb (kp1 rfl) ?_)
  refine Qu (Qs rfl ?_)
  simp_all [Qjr] <;> omega
theorem Zs {m n : Int} : Ok Try.prog 98 [.int .i64 m, .int .i64 n] (.int .i64 (QcJ m n)) := by
 refine Ok.ofT Z2 Try.func98 Qsn (Nat.le_of_ble_eq_true rfl) ?_
 show TW _ _ tf98.body _ _
 refine Qe fun K hK => Qa rfl ?_
 refine hK _ _ (Qb (kp2 rfl rfl) ?_)
 refine QC ?_ -- 0
 refine QA (Qe fun K hK => Qa rfl (Qa rfl (Yb rfl rfl (Qa rfl ?_))))
 refine hK _ _ (Qb (kp3 rfl rfl rfl) ?_)
 refine Qw rfl (fun h1 => ?_) (fun h1 => ?_)
 ·try rw [h1]
  try simp only [qa, qb, qc, qd, qe] at h1
  refine Qe fun K hK => Qa rfl ?_
  refine hK _ _ (Qb (kp1 rfl) ?_)
  refine Qu (Qr (Qi (QE rfl ?_)))
  simp_all [QcJ] <;> omega
 ·try rw [h1]
  try simp only [qa, qb, qc, qd, qe] at h1
  refine Qe fun K hK => Qa rfl (Qa rfl (Qi1 rfl rfl (Qa rfl ?_)))
  refine hK _ _ (Qb (kp1 rfl) ?_)
  refine Qw rfl (fun h2 => ?_) (fun h2 => ?_)
  ·try rw [h2]
   try simp only [qa, qb, qc, qd, qe] at h2
   refine Qe fun K hK => Qa rfl ?_
   refine hK _ _ (Qb (kp1 rfl) ?_)
   refine Qu (Qr (Qi (QE rfl ?_)))
   simp_all [QcJ] <;> omega
  ·try rw [h2]
   try simp only [qa, qb, qc, qd, qe] at h2
   refine Qv (Qg (Qd (Q4) (Qe fun K hK => Qa rfl ?_)))
   refine hK _ _ (Qb (kp1 rfl) ?_)
   refine Qu (QE rfl ?_)
   simp_all [QcJ] <;> omega
theorem YV {s : List UInt8} {c : Int} (hl : s.length <= 1000000) : Ok Try.prog 76 [.str s, .int .u8 c] (.sl (QaQ (Yn s c))) := by
 refine Ok.ofT Z2 Try.func76 Qr1 (Nat.le_of_ble_eq_true rfl) ?_
 show TW _ _ tf76.body _ _
 refine Qe fun K hK => Qa rfl ?_
 refine hK _ _ (Qb (kp2 rfl rfl) ?_)
 refine Qe fun K hK => Qa rfl ?_
 refine hK _ _ (Qb (kp3 rfl rfl rfl) ?_)
 refine Qe fun K hK => Qa rfl ?_
 refine hK _ _ (Qb (kp4 rfl rfl rfl rfl) ?_)
 refine QC ?_ -- 0
 refine Qe fun K hK => Qa rfl ?_
 refine hK _ _ (Qb (kp5 rfl rfl rfl rfl rfl) ?_)
 refine QA ?_
 refine Zq (ι := Nat × Nat × List (List UInt8)) (fun ⟨i, k, acc⟩ => ⟨[(0, .str s), (1, .int .u8 c), (5, .osl 25 acc.length), (6, .int .i64 k), (7, .int .i64 i)], [(25, ⟨QaQ acc, 1, 9, true⟩)]⟩) (fun ⟨i, k, acc⟩ => SplitI s c i k acc) (fun ⟨i, k, acc⟩ => s.length - i) (0, 0, []) ?_ ?_ ?_
 ·exact le_trans (Yx 5 25 1 9 rfl rfl) (Q7 (l := [0, 1, 5, 6, 7]) (lH := [25]) (kp5 rfl rfl rfl rfl rfl) (Qf rfl Qo) rfl rfl rfl)
 ·exact SplitI.zero
 intro ⟨i, k, acc⟩ hI
 have hI1 := hI.1
 have hI2 := hI.2.1
 have hI3 := hI.2.2.1
 try dsimp only
 refine QC ?_ -- 1
 refine Qe fun K hK => Qa rfl (Qa rfl (XA rfl (Yb rfl rfl ?_)))
 refine hK _ _ (Qb (kp6 rfl rfl rfl rfl rfl rfl) ?_)
 refine Qw rfl (fun h1 => ?_) (fun h1 => ?_)
 ·try rw [h1]
  try simp only [qa, qb, qc, qd, qe] at h1
  refine Qv (Qd (kp5 rfl rfl rfl rfl rfl) ?_)
  refine QC ?_ -- 2
  refine QA (Qe fun K hK => Qa rfl (Qa rfl (Xx rfl rfl (by omega) (Qfw (by omega)) (Qa rfl (ZH rfl rfl ?_)))))
  refine hK _ _ (Qb (kp6 rfl rfl rfl rfl rfl rfl) ?_)
  refine Qw rfl (fun h2 => ?_) (fun h2 => ?_)
  ·try rw [h2]
   try simp only [qa, qb, qc, qd, qe] at h2
   refine Qe fun K hK => Qa rfl (Qa rfl (Qa rfl (Qa rfl (Qge rfl rfl rfl (by omega) (by omega) (by omega) rfl (QB rfl rfl (XH rfl rfl (fun _ h => Xo rfl rfl rfl h) rfl (by simp [QaQ]) rfl rfl rfl (by simp; omega) (by simp; omega) (Qa rfl ?_)))))))
   refine hK _ _ (Qb (kp4 rfl rfl rfl rfl) ?_)
   refine QN fun K hK => Qa rfl (Q3 rfl rfl (by first | exact Qp (by omega) (by omega) | exact ZX (by omega) (by omega) | exact Yq (by omega) (by omega) | rfl) (Qa rfl (hK _ ?_)))
   refine Qg (Qd (kp5 rfl rfl rfl rfl rfl) (QN fun K hK => Qa rfl (Q3 rfl rfl (by first | exact Qp (by omega) (by omega) | exact ZX (by omega) (by omega) | exact Yq (by omega) (by omega) | rfl) (Qa rfl (hK _ ?_)))))
   refine Qj (i + 1, i + 1, acc ++ [(s.take i).drop k]) ?_ ?_ ?_
   ·exact Q7 (l := [0, 1, 5, 6, 7]) (lH := [25]) (kp5 rfl rfl rfl rfl rfl) (Qf rfl Qo) (by simp [QaQ, D.scrub]) (by simp [QaQ, Box.scrub]) rfl
   ·exact hI.hit (by omega) (by assumption)
   ·show s.length - (i + 1) < s.length - i; omega
  ·try rw [h2]
   try simp only [qa, qb, qc, qd, qe] at h2
   refine Qv (Qg (Qd (kp5 rfl rfl rfl rfl rfl) (QN fun K hK => Qa rfl (Q3 rfl rfl (by first | exact Qp (by omega) (by omega) | exact ZX (by omega) (by omega) | exact Yq (by omega) (by omega) | rfl) (Qa rfl (hK _ ?_))))))
   refine Qj (i + 1, k, acc) ?_ ?_ ?_
   ·exact Q7 (l := [0, 1, 5, 6, 7]) (lH := [25]) (kp5 rfl rfl rfl rfl rfl) (Qf rfl Qo) (by simp [QaQ, D.scrub]) (by simp [QaQ, Box.scrub]) rfl
   ·exact hI.miss (by omega) (by assumption)
   ·show s.length - (i + 1) < s.length - i; omega
 ·try rw [h1]
  try simp only [qa, qb, qc, qd, qe] at h1
  refine Zi (QM (Qy (QI (Qd (kp3 rfl rfl rfl) (Qe fun K hK => Qa rfl (Qa rfl (Qa rfl (Qge rfl rfl rfl (by omega) (by omega) (by omega) rfl (QB rfl rfl (XH rfl rfl (fun _ h => Xo rfl rfl rfl h) rfl (by simp [QaQ]) rfl rfl rfl (by simp; omega) (by simp; omega) ?_))))))))))
  refine Qa rfl ?_
  refine hK _ _ (Qb (kp1 rfl) ?_)
  refine Qu (Yp rfl ?_)
  rw [hI.done (by omega)]; simp [QbI, D.fz, D.fzS, QcQ, lk, D.can, D.canS, QaQ]
end Go.Proofs
namespace Go.Proofs
open Go Go.Abs M3
set_option linter.unusedVariables false
set_option linter.unusedSimpArgs false
theorem QcG {a b : List UInt8} : Ok Try.prog 103 [.str a, .str b] (.int .i64 (Qiy a b)) := by
 refine Ok.ofT Z2 Try.func103 QqL (Nat.le_of_ble_eq_true rfl) ?_
 show TW _ _ tf103.body _ _
 refine Qe fun K hK => Qa rfl ?_
 refine hK _ _ (Qb (kp2 rfl rfl) ?_)
 refine QC ?_ -- 0
 refine QA (Qe fun K hK => Qa rfl (Qa rfl (Qqr rfl rfl (Qa rfl ?_))))
 refine hK _ _ (Qb (kp3 rfl rfl rfl) ?_)
 refine Qw rfl (fun h1 => ?_) (fun h1 => ?_)
 ·try rw [h1]
  try simp only [qa, qb, qc, qd, qe] at h1
  refine Qe fun K hK => Qa rfl ?_
  refine hK _ _ (Qb (kp1 rfl) ?_)
  refine Qu (Qr (Qi (QE rfl ?_)))
  simp_all [Qiy]
 ·try rw [h1]
  try simp only [qa, qb, qc, qd, qe] at h1
  refine Qe fun K hK => Qa rfl (Qa rfl (Qqq rfl rfl (Qa rfl ?_)))
  refine hK _ _ (Qb (kp1 rfl) ?_)
  refine Qw rfl (fun h2 => ?_) (fun h2 => ?_)
  ·try rw [h2]
   try simp only [qa, qb, qc, qd, qe] at h2
   refine Qe fun K hK => Qa rfl ?_
   refine hK _ _ (Qb (kp1 rfl) ?_)
   refine Qu (Qr (Qi (QE rfl ?_)))
   simp_all [Qiy]
  ·try rw [h2]
   try simp only [qa, qb, qc, qd, qe] at h2
   refine Qv (Qg (Qd (Q4) (Qe fun K hK => Qa rfl ?_)))
   refine hK _ _ (Qb (kp1 rfl) ?_)
   refine Qu (QE rfl ?_)
   simp_all [Qiy]
theorem Qcz {c : Int} : Ok Try.prog 85 [.int .u8 c] (.bool (XM c)) := by
 refine Ok.ofT Z2 Try.func85 Qsa (Nat.le_of_ble_eq_true rfl) ?_
 show TW _ _ tf85.body _ _
 refine Qe fun K hK => Qa rfl ?_
 refine hK _ _ (Qb (kp1 rfl) ?_)
 refine Qe fun K hK => Qa rfl (Qew rfl rfl (Qa rfl ?_))
 refine QF (g := 5) rfl (fun h1 => ?_) (fun h1 => ?_)
 ·try rw [h1]
  try simp only [qa, qb, qc, qd, qe] at h1
  refine Qk rfl (Qa rfl (Qk rfl (QoO rfl rfl (Qn rfl rfl (Qa rfl ?_)))))
  refine hK _ _ (Qb (kp1 rfl) ?_)
  refine Qu (Qs rfl ?_)
  simp_all [XM] <;> omega
 ·try rw [h1]
  try simp only [qa, qb, qc, qd, qe] at h1
  refine Qt rfl (Qt rfl (Qn rfl rfl (Qa rfl ?_)))
  refine hK _ _ (Qb (kp1 rfl) ?_)
  refine Qu (Qs rfl ?_)
  simp_all [XM] <;> omega
theorem YC {s : List UInt8} (hl : s.length <= 1000000) : Ok Try.prog 79 [.str s] (.bool (XD s)) := by
 refine Ok.ofT Z2 Try.func79 Qr4 (Nat.le_of_ble_eq_true rfl) ?_
 show TW _ _ tf79.body _ _
 refine Qe fun K hK => Qa rfl ?_
 refine hK _ _ (Qb (kp1 rfl) ?_)
 refine QC ?_ -- 0
 refine Qe fun K hK => Qa rfl ?_
 refine hK _ _ (Qb (kp2 rfl rfl) ?_)
 refine QA ?_
 refine Zq (ι := Nat) (fun i => ⟨[(0, .str s), (3, .int .i64 i)], []⟩) (fun i => i <= s.length /\ (s.take i).all Qaj = true) (fun i => s.length - i) 0 ?_ ?_ ?_
 ·exact Zc (kp2 rfl rfl)
 ·exact ⟨Nat.zero_le _, rfl⟩
 intro i hI
 try dsimp only
 refine QC ?_ -- 1
 refine Qe fun K hK => Qa rfl (Qa rfl (XA rfl (Yb rfl rfl ?_)))
 refine hK _ _ (Qb (kp3 rfl rfl rfl) ?_)
 refine Qw rfl (fun h1 => ?_) (fun h1 => ?_)
 ·try rw [h1]
  try simp only [qa, qb, qc, qd, qe] at h1
  refine Qv (Qd (kp2 rfl rfl) ?_)
  refine QC ?_ -- 2
  refine QA (Qe fun K hK => Qa rfl (Qa rfl (Xx rfl rfl (by omega) (Qfw (by omega)) (Yb rfl rfl (Qa rfl ?_)))))
  refine QF (g := 14) rfl (fun h2 => ?_) (fun h2 => ?_)
  ·try rw [h2]
   try simp only [qa, qb, qc, qd, qe] at h2
   refine Qt rfl (Qt rfl (Qt rfl (Qt rfl (Qn rfl rfl ?_))))
   refine hK _ _ (Qb (kp3 rfl rfl rfl) ?_)
   refine Zv rfl (Qe fun K hK => Qa rfl ?_)
   refine hK _ _ (Qb (kp1 rfl) ?_)
   refine Qu (Qr (Qi (QZ (Qr (Qi (Qs rfl ?_))))))
   exact (QgG (i := i) (by omega) (by simp [Qaj]; omega)).symm
  ·try rw [h2]
   try simp only [qa, qb, qc, qd, qe] at h2
   refine Qk rfl (Qa rfl (Qk rfl (Qa rfl (Qk rfl (Xx rfl rfl (by omega) (Qfw (by omega)) (Qk rfl (Qi1 rfl rfl (Qn rfl rfl ?_))))))))
   refine hK _ _ (Qb (kp3 rfl rfl rfl) ?_)
   refine Qw rfl (fun h3 => ?_) (fun h3 => ?_)
   ·try rw [h3]
    try simp only [qa, qb, qc, qd, qe] at h3
    refine Qe fun K hK => Qa rfl ?_
    refine hK _ _ (Qb (kp1 rfl) ?_)
    refine Qu (Qr (Qi (QZ (Qr (Qi (Qs rfl ?_))))))
    exact (QgG (i := i) (by omega) (by simp [Qaj]; omega)).symm
   ·try rw [h3]
    try simp only [qa, qb, qc, qd, qe] at h3
    refine Qv (Qg (Qd (kp2 rfl rfl) (QN fun K hK => Qa rfl (Q3 rfl rfl (by first | exact Qp (by omega) (by omega) | exact ZX (by omega) (by omega) | exact Yq (by omega) (by omega) | rfl) (Qa rfl (hK _ ?_))))))
    refine Qj (i + 1) ?_ ?_ ?_
    ·exact Zc (kp2 rfl rfl)
    ·exact ⟨by omega, Z7 (by omega) hI.2 (by simp [Qaj]; omega)⟩
    ·first | omega | (simp only; omega) | (dsimp only; omega)
 ·try rw [h1]
  try simp only [qa, qb, qc, qd, qe] at h1
  refine Zi (QM (Qy (QI (Qd (kp1 rfl) (Qe fun K hK => Qa rfl (XA rfl (Qi1 rfl rfl (Qa rfl ?_))))))))
  refine hK _ _ (Qb (kp1 rfl) ?_)
  refine Qu (Qs rfl ?_)
  rw [Qju (i := i) (by omega) hI.2]; cases s <;> simp
theorem Qdj {s : List UInt8} (hl : s.length <= 1000000) : Ok Try.prog 77 [.str s] (.bool (QfM s)) := by
 refine Ok.ofT Z2 Try.func77 Qr2 (Nat.le_of_ble_eq_true rfl) ?_
 show TW _ _ tf77.body _ _
 refine Qe fun K hK => Qa rfl ?_
 refine hK _ _ (Qb (kp1 rfl) ?_)
 refine QC ?_ -- 0
 refine Qe fun K hK => Qa rfl (XA rfl (Yb rfl rfl (Qa rfl ?_)))
 refine QF (g := 8) rfl (fun h1 => ?_) (fun h1 => ?_)
 ·try rw [h1]
  try simp only [qa, qb, qc, qd, qe] at h1
  refine Qt rfl (Qt rfl (Qt rfl (Qn rfl rfl ?_)))
  refine hK _ _ (Qb (kp2 rfl rfl) ?_)
  refine Zv rfl (Qe fun K hK => Qa rfl ?_)
  refine hK _ _ (Qb (kp1 rfl) ?_)
  refine Qu (Qi (Qs rfl ?_))
  first | (have hz := Xy (p := Xd) (s := s) (i := i) (by omega) hI.2; simp [QfM, hz]; omega) | (have hz := XJ (p := Xd) (s := s) (i := i) (by omega) (by simp [Xd]; omega); simp [QfM, hz]; done) | (simp [QfM]; omega)
 ·try rw [h1]
  try simp only [qa, qb, qc, qd, qe] at h1
  refine Qk rfl (Qa rfl (Qk rfl (XA rfl (Qk rfl (Qi1 rfl rfl (Qn rfl rfl ?_))))))
  refine hK _ _ (Qb (kp2 rfl rfl) ?_)
  refine Qw rfl (fun h2 => ?_) (fun h2 => ?_)
  ·try rw [h2]
   try simp only [qa, qb, qc, qd, qe] at h2
   refine Qe fun K hK => Qa rfl ?_
   refine hK _ _ (Qb (kp1 rfl) ?_)
   refine Qu (Qi (Qs rfl ?_))
   first | (have hz := Xy (p := Xd) (s := s) (i := i) (by omega) hI.2; simp [QfM, hz]; omega) | (have hz := XJ (p := Xd) (s := s) (i := i) (by omega) (by simp [Xd]; omega); simp [QfM, hz]; done) | (simp [QfM]; omega)
  ·try rw [h2]
   try simp only [qa, qb, qc, qd, qe] at h2
   refine Qv (Qd (kp1 rfl) ?_)
   refine QC ?_ -- 1
   refine Qe fun K hK => Qa rfl ?_
   refine hK _ _ (Qb (kp2 rfl rfl) ?_)
   refine QA ?_
   refine Zq (ι := Nat) (fun i => ⟨[(0, .str s), (3, .int .i64 i)], []⟩) (fun i => i <= s.length /\ (s.take i).all Xd = true) (fun i => s.length - i) 0 ?_ ?_ ?_
   ·exact Zc (kp2 rfl rfl)
   ·exact ⟨Nat.zero_le _, rfl⟩
   intro i hI
   try dsimp only
   refine QC ?_ -- 2
   refine Qe fun K hK => Qa rfl (Qa rfl (XA rfl (Yb rfl rfl ?_)))
   refine hK _ _ (Qb (kp3 rfl rfl rfl) ?_)
   refine Qw rfl (fun h3 => ?_) (fun h3 => ?_)
   ·try rw [h3]
    try simp only [qa, qb, qc, qd, qe] at h3
    refine Qv (Qd (kp2 rfl rfl) ?_)
    refine QC ?_ -- 3
    refine QA (Qe fun K hK => Qa rfl (Qa rfl (Xx rfl rfl (by omega) (Qfw (by omega)) (Qa rfl ?_))))
    refine hK _ _ (Qb (kp3 rfl rfl rfl) ?_)
    refine Qe fun K hK => Qa rfl (Yb rfl rfl (Qa rfl ?_))
    refine QF (g := 24) rfl (fun h4 => ?_) (fun h4 => ?_)
    ·try rw [h4]
     try simp only [qa, qb, qc, qd, qe] at h4
     refine Qt rfl (Qt rfl (Qn rfl rfl (Qa rfl (Qk rfl (Qa rfl (Qk rfl (Yb rfl rfl (Qk rfl (Qa rfl ?_)))))))))
     refine QF (g := 31) rfl (fun h5 => ?_) (fun h5 => ?_)
     ·try rw [h5]
      try simp only [qa, qb, qc, qd, qe] at h5
      refine Qt rfl (Qt rfl (Qk rfl (Qn rfl rfl (Qn rfl rfl (Qa rfl (Qk rfl (Qa rfl (Qk rfl (X6 rfl rfl (Qn rfl rfl ?_))))))))))
      refine hK _ _ (Qb (kp3 rfl rfl rfl) ?_)
      refine Qw rfl (fun h6 => ?_) (fun h6 => ?_)
      ·try rw [h6]
       try simp only [qa, qb, qc, qd, qe] at h6
       refine Qe fun K hK => Qa rfl ?_
       refine hK _ _ (Qb (kp1 rfl) ?_)
       refine Qu (Qr (Qi (QZ (Qr (Qi (Qs rfl ?_))))))
       first | (have hz := Xy (p := Xd) (s := s) (i := i) (by omega) hI.2; simp [QfM, hz]; omega) | (have hz := XJ (p := Xd) (s := s) (i := i) (by omega) (by simp [Xd]; omega); simp [QfM, hz]; done) | (simp [QfM]; omega)
      ·try rw [h6]
       try simp only [qa, qb, qc, qd, qe] at h6
       refine Qv (Qg (Qd (kp2 rfl rfl) (QN fun K hK => Qa rfl (Q3 rfl rfl (by first | exact Qp (by omega) (by omega) | exact ZX (by omega) (by omega) | exact Yq (by omega) (by omega) | rfl) (Qa rfl (hK _ ?_))))))
       refine Qj (i + 1) ?_ ?_ ?_
       ·exact Zc (kp2 rfl rfl)
       ·exact ⟨by omega, Z7 (by omega) hI.2 (by simp [Xd]; omega)⟩
       ·first | omega | (simp only; omega) | (dsimp only; omega)
     ·try rw [h5]
      try simp only [qa, qb, qc, qd, qe] at h5
      refine Qk rfl (Qa rfl (Qk rfl (Qi1 rfl rfl (Qk rfl (Qn rfl rfl (Qn rfl rfl (Qa rfl ?_)))))))
      refine QF (g := 36) rfl (fun h7 => ?_) (fun h7 => ?_)
      ·try rw [h7]
       try simp only [qa, qb, qc, qd, qe] at h7
       refine Qk rfl (Qa rfl (Qk rfl (X6 rfl rfl (Qn rfl rfl ?_))))
       refine hK _ _ (Qb (kp3 rfl rfl rfl) ?_)
       refine Qw rfl (fun h8 => ?_) (fun h8 => ?_)
       ·try rw [h8]
        try simp only [qa, qb, qc, qd, qe] at h8
        refine Qe fun K hK => Qa rfl ?_
        refine hK _ _ (Qb (kp1 rfl) ?_)
        refine Qu (Qr (Qi (QZ (Qr (Qi (Qs rfl ?_))))))
        first | (have hz := Xy (p := Xd) (s := s) (i := i) (by omega) hI.2; simp [QfM, hz]; omega) | (have hz := XJ (p := Xd) (s := s) (i := i) (by omega) (by simp [Xd]; omega); simp [QfM, hz]; done) | (simp [QfM]; omega)
       ·try rw [h8]
        try simp only [qa, qb, qc, qd, qe] at h8
        refine Qv (Qg (Qd (kp2 rfl rfl) (QN fun K hK => Qa rfl (Q3 rfl rfl (by first | exact Qp (by omega) (by omega) | exact ZX (by omega) (by omega) | exact Yq (by omega) (by omega) | rfl) (Qa rfl (hK _ ?_))))))
        refine Qj (i + 1) ?_ ?_ ?_
        ·exact Zc (kp2 rfl rfl)
        ·exact ⟨by omega, Z7 (by omega) hI.2 (by simp [Xd]; omega)⟩
        ·first | omega | (simp only; omega) | (dsimp only; omega)
      ·try rw [h7]
       try simp only [qa, qb, qc, qd, qe] at h7
       refine Qt rfl (Qt rfl (Qn rfl rfl ?_))
       refine hK _ _ (Qb (kp3 rfl rfl rfl) ?_)
       refine ZP rfl (Qv (Qg (Qd (kp2 rfl rfl) (QN fun K hK => Qa rfl (Q3 rfl rfl (by first | exact Qp (by omega) (by omega) | exact ZX (by omega) (by omega) | exact Yq (by omega) (by omega) | rfl) (Qa rfl (hK _ ?_)))))))
       refine Qj (i + 1) ?_ ?_ ?_
       ·exact Zc (kp2 rfl rfl)
       ·exact ⟨by omega, Z7 (by omega) hI.2 (by simp [Xd]; omega)⟩
       ·first | omega | (simp only; omega) | (dsimp only; omega)
    ·try rw [h4]
     try simp only [qa, qb, qc, qd, qe] at h4
     refine Qk rfl (Qa rfl (Qk rfl (Qi1 rfl rfl (Qn rfl rfl (Qa rfl ?_)))))
     refine QF (g := 28) rfl (fun h9 => ?_) (fun h9 => ?_)
     ·try rw [h9]
      try simp only [qa, qb, qc, qd, qe] at h9
      refine Qk rfl (Qa rfl (Qk rfl (Yb rfl rfl (Qk rfl (Qa rfl ?_)))))
      refine QF (g := 31) rfl (fun h10 => ?_) (fun h10 => ?_)
      ·try rw [h10]
       try simp only [qa, qb, qc, qd, qe] at h10
       refine Qt rfl (Qt rfl (Qk rfl (Qn rfl rfl (Qn rfl rfl (Qa rfl (Qk rfl (Qa rfl (Qk rfl (X6 rfl rfl (Qn rfl rfl ?_))))))))))
       refine hK _ _ (Qb (kp3 rfl rfl rfl) ?_)
       refine Qw rfl (fun h11 => ?_) (fun h11 => ?_)
       ·try rw [h11]
        try simp only [qa, qb, qc, qd, qe] at h11
        refine Qe fun K hK => Qa rfl ?_
        refine hK _ _ (Qb (kp1 rfl) ?_)
        refine Qu (Qr (Qi (QZ (Qr (Qi (Qs rfl ?_))))))
        first | (have hz := Xy (p := Xd) (s := s) (i := i) (by omega) hI.2; simp [QfM, hz]; omega) | (have hz := XJ (p := Xd) (s := s) (i := i) (by omega) (by simp [Xd]; omega); simp [QfM, hz]; done) | (simp [QfM]; omega)
       ·try rw [h11]
        try simp only [qa, qb, qc, qd, qe] at h11
        refine Qv (Qg (Qd (kp2 rfl rfl) (QN fun K hK => Qa rfl (Q3 rfl rfl (by first | exact Qp (by omega) (by omega) | exact ZX (by omega) (by omega) | exact Yq (by omega) (by omega) | rfl) (Qa rfl (hK _ ?_))))))
        refine Qj (i + 1) ?_ ?_ ?_
        ·exact Zc (kp2 rfl rfl)
        ·exact ⟨by omega, Z7 (by omega) hI.2 (by simp [Xd]; omega)⟩
        ·first | omega | (simp only; omega) | (dsimp only; omega)
      ·try rw [h10]
       try simp only [qa, qb, qc, qd, qe] at h10
       refine Qk rfl (Qa rfl (Qk rfl (Qi1 rfl rfl (Qk rfl (Qn rfl rfl (Qn rfl rfl (Qa rfl ?_)))))))
       refine QF (g := 36) rfl (fun h12 => ?_) (fun h12 => ?_)
       ·try rw [h12]
        try simp only [qa, qb, qc, qd, qe] at h12
        refine Qk rfl (Qa rfl (Qk rfl (X6 rfl rfl (Qn rfl rfl ?_))))
        refine hK _ _ (Qb (kp3 rfl rfl rfl) ?_)
        refine Qw rfl (fun h13 => ?_) (fun h13 => ?_)
        ·try rw [h13]
         try simp only [qa, qb, qc, qd, qe] at h13
         refine Qe fun K hK => Qa rfl ?_
         refine hK _ _ (Qb (kp1 rfl) ?_)
         refine Qu (Qr (Qi (QZ (Qr (Qi (Qs rfl ?_))))))
         first | (have hz := Xy (p := Xd) (s := s) (i := i) (by omega) hI.2; simp [QfM, hz]; omega) | (have hz := XJ (p := Xd) (s := s) (i := i) (by omega) (by simp [Xd]; omega); simp [QfM, hz]; done) | (simp [QfM]; omega)
        ·try rw [h13]
         try simp only [qa, qb, qc, qd, qe] at h13
         refine Qv (Qg (Qd (kp2 rfl rfl) (QN fun K hK => Qa rfl (Q3 rfl rfl (by first | exact Qp (by omega) (by omega) | exact ZX (by omega) (by omega) | exact Yq (by omega) (by omega) | rfl) (Qa rfl (hK _ ?_))))))
         refine Qj (i + 1) ?_ ?_ ?_
         ·exact Zc (kp2 rfl rfl)
         ·exact ⟨by omega, Z7 (by omega) hI.2 (by simp [Xd]; omega)⟩
         ·first | omega | (simp only; omega) | (dsimp only; omega)
       ·try rw [h12]
        try simp only [qa, qb, qc, qd, qe] at h12
        refine Qt rfl (Qt rfl (Qn rfl rfl ?_))
        refine hK _ _ (Qb (kp3 rfl rfl rfl) ?_)
        refine ZP rfl (Qv (Qg (Qd (kp2 rfl rfl) (QN fun K hK => Qa rfl (Q3 rfl rfl (by first | exact Qp (by omega) (by omega) | exact ZX (by omega) (by omega) | exact Yq (by omega) (by omega) | rfl) (Qa rfl (hK _ ?_)))))))
        refine Qj (i + 1) ?_ ?_ ?_
        ·exact Zc (kp2 rfl rfl)
        ·exact ⟨by omega, Z7 (by omega) hI.2 (by simp [Xd]; omega)⟩
        ·first | omega | (simp only; omega) | (dsimp only; omega)
     ·try rw [h9]
      try simp only [qa, qb, qc, qd, qe] at h9
      refine Qt rfl (Qt rfl (Qt rfl (Zu rfl (Zu rfl (Qt rfl (Qn rfl rfl (Qa rfl (Qt rfl (Qt rfl (Qn rfl rfl ?_))))))))))
      refine hK _ _ (Qb (kp3 rfl rfl rfl) ?_)
      refine ZP rfl (Qv (Qg (Qd (kp2 rfl rfl) (QN fun K hK => Qa rfl (Q3 rfl rfl (by first | exact Qp (by omega) (by omega) | exact ZX (by omega) (by omega) | exact Yq (by omega) (by omega) | rfl) (Qa rfl (hK _ ?_)))))))
      refine Qj (i + 1) ?_ ?_ ?_
      ·exact Zc (kp2 rfl rfl)
      ·exact ⟨by omega, Z7 (by omega) hI.2 (by simp [Xd]; omega)⟩
      ·first | omega | (simp only; omega) | (dsimp only; omega)
   ·try rw [h3]
    try simp only [qa, qb, qc, qd, qe] at h3
    refine Zi (QM (Qy (QI (Qd (Q4) (Qe fun K hK => Qa rfl ?_)))))
    refine hK _ _ (Qb (kp1 rfl) ?_)
    refine Qu (Qs rfl ?_)
    first | (have hz := Xy (p := Xd) (s := s) (i := i) (by omega) hI.2; simp [QfM, hz]; omega) | (have hz := XJ (p := Xd) (s := s) (i := i) (by omega) (by simp [Xd]; omega); simp [QfM, hz]; done) | (simp [QfM]; omega)
theorem YI {s : List UInt8} (hl : s.length <= 1000000) : Ok Try.prog 78 [.str s] (.tup [.int .i64 (Y9 s).1, .bool (Y9 s).2]) := by
 refine Ok.ofT Z2 Try.func78 Qr3 (Nat.le_of_ble_eq_true rfl) ?_
 show TW _ _ tf78.body _ _
 refine Qe fun K hK => Qa rfl (Qa rfl ?_)
 refine hK _ _ (Qb (kp1 rfl) ?_)
 refine QhT (ι := Unit) (fun _u => ⟨[(0, .str s)], []⟩) (fun _u => ¬ (s.length < 1 \/ 9 < s.length \/ (1 < s.length /\ s.head? = some 48))) ?_ ?_
 ·skip
  refine Qe fun K hK => Qa rfl (XA rfl (Yb rfl rfl (Qa rfl ?_)))
  refine QF (g := 9) rfl (fun h1 => ?_) (fun h1 => ?_)
  ·try rw [h1]
   try simp only [qa, qb, qc, qd, qe, XM, Bool.and_eq_true, Bool.and_eq_false_iff] at h1
   refine Qt rfl (Qt rfl (Qt rfl (Qn rfl rfl (Qa rfl (Qt rfl (Qt rfl (Qt rfl (Qt rfl (Zu rfl (Zu rfl (Zu rfl ?_)))))))))))
   refine Qt rfl (Qn rfl rfl ?_)
   refine hK _ _ (Qb (kp2 rfl rfl) ?_)
   refine Zv rfl (Qe fun K hK => Qa rfl (Qa rfl ?_))
   refine hK _ _ (Qb (kp2 rfl rfl) ?_)
   refine Qu (Qdw (QQ rfl rfl ?_))
   first | (rw [Qel (s := s) (by omega)]; exact ⟨rfl, rfl⟩) | (rw [Qcm (s := s) (by omega) (by assumption)]; exact ⟨rfl, rfl⟩) | (rw [Qek (s := s) (i := i) (by omega) (by simp [Qaj]; omega)]; exact ⟨rfl, rfl⟩) | (rw [Qej (s := s) (i := i) (by omega) (by omega)]; exact ⟨rfl, rfl⟩) | (rw [QgF (s := s) (i := i) hJ (by omega) hI.2.1 (by omega)]; exact ⟨rfl, rfl⟩)
  ·try rw [h1]
   try simp only [qa, qb, qc, qd, qe, XM, Bool.and_eq_true, Bool.and_eq_false_iff] at h1
   refine Qk rfl (Qa rfl (Qk rfl (XA rfl (Qk rfl (Qi1 rfl rfl (Qn rfl rfl (Qa rfl ?_)))))))
   refine QF (g := 14) rfl (fun h2 => ?_) (fun h2 => ?_)
   ·try rw [h2]
    try simp only [qa, qb, qc, qd, qe, XM, Bool.and_eq_true, Bool.and_eq_false_iff] at h2
    refine Qt rfl (Qt rfl (Qt rfl (Qt rfl (Zu rfl (Zu rfl (Zu rfl (Qt rfl (Qn rfl rfl ?_))))))))
    refine hK _ _ (Qb (kp2 rfl rfl) ?_)
    refine Zv rfl (Qe fun K hK => Qa rfl (Qa rfl ?_))
    refine hK _ _ (Qb (kp2 rfl rfl) ?_)
    refine Qu (Qdw (QQ rfl rfl ?_))
    first | (rw [Qel (s := s) (by omega)]; exact ⟨rfl, rfl⟩) | (rw [Qcm (s := s) (by omega) (by assumption)]; exact ⟨rfl, rfl⟩) | (rw [Qek (s := s) (i := i) (by omega) (by simp [Qaj]; omega)]; exact ⟨rfl, rfl⟩) | (rw [Qej (s := s) (i := i) (by omega) (by omega)]; exact ⟨rfl, rfl⟩) | (rw [QgF (s := s) (i := i) hJ (by omega) hI.2.1 (by omega)]; exact ⟨rfl, rfl⟩)
   ·try rw [h2]
    try simp only [qa, qb, qc, qd, qe, XM, Bool.and_eq_true, Bool.and_eq_false_iff] at h2
    refine Qk rfl (Qa rfl (Qk rfl (XA rfl (Qk rfl (Qi1 rfl rfl (Qk rfl (Qa rfl ?_)))))))
    refine QF (g := 18) rfl (fun h3 => ?_) (fun h3 => ?_)
    ·try rw [h3]
     try simp only [qa, qb, qc, qd, qe, XM, Bool.and_eq_true, Bool.and_eq_false_iff] at h3
     refine Qk rfl (Qa rfl (Qk rfl (Xx rfl rfl (by omega) (Qfw (i := 0) (by omega)) (Qk rfl (ZH rfl rfl (Qk rfl (Qn rfl rfl (Qn rfl rfl ?_))))))))
     refine hK _ _ (Qb (kp2 rfl rfl) ?_)
     refine Qw rfl (fun h4 => ?_) (fun h4 => ?_)
     ·try rw [h4]
      try simp only [qa, qb, qc, qd, qe, XM, Bool.and_eq_true, Bool.and_eq_false_iff] at h4
      refine Qe fun K hK => Qa rfl (Qa rfl ?_)
      refine hK _ _ (Qb (kp2 rfl rfl) ?_)
      refine Qu (Qdw (QQ rfl rfl ?_))
      first | (rw [Qel (s := s) (by omega)]; exact ⟨rfl, rfl⟩) | (rw [Qcm (s := s) (by omega) (by assumption)]; exact ⟨rfl, rfl⟩) | (rw [Qek (s := s) (i := i) (by omega) (by simp [Qaj]; omega)]; exact ⟨rfl, rfl⟩) | (rw [Qej (s := s) (i := i) (by omega) (by omega)]; exact ⟨rfl, rfl⟩) | (rw [QgF (s := s) (i := i) hJ (by omega) hI.2.1 (by omega)]; exact ⟨rfl, rfl⟩)
     ·try rw [h4]
      try simp only [qa, qb, qc, qd, qe, XM, Bool.and_eq_true, Bool.and_eq_false_iff] at h4
      refine Qv ?_
      refine Yt () ?_ ?_
      ·exact Zc (kp1 rfl)
      ·rintro (q | q | q) <;> first | omega | exact QlW (s := s) (by omega) (by assumption) q.2
    ·try rw [h3]
     try simp only [qa, qb, qc, qd, qe, XM, Bool.and_eq_true, Bool.and_eq_false_iff] at h3
     refine Qt rfl (Qt rfl (Qt rfl (Qk rfl (Qn rfl rfl (Qn rfl rfl ?_)))))
     refine hK _ _ (Qb (kp2 rfl rfl) ?_)
     refine ZP rfl (Qv ?_)
     refine Yt () ?_ ?_
     ·exact Zc (kp1 rfl)
     ·rintro (q | q | q) <;> first | omega | exact QlW (s := s) (by omega) (by assumption) q.2
 intro _u hJ
 try dsimp only
 refine Qe fun K hK => Qa rfl ?_
 refine hK _ _ (Qb (kp2 rfl rfl) ?_)
 refine QC ?_ -- 1
 refine Qe fun K hK => Qa rfl ?_
 refine hK _ _ (Qb (kp3 rfl rfl rfl) ?_)
 refine QA ?_
 refine Zq (ι := Nat) (fun i => ⟨[(0, .str s), (4, .int .i64 (val (s.take i))), (5, .int .i64 i)], []⟩) (fun i => i <= s.length /\ (s.take i).all Qaj = true /\ s.length <= 9) (fun i => s.length - i) 0 ?_ ?_ ?_
 ·first | exact Zc (kp3 rfl rfl rfl) | exact Q7 (l := [0, 4, 5]) (kp3 rfl rfl rfl) Qo (by rw [QkH (by omega)]; simp; omega) rfl rfl
 ·exact ⟨Nat.zero_le _, rfl, by omega⟩
 intro i hI
 have hv := Qqe (s := s.take i) hI.2.1
 have hp : 10 ^ (s.take i).length <= 10 ^ 9 := Nat.pow_le_pow_right (by omega) (by simp; omega)
 try dsimp only
 refine QC ?_ -- 2
 refine Qe fun K hK => Qa rfl (Qa rfl (XA rfl (Yb rfl rfl ?_)))
 refine hK _ _ (Qb (kp4 rfl rfl rfl rfl) ?_)
 refine Qw rfl (fun h5 => ?_) (fun h5 => ?_)
 ·try rw [h5]
  try simp only [qa, qb, qc, qd, qe, XM, Bool.and_eq_true, Bool.and_eq_false_iff] at h5
  refine Qv (Qd (kp3 rfl rfl rfl) ?_)
  refine QC ?_ -- 3
  refine QA ?_
  refine QC ?_ -- 4
  refine Qe fun K hK => Qa rfl (Qa rfl (Xx rfl rfl (by omega) (Qfw (by omega)) (QG (Qcz) rfl rfl (.inr rfl) (Yi rfl ?_))))
  refine hK _ _ (Qb (kp4 rfl rfl rfl rfl) ?_)
  refine Qw rfl (fun h6 => ?_) (fun h6 => ?_)
  ·try rw [h6]
   try simp only [qa, qb, qc, qd, qe, XM, Bool.and_eq_true, Bool.and_eq_false_iff] at h6
   refine Qe fun K hK => Qa rfl (Qa rfl ?_)
   refine hK _ _ (Qb (kp2 rfl rfl) ?_)
   refine Qu (Qi (Qr (Qi (QZ (Qr (Qi (QQ rfl rfl ?_)))))))
   first | (rw [Qel (s := s) (by omega)]; exact ⟨rfl, rfl⟩) | (rw [Qcm (s := s) (by omega) (by assumption)]; exact ⟨rfl, rfl⟩) | (rw [Qek (s := s) (i := i) (by omega) (by simp [Qaj]; omega)]; exact ⟨rfl, rfl⟩) | (rw [Qej (s := s) (i := i) (by omega) (by omega)]; exact ⟨rfl, rfl⟩) | (rw [QgF (s := s) (i := i) hJ (by omega) hI.2.1 (by omega)]; exact ⟨rfl, rfl⟩)
  ·try rw [h6]
   try simp only [qa, qb, qc, qd, qe, XM, Bool.and_eq_true, Bool.and_eq_false_iff] at h6
   refine Qv (Qd (kp3 rfl rfl rfl) (QN fun K hK => Qa rfl (QoP rfl rfl (by first | exact Qp (by omega) (by omega) | exact ZX (by omega) (by omega) | exact Yq (by omega) (by omega) | rfl) (Qa rfl (Qa rfl (Xx rfl rfl (by omega) (Qfw (by omega)) (QaA rfl rfl (by first | exact Qp (by omega) (by omega) | exact ZX (by omega) (by omega) | exact Yq (by omega) (by omega) | rfl) (QhR rfl (by first | exact Qp (by omega) (by omega) | exact ZX (by omega) (by omega) | exact Yq (by omega) (by omega) | rfl) (Q3 rfl rfl (by first | exact Qp (by omega) (by omega) | exact ZX (by omega) (by omega) | exact Yq (by omega) (by omega) | rfl) (Qa rfl ?_))))))))))
   refine hK _ ?_
   refine Qg (Qd (kp3 rfl rfl rfl) (QN fun K hK => Qa rfl (Q3 rfl rfl (by first | exact Qp (by omega) (by omega) | exact ZX (by omega) (by omega) | exact Yq (by omega) (by omega) | rfl) (Qa rfl (hK _ ?_)))))
   refine Qj (i + 1) ?_ ?_ ?_
   ·first | exact Zc (kp3 rfl rfl rfl) | exact Q7 (l := [0, 4, 5]) (kp3 rfl rfl rfl) Qo (by rw [QkH (by omega)]; simp; omega) rfl rfl
   ·exact ⟨by omega, Z7 (by omega) hI.2.1 (by simp [Qaj]; omega), hI.2.2⟩
   ·first | omega | (simp only; omega) | (dsimp only; omega)
 ·try rw [h5]
  try simp only [qa, qb, qc, qd, qe, XM, Bool.and_eq_true, Bool.and_eq_false_iff] at h5
  refine Zi (QM (Qy (QI (Qd (kp1 rfl) ?_))))
  refine QC ?_ -- 5
  refine Qe fun K hK => Qa rfl (Qi1 rfl rfl ?_)
  refine hK _ _ (Qb (kp2 rfl rfl) ?_)
  refine Qw rfl (fun h7 => ?_) (fun h7 => ?_)
  ·try rw [h7]
   try simp only [qa, qb, qc, qd, qe, XM, Bool.and_eq_true, Bool.and_eq_false_iff] at h7
   refine Qe fun K hK => Qa rfl (Qa rfl ?_)
   refine hK _ _ (Qb (kp2 rfl rfl) ?_)
   refine Qu (Qi (QQ rfl rfl ?_))
   first | (rw [Qel (s := s) (by omega)]; exact ⟨rfl, rfl⟩) | (rw [Qcm (s := s) (by omega) (by assumption)]; exact ⟨rfl, rfl⟩) | (rw [Qek (s := s) (i := i) (by omega) (by simp [Qaj]; omega)]; exact ⟨rfl, rfl⟩) | (rw [Qej (s := s) (i := i) (by omega) (by omega)]; exact ⟨rfl, rfl⟩) | (rw [QgF (s := s) (i := i) hJ (by omega) hI.2.1 (by omega)]; exact ⟨rfl, rfl⟩)
  ·try rw [h7]
   try simp only [qa, qb, qc, qd, qe, XM, Bool.and_eq_true, Bool.and_eq_false_iff] at h7
   refine Qv (Qd (kp1 rfl) (Qe fun K hK => Qa rfl (Qa rfl (Qa rfl ?_))))
   refine hK _ _ (Qb (kp2 rfl rfl) ?_)
   refine Qu (QQ rfl rfl ?_)
   first | (rw [Qel (s := s) (by omega)]; exact ⟨rfl, rfl⟩) | (rw [Qcm (s := s) (by omega) (by assumption)]; exact ⟨rfl, rfl⟩) | (rw [Qek (s := s) (i := i) (by omega) (by simp [Qaj]; omega)]; exact ⟨rfl, rfl⟩) | (rw [Qej (s := s) (i := i) (by omega) (by omega)]; exact ⟨rfl, rfl⟩) | (rw [QgF (s := s) (i := i) hJ (by omega) hI.2.1 (by omega)]; exact ⟨rfl, rfl⟩)
end Go.Proofs
namespace Go.Proofs
open Go Go.Abs M3
set_option linter.unusedVariables false
set_option linter.unusedSimpArgs false
theorem Qdi {a b : List UInt8} (ha : a.length <= 1000000) (hb : b.length <= 1000000) : Ok Try.prog 102 [.str a, .str b] (.int .i64 (Qm6 a b)) := by
 refine Ok.ofT Z2 Try.func102 QqK (Nat.le_of_ble_eq_true rfl) ?_
 show TW _ _ tf102.body _ _
 refine Qe fun K hK => Qa rfl ?_
 refine hK _ _ (Qb (kp2 rfl rfl) ?_)
 refine Qe fun K hK => Qa rfl (QG (YC (by omega)) rfl rfl (.inr rfl) (Qa rfl (QG (YC (by omega)) rfl rfl (.inr rfl) (Qa rfl (Qa rfl ?_)))))
 refine hK _ _ (Qb (kp4 rfl rfl rfl rfl) ?_)
 refine QC ?_ -- 0
 refine QA (Qe fun K hK => Qa rfl (Qa rfl ?_))
 refine QF (g := 17) rfl (fun h1 => ?_) (fun h1 => ?_)
 ·try rw [h1]
  try simp only [qa, qb, qc, qd, qe] at h1
  refine Qk rfl (Qa rfl (Qn rfl rfl (Qa rfl ?_)))
  refine hK _ _ (Qb (kp5 rfl rfl rfl rfl rfl) ?_)
  refine Qw rfl (fun h2 => ?_) (fun h2 => ?_)
  ·try rw [h2]
   try simp only [qa, qb, qc, qd, qe] at h2
   refine Qe fun K hK => Qa rfl (QG (YI (by omega)) rfl rfl (.inr rfl) (Qa rfl (QP rfl rfl (QP rfl rfl (Qa rfl (Qa rfl ?_))))))
   refine hK _ _ (Qb (kp2 rfl rfl) ?_)
   refine Qe fun K hK => Qa rfl (QG (YI (by omega)) rfl rfl (.inr rfl) (Qa rfl (QP rfl rfl (QP rfl rfl (Qa rfl (Qa rfl ?_))))))
   refine hK _ _ (Qb (kp2 rfl rfl) ?_)
   refine Qe fun K hK => Qa rfl (Qa rfl (QG (Zs) rfl rfl (.inr rfl) (Qa rfl ?_)))
   refine hK _ _ (Qb (kp1 rfl) ?_)
   refine Qu (Qr (Qi (QE rfl ?_)))
   simp [Qm6, h1, h2]
  ·try rw [h2]
   try simp only [qa, qb, qc, qd, qe] at h2
   refine Qe fun K hK => Qa rfl (Qa rfl ?_)
   refine hK _ _ (Qb (kp4 rfl rfl rfl rfl) ?_)
   refine Zv rfl (Qe fun K hK => Qa rfl ?_)
   refine hK _ _ (Qb (kp1 rfl) ?_)
   refine Qu (Qr (Qi (QE rfl ?_)))
   simp [Qm6, h1, h2]
 ·try rw [h1]
  try simp only [qa, qb, qc, qd, qe] at h1
  refine Qt rfl (Qn rfl rfl (Qa rfl ?_))
  refine hK _ _ (Qb (kp5 rfl rfl rfl rfl rfl) ?_)
  refine ZP rfl (Qe fun K hK => Qa rfl (Qa rfl ?_))
  refine hK _ _ (Qb (kp4 rfl rfl rfl rfl) ?_)
  refine ZP rfl (Qe fun K hK => Qa rfl (Qa rfl ?_))
  refine hK _ _ (Qb (kp3 rfl rfl rfl) ?_)
  refine Qw rfl (fun h3 => ?_) (fun h3 => ?_)
  ·try rw [h3]
   try simp only [qa, qb, qc, qd, qe] at h3
   refine Qe fun K hK => Qa rfl ?_
   refine hK _ _ (Qb (kp1 rfl) ?_)
   refine Qu (Qr (Qi (QE rfl ?_)))
   simp [Qm6, h1, h3]
  ·try rw [h3]
   try simp only [qa, qb, qc, qd, qe] at h3
   refine Qv (Qg (Qd (kp2 rfl rfl) (Qe fun K hK => Qa rfl (Qa rfl (QG (QcG) rfl rfl (.inr rfl) (Qa rfl ?_))))))
   refine hK _ _ (Qb (kp1 rfl) ?_)
   refine Qu (QE rfl ?_)
   simp [Qm6, h1, h3]
theorem QcW {a b : List UInt8} (ha : a.length <= 1000000) (hb : b.length <= 1000000) : Ok Try.prog 101 [.str a, .str b] (.int .i64 (Qgb a b)) := by
 refine Ok.ofT Z2 Try.func101 QqJ (Nat.le_of_ble_eq_true rfl) ?_
 show TW _ _ tf101.body _ _
 refine Qe fun K hK => Qa rfl ?_
 refine hK _ _ (Qb (kp2 rfl rfl) ?_)
 refine QC ?_ -- 0
 refine QA (Qe fun K hK => Qa rfl (Qa rfl (QgU rfl rfl (Qa rfl ?_))))
 refine hK _ _ (Qb (kp3 rfl rfl rfl) ?_)
 refine Qw rfl (fun h1 => ?_) (fun h1 => ?_)
 ·try rw [h1]
  try simp only [qa, qb, qc, qd, qe, Ze] at h1
  refine Qe fun K hK => Qa rfl ?_
  refine hK _ _ (Qb (kp1 rfl) ?_)
  refine Qu (Qr (Qi (QE rfl ?_)))
  first | (simp_all [Qgb]; done) | (rw [hI.2.2, Qck (by omega) (by omega) (by assumption)]) | (rw [hI.2.2, Qcj (by omega) (by omega) (by omega)]; simp [Ze])
 ·try rw [h1]
  try simp only [qa, qb, qc, qd, qe, Ze] at h1
  refine Qe fun K hK => Qa rfl (QgU rfl rfl (Qa rfl ?_))
  refine hK _ _ (Qb (kp3 rfl rfl rfl) ?_)
  refine Qw rfl (fun h2 => ?_) (fun h2 => ?_)
  ·try rw [h2]
   try simp only [qa, qb, qc, qd, qe, Ze] at h2
   refine Qe fun K hK => Qa rfl ?_
   refine hK _ _ (Qb (kp1 rfl) ?_)
   refine Qu (Qr (Qi (QE rfl ?_)))
   first | (simp_all [Qgb]; done) | (rw [hI.2.2, Qck (by omega) (by omega) (by assumption)]) | (rw [hI.2.2, Qcj (by omega) (by omega) (by omega)]; simp [Ze])
  ·try rw [h2]
   try simp only [qa, qb, qc, qd, qe, Ze] at h2
   refine Qe fun K hK => Qa rfl (QgU rfl rfl (Qa rfl ?_))
   refine hK _ _ (Qb (kp3 rfl rfl rfl) ?_)
   refine Qw rfl (fun h3 => ?_) (fun h3 => ?_)
   ·try rw [h3]
    try simp only [qa, qb, qc, qd, qe, Ze] at h3
    refine Qe fun K hK => Qa rfl ?_
    refine hK _ _ (Qb (kp1 rfl) ?_)
    refine Qu (Qr (Qi (QE rfl ?_)))
    first | (simp_all [Qgb]; done) | (rw [hI.2.2, Qck (by omega) (by omega) (by assumption)]) | (rw [hI.2.2, Qcj (by omega) (by omega) (by omega)]; simp [Ze])
   ·try rw [h3]
    try simp only [qa, qb, qc, qd, qe, Ze] at h3
    refine Qv (Qg (Qd (kp2 rfl rfl) (Qe fun K hK => Qa rfl (QG (YV (by omega)) rfl rfl (.inl rfl) (Qa rfl (QG (YV (by omega)) rfl rfl (.inl rfl) (Qa rfl (Qa rfl ?_))))))))
    refine hK _ _ (Qb (kp2 rfl rfl) ?_)
    refine QC ?_ -- 1
    refine Qe fun K hK => Qa rfl ?_
    refine hK _ _ (Qb (kp3 rfl rfl rfl) ?_)
    refine QA ?_
    refine Zq (ι := Nat) (fun i => ⟨[(5, .sl (QaQ (Yn a 46))), (6, .sl (QaQ (Yn b 46))), (7, .int .i64 i)], []⟩) (fun i => i <= (Yn a 46).length /\ i <= (Yn b 46).length /\ Qgb a b = Qlk ((Yn a 46).drop i) ((Yn b 46).drop i)) (fun i => (Yn a 46).length - i) 0 ?_ ?_ ?_
    ·exact Zc (kp3 rfl rfl rfl)
    ·exact ⟨Nat.zero_le _, Nat.zero_le _, by simp_all [Qgb]⟩
    intro i hI
    have sl := QmR (s := a) (c := 46)
    try dsimp only
    refine QC ?_ -- 2
    refine Qe fun K hK => Qa rfl (Qa rfl (QR rfl rfl (Yb rfl rfl (Qa rfl ?_))))
    refine QF (g := 27) rfl (fun h4 => ?_) (fun h4 => ?_)
    ·try rw [h4]
     try simp only [qa, qb, qc, qd, qe, Ze] at h4
     refine Qk rfl (Qa rfl (Qk rfl (Qa rfl (Qk rfl (QR rfl rfl (Qk rfl (Yb rfl rfl (Qn rfl rfl ?_))))))))
     refine hK _ _ (Qb (kp4 rfl rfl rfl rfl) ?_)
     refine Qw rfl (fun h5 => ?_) (fun h5 => ?_)
     ·try rw [h5]
      try simp only [qa, qb, qc, qd, qe, Ze] at h5
      refine Qv (Qd (kp3 rfl rfl rfl) ?_)
      refine QC ?_ -- 3
      refine QA (Qe fun K hK => Qa rfl (Qa rfl (QJ rfl rfl rfl (by omega) (Qdu (by omega)) rfl (QW (ds0 := [1, 0]) rfl rfl rfl rfl rfl (Qa rfl (Qa rfl (QJ rfl rfl rfl (by omega) (Qdu (by omega)) rfl (QW (ds0 := [1, 0]) rfl rfl rfl rfl rfl (QV (ds0 := [0]) (Qdi (QdU (by omega) ha) (QdU (by omega) hb)) rfl rfl (.inr rfl) rfl rfl (Qa rfl ?_))))))))))
      refine hK _ _ (Qb (kp4 rfl rfl rfl rfl) ?_)
      refine Qe fun K hK => Qa rfl (X6 rfl rfl ?_)
      refine hK _ _ (Qb (kp5 rfl rfl rfl rfl rfl) ?_)
      refine Qw rfl (fun h6 => ?_) (fun h6 => ?_)
      ·try rw [h6]
       try simp only [qa, qb, qc, qd, qe, Ze] at h6
       refine Qe fun K hK => Qa rfl (Qa rfl ?_)
       refine hK _ _ (Qb (kp1 rfl) ?_)
       refine Qu (Qr (Qi (QZ (Qr (Qi (QE rfl ?_))))))
       first | (simp_all [Qgb]; done) | (rw [hI.2.2, Qck (by omega) (by omega) (by assumption)]) | (rw [hI.2.2, Qcj (by omega) (by omega) (by omega)]; simp [Ze])
      ·try rw [h6]
       try simp only [qa, qb, qc, qd, qe, Ze] at h6
       refine Qv (Qg (Qd (kp3 rfl rfl rfl) (QN fun K hK => Qa rfl (Q3 rfl rfl (by first | exact Qp (by omega) (by omega) | exact ZX (by omega) (by omega) | exact Yq (by omega) (by omega) | rfl) (Qa rfl (hK _ ?_))))))
       refine Qj (i + 1) ?_ ?_ ?_
       ·exact Zc (kp3 rfl rfl rfl)
       ·exact ⟨by omega, by omega, by rw [hI.2.2, Qmf (by omega) (by omega) (by assumption)]⟩
       ·first | omega | (simp only; omega) | (dsimp only; omega)
     ·try rw [h5]
      try simp only [qa, qb, qc, qd, qe, Ze] at h5
      refine Zi (QM (Qy (QI (Qd (kp2 rfl rfl) (Qe fun K hK => Qa rfl (QR rfl rfl (Qa rfl (QR rfl rfl (QG (Zs) rfl rfl (.inr rfl) (Qa rfl ?_))))))))))
      refine hK _ _ (Qb (kp1 rfl) ?_)
      refine Qu (QE rfl ?_)
      first | (simp_all [Qgb]; done) | (rw [hI.2.2, Qck (by omega) (by omega) (by assumption)]) | (rw [hI.2.2, Qcj (by omega) (by omega) (by omega)]; simp [Ze])
    ·try rw [h4]
     try simp only [qa, qb, qc, qd, qe, Ze] at h4
     refine Qt rfl (Qt rfl (Qt rfl (Qt rfl (Qn rfl rfl ?_))))
     refine hK _ _ (Qb (kp4 rfl rfl rfl rfl) ?_)
     refine ZP rfl (Zi (QM (Qy (QI (Qd (kp2 rfl rfl) (Qe fun K hK => Qa rfl (QR rfl rfl (Qa rfl (QR rfl rfl (QG (Zs) rfl rfl (.inr rfl) ?_))))))))))
     refine Qa rfl ?_
     refine hK _ _ (Qb (kp1 rfl) ?_)
     refine Qu (QE rfl ?_)
     first | (simp_all [Qgb]; done) | (rw [hI.2.2, Qck (by omega) (by omega) (by assumption)]) | (rw [hI.2.2, Qcj (by omega) (by omega) (by omega)]; simp [Ze])
theorem Qaa {s : List UInt8} {pre : Bool} (hl : s.length <= 1000000) : Ok Try.prog 58 [.str s, .bool pre] (.bool (Qb5 s pre)) := by
 refine Ok.ofT Z2 Try.func58 QrJ (Nat.le_of_ble_eq_true rfl) ?_
 show TW _ _ tf58.body _ _
 refine Qe fun K hK => Qa rfl ?_
 refine hK _ _ (Qb (kp2 rfl rfl) ?_)
 refine QC ?_ -- 0
 refine Qe fun K hK => Qa rfl (QgU rfl rfl ?_)
 refine hK _ _ (Qb (kp3 rfl rfl rfl) ?_)
 refine Qw rfl (fun h1 => ?_) (fun h1 => ?_)
 ·try rw [h1]
  try simp only [qa, qb, qc, qd, qe, Ze] at h1
  refine Qe fun K hK => Qa rfl ?_
  refine hK _ _ (Qb (kp1 rfl) ?_)
  refine Qu (Qi (Qs rfl ?_))
  first | (simp_all [Qb5]; done) | (simp [Qb5, h1]; omega) | exact (QdG (i := i) (by assumption) (by omega) (by simp [QeM, h1])).symm | exact (Qb6 (i := i) (by omega) (by omega) hI.2).symm
 ·try rw [h1]
  try simp only [qa, qb, qc, qd, qe, Ze] at h1
  refine Qv (Qd (kp2 rfl rfl) (Qe fun K hK => Qa rfl (QG (YV (by omega)) rfl rfl (.inl rfl) (Qa rfl ?_))))
  refine hK _ _ (Qb (kp2 rfl rfl) ?_)
  refine QC ?_ -- 1
  refine Qe fun K hK => Qa rfl (QR rfl rfl (Qi1 rfl rfl ?_))
  refine hK _ _ (Qb (kp3 rfl rfl rfl) ?_)
  refine Qw rfl (fun h2 => ?_) (fun h2 => ?_)
  ·try rw [h2]
   try simp only [qa, qb, qc, qd, qe, Ze] at h2
   refine Qe fun K hK => Qa rfl ?_
   refine hK _ _ (Qb (kp1 rfl) ?_)
   refine Qu (Qi (Qs rfl ?_))
   first | (simp_all [Qb5]; done) | (simp [Qb5, h1, h2]; omega) | exact (QdG (i := i) (by assumption) (by omega) (by simp [QeM, h1, h2])).symm | exact (Qb6 (i := i) (by omega) (by omega) hI.2).symm
  ·try rw [h2]
   try simp only [qa, qb, qc, qd, qe, Ze] at h2
   refine Qv (Qd (kp2 rfl rfl) ?_)
   refine QC ?_ -- 2
   refine Qe fun K hK => Qa rfl ?_
   refine hK _ _ (Qb (kp3 rfl rfl rfl) ?_)
   refine QA ?_
   refine Zq (ι := Nat) (fun i => ⟨[(1, .bool pre), (5, .sl (QaQ (Yn s 46))), (6, .int .i64 i)], []⟩) (fun i => i <= (Yn s 46).length /\ ((Yn s 46).take i).all (QeM pre) = true) (fun i => (Yn s 46).length - i) 0 ?_ ?_ ?_
   ·first | exact Zc (kp3 rfl rfl rfl) | exact Q7 (l := [1, 5, 6]) (kp3 rfl rfl rfl) Qo (by simp [h1, h2]) rfl rfl
   ·exact ⟨Nat.zero_le _, rfl⟩
   intro i hI
   try dsimp only
   refine QC ?_ -- 3
   refine Qe fun K hK => Qa rfl (Qa rfl (QR rfl rfl (Yb rfl rfl ?_)))
   refine hK _ _ (Qb (kp4 rfl rfl rfl rfl) ?_)
   refine Qw rfl (fun h3 => ?_) (fun h3 => ?_)
   ·try rw [h3]
    try simp only [qa, qb, qc, qd, qe, Ze] at h3
    refine Qv (Qd (kp3 rfl rfl rfl) ?_)
    refine QC ?_ -- 4
    refine QA ?_
    refine QC ?_ -- 5
    refine Qe fun K hK => Qa rfl (Qa rfl (QJ rfl rfl rfl (by omega) (Qdu (by omega)) rfl (Qz rfl rfl rfl (QG (Qdj (QdU (by omega) hl)) rfl rfl (.inr rfl) (Yi rfl ?_)))))
    refine hK _ _ (Qb (kp4 rfl rfl rfl rfl) ?_)
    refine Qw rfl (fun h4 => ?_) (fun h4 => ?_)
    ·try rw [h4]
     try simp only [qa, qb, qc, qd, qe, Ze] at h4
     refine Qe fun K hK => Qa rfl ?_
     refine hK _ _ (Qb (kp1 rfl) ?_)
     refine Qu (Qi (Qr (Qi (QZ (Qr (Qi (Qs rfl ?_)))))))
     first | (simp_all [Qb5]; done) | (simp [Qb5, h1, h2, h3, h4]; omega) | exact (QdG (i := i) (by assumption) (by omega) (by simp [QeM, h1, h2, h3, h4])).symm | exact (Qb6 (i := i) (by omega) (by omega) hI.2).symm
    ·try rw [h4]
     try simp only [qa, qb, qc, qd, qe, Ze] at h4
     refine Qv (Qd (kp3 rfl rfl rfl) (Qe fun K hK => Qa rfl (Qa rfl (QJ rfl rfl rfl (by omega) (Qdu (by omega)) rfl (Qz rfl rfl rfl (QG (YI (QdU (by omega) hl)) rfl rfl (.inr rfl) (Qa rfl (QP rfl rfl (QP rfl rfl (Qa rfl ?_))))))))))
     refine Qa rfl ?_
     refine hK _ _ (Qb (kp4 rfl rfl rfl rfl) ?_)
     refine Qe fun K hK => Qa rfl (Qa rfl ?_)
     refine QF (g := 37) rfl (fun h5 => ?_) (fun h5 => ?_)
     ·try rw [h5]
      try simp only [qa, qb, qc, qd, qe, Ze] at h5
      refine Qk rfl (Qa rfl (Qk rfl (Qa rfl (Qk rfl (QJ rfl rfl rfl (by omega) (Qdu (by omega)) rfl (Qk rfl (Qz rfl rfl rfl (Qk rfl (QG (YC (QdU (by omega) hl)) rfl rfl (.inr rfl) (Qn rfl rfl (Qa rfl ?_)))))))))))
      refine QF (g := 44) rfl (fun h6 => ?_) (fun h6 => ?_)
      ·try rw [h6]
       try simp only [qa, qb, qc, qd, qe, Ze] at h6
       refine Qk rfl (Qa rfl (Qk rfl (Yi rfl (Qn rfl rfl ?_))))
       refine hK _ _ (Qb (kp4 rfl rfl rfl rfl) ?_)
       refine Qw rfl (fun h7 => ?_) (fun h7 => ?_)
       ·try rw [h7]
        try simp only [qa, qb, qc, qd, qe, Ze] at h7
        refine Qe fun K hK => Qa rfl ?_
        refine hK _ _ (Qb (kp1 rfl) ?_)
        refine Qu (Qr (Qi (QZ (Qr (Qi (Qs rfl ?_))))))
        first | (simp_all [Qb5]; done) | (simp [Qb5, h1, h2, h3, h4, h5, h6, h7]; omega) | exact (QdG (i := i) (by assumption) (by omega) (by simp [QeM, h1, h2, h3, h4, h5, h6, h7])).symm | exact (Qb6 (i := i) (by omega) (by omega) hI.2).symm
       ·try rw [h7]
        try simp only [qa, qb, qc, qd, qe, Ze] at h7
        refine Qv (Qg (Qd (kp3 rfl rfl rfl) (QN fun K hK => Qa rfl (Q3 rfl rfl (by first | exact Qp (by omega) (by omega) | exact ZX (by omega) (by omega) | exact Yq (by omega) (by omega) | rfl) (Qa rfl (hK _ ?_))))))
        refine Qj (i + 1) ?_ ?_ ?_
        ·first | exact Zc (kp3 rfl rfl rfl) | exact Q7 (l := [1, 5, 6]) (kp3 rfl rfl rfl) Qo (by simp [h1, h2, h3, h4, h5, h6, h7]) rfl rfl
        ·exact ⟨by omega, Z7 (by omega) hI.2 (by simp [QeM, h1, h2, h3, h4, h5, h6, h7])⟩
        ·first | omega | (simp only; omega) | (dsimp only; omega)
      ·try rw [h6]
       try simp only [qa, qb, qc, qd, qe, Ze] at h6
       refine Qt rfl (Qt rfl (Qn rfl rfl ?_))
       refine hK _ _ (Qb (kp4 rfl rfl rfl rfl) ?_)
       refine ZP rfl (Qv (Qg (Qd (kp3 rfl rfl rfl) (QN fun K hK => Qa rfl (Q3 rfl rfl (by first | exact Qp (by omega) (by omega) | exact ZX (by omega) (by omega) | exact Yq (by omega) (by omega) | rfl) (Qa rfl (hK _ ?_)))))))
       refine Qj (i + 1) ?_ ?_ ?_
       ·first | exact Zc (kp3 rfl rfl rfl) | exact Q7 (l := [1, 5, 6]) (kp3 rfl rfl rfl) Qo (by simp [h1, h2, h3, h4, h5, h6]) rfl rfl
       ·exact ⟨by omega, Z7 (by omega) hI.2 (by simp [QeM, h1, h2, h3, h4, h5, h6])⟩
       ·first | omega | (simp only; omega) | (dsimp only; omega)
     ·try rw [h5]
      try simp only [qa, qb, qc, qd, qe, Ze] at h5
      refine Qt rfl (Qt rfl (Qt rfl (Qt rfl (Qt rfl (Qn rfl rfl (Qa rfl (Qt rfl (Qt rfl (Qn rfl rfl ?_)))))))))
      refine hK _ _ (Qb (kp4 rfl rfl rfl rfl) ?_)
      refine ZP rfl (Qv (Qg (Qd (kp3 rfl rfl rfl) (QN fun K hK => Qa rfl (Q3 rfl rfl (by first | exact Qp (by omega) (by omega) | exact ZX (by omega) (by omega) | exact Yq (by omega) (by omega) | rfl) (Qa rfl (hK _ ?_)))))))
      refine Qj (i + 1) ?_ ?_ ?_
      ·first | exact Zc (kp3 rfl rfl rfl) | exact Q7 (l := [1, 5, 6]) (kp3 rfl rfl rfl) Qo (by simp [h1, h2, h3, h4, h5]) rfl rfl
      ·exact ⟨by omega, Z7 (by omega) hI.2 (by simp [QeM, h1, h2, h3, h4, h5])⟩
      ·first | omega | (simp only; omega) | (dsimp only; omega)
   ·try rw [h3]
    try simp only [qa, qb, qc, qd, qe, Ze] at h3
    refine Zi (QM (Qy (QI (Qd (Q4) (Qe fun K hK => Qa rfl ?_)))))
    refine hK _ _ (Qb (kp1 rfl) ?_)
    refine Qu (Qs rfl ?_)
    first | (simp_all [Qb5]; done) | (simp [Qb5, h1, h2, h3]; omega) | exact (QdG (i := i) (by assumption) (by omega) (by simp [QeM, h1, h2, h3])).symm | exact (Qb6 (i := i) (by omega) (by omega) hI.2).symm
theorem Zf {a b c : Int} {p q : List UInt8} (hp : p.length <= 1000000) (hq : q.length <= 1000000) : Ok Try.prog 35 [.agg [.int .i64 a, .int .i64 b, .int .i64 c, .str p, .str q]] (.bool (QhO a b c p q)) := by
 refine Ok.ofT Z2 Try.func35 Qrm (Nat.le_of_ble_eq_true rfl) ?_
 show TW _ _ tf35.body _ _
 refine Qe fun K hK => Zy rfl rfl rfl (Qa rfl ?_)
 refine hK _ _ (Qb (kp1 rfl) ?_)
 refine Qe fun K hK => Qh rfl rfl (Qz rfl rfl rfl (QG (Xj) rfl rfl (.inr rfl) (Qa rfl ?_)))
 refine QF (g := 6) rfl (fun h1 => ?_) (fun h1 => ?_)
 ·try rw [h1]
  try simp only [qa, qb, qc, qd, qe] at h1
  refine Qk rfl (Qh rfl rfl (Qk rfl (Qz rfl rfl rfl (Qk rfl (QG (Xj) rfl rfl (.inr rfl) (Qn rfl rfl (Qa rfl ?_)))))))
  refine QF (g := 11) rfl (fun h2 => ?_) (fun h2 => ?_)
  ·try rw [h2]
   try simp only [qa, qb, qc, qd, qe] at h2
   refine Qk rfl (Qh rfl rfl (Qk rfl (Qz rfl rfl rfl (Qk rfl (QG (Xj) rfl rfl (.inr rfl) (Qn rfl rfl (Qa rfl ?_)))))))
   refine QF (g := 16) rfl (fun h3 => ?_) (fun h3 => ?_)
   ·try rw [h3]
    try simp only [qa, qb, qc, qd, qe] at h3
    refine Qk rfl (Qh rfl rfl (Qk rfl (Qz rfl rfl rfl (Qk rfl (QG (Qaa (by omega)) rfl rfl (.inr rfl) (Qn rfl rfl (Qa rfl ?_)))))))
    refine QF (g := 21) rfl (fun h4 => ?_) (fun h4 => ?_)
    ·try rw [h4]
     try simp only [qa, qb, qc, qd, qe] at h4
     refine Qk rfl (Qh rfl rfl (Qk rfl (Qz rfl rfl rfl (Qk rfl (QG (Qaa (by omega)) rfl rfl (.inr rfl) (Qn rfl rfl (Qa rfl ?_)))))))
     refine hK _ _ (Qb (kp1 rfl) ?_)
     refine Qu (Qs rfl ?_)
     simp [QhO, h1, h2, h3, h4]
    ·try rw [h4]
     try simp only [qa, qb, qc, qd, qe] at h4
     refine Qt rfl (Qt rfl (Qt rfl (Qn rfl rfl (Qa rfl ?_))))
     refine hK _ _ (Qb (kp1 rfl) ?_)
     refine Qu (Qs rfl ?_)
     simp [QhO, h1, h2, h3, h4]
   ·try rw [h3]
    try simp only [qa, qb, qc, qd, qe] at h3
    refine Qt rfl (Qt rfl (Qt rfl (Qn rfl rfl (Qa rfl (Qt rfl (Qt rfl (Qt rfl (Qn rfl rfl (Qa rfl ?_)))))))))
    refine hK _ _ (Qb (kp1 rfl) ?_)
    refine Qu (Qs rfl ?_)
    simp [QhO, h1, h2, h3]
  ·try rw [h2]
   try simp only [qa, qb, qc, qd, qe] at h2
   refine Qt rfl (Qt rfl (Qt rfl (Qn rfl rfl (Qa rfl (Qt rfl (Qt rfl (Qt rfl (Qn rfl rfl (Qa rfl (Qt rfl (Qt rfl ?_)))))))))))
   refine Qt rfl (Qn rfl rfl (Qa rfl ?_))
   refine hK _ _ (Qb (kp1 rfl) ?_)
   refine Qu (Qs rfl ?_)
   simp [QhO, h1, h2]
 ·try rw [h1]
  try simp only [qa, qb, qc, qd, qe] at h1
  refine Qt rfl (Qt rfl (Qt rfl (Qn rfl rfl (Qa rfl (Qt rfl (Qt rfl (Qt rfl (Qn rfl rfl (Qa rfl (Qt rfl (Qt rfl ?_)))))))))))
  refine Qt rfl (Qn rfl rfl (Qa rfl (Qt rfl (Qt rfl (Qt rfl (Qn rfl rfl (Qa rfl ?_)))))))
  refine hK _ _ (Qb (kp1 rfl) ?_)
  refine Qu (Qs rfl ?_)
  simp [QhO, h1]
end Go.Proofs
namespace Go.Proofs
open Go Go.Abs M3
set_option linter.unusedVariables false
set_option linter.unusedSimpArgs false
theorem Xs {a b c : Int} {p q : List UInt8} (hp : p.length <= 1000000) (hq : q.length <= 1000000) {a' b' c' : Int} {p' q' : List UInt8} (hp' : p'.length <= 1000000) (hq' : q'.length <= 1000000) : Ok Try.prog 99 [.agg [.int .i64 a, .int .i64 b, .int .i64 c, .str p, .str q], .agg [.int .i64 a', .int .i64 b', .int .i64 c', .str p', .str q']] (.int .i64 (Ql7 a b c p q a' b' c' p' q')) := by
 refine Ok.ofT Z2 Try.func99 Qso (Nat.le_of_ble_eq_true rfl) ?_
 show TW _ _ tf99.body _ _
 refine Qe fun K hK => Zy rfl rfl rfl (Zy rfl rfl rfl (Qa rfl ?_))
 refine hK _ _ (Qb (kp2 rfl rfl) ?_)
 refine QC ?_ -- 0
 refine Qe fun K hK => QH (cs := [_, _, _, _, _]) rfl rfl rfl rfl (QG (Zf (by omega) (by omega)) rfl rfl (.inr rfl) (Yi rfl (Qa rfl ?_)))
 refine QF (g := 11) rfl (fun h1 => ?_) (fun h1 => ?_)
 ·try rw [h1]
  try simp only [qa, qb, qc, qd, qe] at h1
  refine Qt rfl (Qt rfl (Qt rfl (Qn rfl rfl ?_)))
  refine hK _ _ (Qb (kp3 rfl rfl rfl) ?_)
  refine Zv rfl (Qe fun K hK => Qa rfl ?_)
  refine hK _ _ (Qb (kp1 rfl) ?_)
  refine Qu (Qi (QE rfl ?_))
  simp [Ql7, h1]
 ·try rw [h1]
  try simp only [qa, qb, qc, qd, qe] at h1
  refine Qk rfl (QH (cs := [_, _, _, _, _]) rfl rfl rfl rfl (Qk rfl (QG (Zf (by omega) (by omega)) rfl rfl (.inr rfl) (Qk rfl (Yi rfl (Qn rfl rfl ?_))))))
  refine hK _ _ (Qb (kp3 rfl rfl rfl) ?_)
  refine Qw rfl (fun h2 => ?_) (fun h2 => ?_)
  ·try rw [h2]
   try simp only [qa, qb, qc, qd, qe] at h2
   refine Qe fun K hK => Qa rfl ?_
   refine hK _ _ (Qb (kp1 rfl) ?_)
   refine Qu (Qi (QE rfl ?_))
   simp [Ql7, h1, h2]
  ·try rw [h2]
   try simp only [qa, qb, qc, qd, qe] at h2
   refine Qv (Qd (kp2 rfl rfl) ?_)
   refine QC ?_ -- 1
   refine Qe fun K hK => Qh rfl rfl (Qz rfl rfl rfl (Qh rfl rfl (Qz rfl rfl rfl (QG (Zs) rfl rfl (.inr rfl) (Qa rfl ?_)))))
   refine hK _ _ (Qb (kp3 rfl rfl rfl) ?_)
   refine Qe fun K hK => Qa rfl (X6 rfl rfl ?_)
   refine hK _ _ (Qb (kp4 rfl rfl rfl rfl) ?_)
   refine Qw rfl (fun h3 => ?_) (fun h3 => ?_)
   ·try rw [h3]
    try simp only [qa, qb, qc, qd, qe] at h3
    refine Qe fun K hK => Qa rfl (Qa rfl ?_)
    refine hK _ _ (Qb (kp1 rfl) ?_)
    refine Qu (Qi (QE rfl ?_))
    simp [Ql7, h1, h2, h3]
   ·try rw [h3]
    try simp only [qa, qb, qc, qd, qe] at h3
    refine Qv (Qd (kp2 rfl rfl) ?_)
    refine QC ?_ -- 2
    refine Qe fun K hK => Qh rfl rfl (Qz rfl rfl rfl (Qh rfl rfl (Qz rfl rfl rfl (QG (Zs) rfl rfl (.inr rfl) (Qa rfl ?_)))))
    refine hK _ _ (Qb (kp3 rfl rfl rfl) ?_)
    refine Qe fun K hK => Qa rfl (X6 rfl rfl ?_)
    refine hK _ _ (Qb (kp4 rfl rfl rfl rfl) ?_)
    refine Qw rfl (fun h4 => ?_) (fun h4 => ?_)
    ·try rw [h4]
     try simp only [qa, qb, qc, qd, qe] at h4
     refine Qe fun K hK => Qa rfl (Qa rfl ?_)
     refine hK _ _ (Qb (kp1 rfl) ?_)
     refine Qu (Qi (QE rfl ?_))
     simp [Ql7, h1, h2, h3, h4]
    ·try rw [h4]
     try simp only [qa, qb, qc, qd, qe] at h4
     refine Qv (Qd (kp2 rfl rfl) ?_)
     refine QC ?_ -- 3
     refine Qe fun K hK => Qh rfl rfl (Qz rfl rfl rfl (Qh rfl rfl (Qz rfl rfl rfl (QG (Zs) rfl rfl (.inr rfl) (Qa rfl ?_)))))
     refine hK _ _ (Qb (kp3 rfl rfl rfl) ?_)
     refine Qe fun K hK => Qa rfl (X6 rfl rfl ?_)
     refine hK _ _ (Qb (kp4 rfl rfl rfl rfl) ?_)
     refine Qw rfl (fun h5 => ?_) (fun h5 => ?_)
     ·try rw [h5]
      try simp only [qa, qb, qc, qd, qe] at h5
      refine Qe fun K hK => Qa rfl (Qa rfl ?_)
      refine hK _ _ (Qb (kp1 rfl) ?_)
      refine Qu (Qi (QE rfl ?_))
      simp [Ql7, h1, h2, h3, h4, h5]
     ·try rw [h5]
      try simp only [qa, qb, qc, qd, qe] at h5
      refine Qv (Qd (kp2 rfl rfl) (Qe fun K hK => Qh rfl rfl (Qz rfl rfl rfl (Qh rfl rfl (Qz rfl rfl rfl (QG (QcW (by omega) (by omega)) rfl rfl (.inr rfl) (Qa rfl ?_)))))))
      refine hK _ _ (Qb (kp1 rfl) ?_)
      refine Qu (QE rfl ?_)
      simp [Ql7, h1, h2, h3, h4, h5]
theorem Ye {e a b c : Int} {p q : List UInt8} {f : Bool} (hp : p.length <= 1000000) (hq : q.length <= 1000000) : Ok Try.prog 97 [.agg [.int .i64 e, .int .i64 a, .int .i64 b, .int .i64 c, .str p, .str q, .bool f]] (.bool (Qed e a b c p q f)) := by
 refine Ok.ofT Z2 Try.func97 Qsm (Nat.le_of_ble_eq_true rfl) ?_
 show TW _ _ tf97.body _ _
 refine Qe fun K hK => Zy rfl rfl rfl (Qa rfl ?_)
 refine hK _ _ (Qb (kp1 rfl) ?_)
 refine QC ?_ -- 0
 refine Qe fun K hK => Qh rfl rfl (Qz rfl rfl rfl (ZH rfl rfl ?_))
 refine hK _ _ (Qb (kp2 rfl rfl) ?_)
 refine Qw rfl (fun h1 => ?_) (fun h1 => ?_)
 ·try rw [h1]
  try simp only [qa, qb, qc, qd, qe] at h1
  refine Qe fun K hK => Qh rfl rfl (QH (cs := [_, _, _, _, _]) rfl rfl rfl rfl (QG (Zf (by omega) (by omega)) rfl rfl (.inr rfl) (Qa rfl ?_)))
  refine QF (g := 9) rfl (fun h2 => ?_) (fun h2 => ?_)
  ·try rw [h2]
   try simp only [qa, qb, qc, qd, qe] at h2
   refine Qk rfl (Qh rfl rfl (Qk rfl (Qh rfl rfl (Qk rfl (Qz rfl rfl rfl (Qk rfl (QgU rfl rfl (Qn rfl rfl (Qa rfl ?_)))))))))
   refine hK _ _ (Qb (kp1 rfl) ?_)
   refine Qu (Qi (Qs rfl ?_))
   simp_all [Qed]
  ·try rw [h2]
   try simp only [qa, qb, qc, qd, qe] at h2
   refine Qt rfl (Qt rfl (Qt rfl (Qt rfl (Qn rfl rfl (Qa rfl ?_)))))
   refine hK _ _ (Qb (kp1 rfl) ?_)
   refine Qu (Qi (Qs rfl ?_))
   simp_all [Qed]
 ·try rw [h1]
  try simp only [qa, qb, qc, qd, qe] at h1
  refine Qv (Qd (kp1 rfl) (Qe fun K hK => Qh rfl rfl (Qz rfl rfl rfl (ZH rfl rfl (Qa rfl ?_)))))
  refine QF (g := 18) rfl (fun h3 => ?_) (fun h3 => ?_)
  ·try rw [h3]
   try simp only [qa, qb, qc, qd, qe] at h3
   refine Qt rfl (Qt rfl (Qt rfl (Qn rfl rfl (Qa rfl (Qk rfl (Qh rfl rfl (Qk rfl (QH (cs := [_, _, _, _, _]) rfl rfl rfl rfl (Qk rfl (QT rfl rfl (Qk rfl ?_)))))))))))
   refine Qlr rfl rfl rfl (Qn rfl rfl (Qa rfl ?_))
   refine QF (g := 29) rfl (fun h4 => ?_) (fun h4 => ?_)
   ·try rw [h4]
    try simp only [qa, qb, qc, qd, qe] at h4
    refine Qk rfl (Qh rfl rfl (Qk rfl (Qz rfl rfl rfl (Qk rfl (Yi rfl (Qn rfl rfl (Qa rfl ?_)))))))
    refine hK _ _ (Qb (kp1 rfl) ?_)
    refine Qu (Qs rfl ?_)
    simp_all [Qed]
   ·try rw [h4]
    try simp only [qa, qb, qc, qd, qe] at h4
    refine Qt rfl (Qt rfl (Qt rfl (Qn rfl rfl (Qa rfl ?_))))
    refine hK _ _ (Qb (kp1 rfl) ?_)
    refine Qu (Qs rfl ?_)
    simp_all [Qed]
  ·try rw [h3]
   try simp only [qa, qb, qc, qd, qe] at h3
   refine Qk rfl (Qh rfl rfl (Qk rfl (Qz rfl rfl rfl (Qk rfl (ZH rfl rfl (Qn rfl rfl (Qa rfl ?_)))))))
   refine QF (g := 23) rfl (fun h5 => ?_) (fun h5 => ?_)
   ·try rw [h5]
    try simp only [qa, qb, qc, qd, qe] at h5
    refine Qk rfl (Qh rfl rfl (Qk rfl (QH (cs := [_, _, _, _, _]) rfl rfl rfl rfl (Qk rfl (QT rfl rfl (Qk rfl (Qlr rfl rfl rfl (Qn rfl rfl (Qa rfl ?_)))))))))
    refine QF (g := 29) rfl (fun h6 => ?_) (fun h6 => ?_)
    ·try rw [h6]
     try simp only [qa, qb, qc, qd, qe] at h6
     refine Qk rfl (Qh rfl rfl (Qk rfl (Qz rfl rfl rfl (Qk rfl (Yi rfl (Qn rfl rfl (Qa rfl ?_)))))))
     refine hK _ _ (Qb (kp1 rfl) ?_)
     refine Qu (Qs rfl ?_)
     simp_all [Qed]
    ·try rw [h6]
     try simp only [qa, qb, qc, qd, qe] at h6
     refine Qt rfl (Qt rfl (Qt rfl (Qn rfl rfl (Qa rfl ?_))))
     refine hK _ _ (Qb (kp1 rfl) ?_)
     refine Qu (Qs rfl ?_)
     simp_all [Qed]
   ·try rw [h5]
    try simp only [qa, qb, qc, qd, qe] at h5
    refine Qt rfl (Qt rfl (Qt rfl (Qt rfl (Qn rfl rfl (Qa rfl (Qt rfl (Qt rfl (Qt rfl (Qn rfl rfl (Qa rfl ?_))))))))))
    refine hK _ _ (Qb (kp1 rfl) ?_)
    refine Qu (Qs rfl ?_)
    simp_all [Qed]
theorem Zr {e a b c : Int} {p q : List UInt8} {f : Bool} (hp : p.length <= 1000000) (hq : q.length <= 1000000) {e' a' b' c' : Int} {p' q' : List UInt8} {f' : Bool} (hp' : p'.length <= 1000000) (hq' : q'.length <= 1000000) : Ok Try.prog 94 [.agg [.int .i64 e, .int .i64 a, .int .i64 b, .int .i64 c, .str p, .str q, .bool f], .agg [.int .i64 e', .int .i64 a', .int .i64 b', .int .i64 c', .str p', .str q', .bool f']] (.int .i64 (Qbg e a b c p q f e' a' b' c' p' q' f')) := by
 refine Ok.ofT Z2 Try.func94 Qsj (Nat.le_of_ble_eq_true rfl) ?_
 show TW _ _ tf94.body _ _
 refine Qe fun K hK => Zy rfl rfl rfl (Zy rfl rfl rfl (Qa rfl ?_))
 refine hK _ _ (Qb (kp2 rfl rfl) ?_)
 refine QC ?_ -- 0
 refine Qe fun K hK => QH (cs := [_, _, _, _, _, _, _]) rfl rfl rfl rfl (QG (Ye (by omega) (by omega)) rfl rfl (.inr rfl) (Yi rfl (Qa rfl ?_)))
 refine QF (g := 9) rfl (fun h1 => ?_) (fun h1 => ?_)
 ·try rw [h1]
  try simp only [qa, qb, qc, qd, qe] at h1
  refine Qt rfl (Qt rfl (Qt rfl (Qn rfl rfl ?_)))
  refine hK _ _ (Qb (kp3 rfl rfl rfl) ?_)
  refine Zv rfl (Qe fun K hK => Qa rfl ?_)
  refine hK _ _ (Qb (kp1 rfl) ?_)
  refine Qu (Qi (QE rfl ?_))
  first | (simp [Qbg, h1]; done) | (simp_all [Qbg]; done)
 ·try rw [h1]
  try simp only [qa, qb, qc, qd, qe] at h1
  refine Qk rfl (QH (cs := [_, _, _, _, _, _, _]) rfl rfl rfl rfl (Qk rfl (QG (Ye (by omega) (by omega)) rfl rfl (.inr rfl) (Qk rfl (Yi rfl (Qn rfl rfl ?_))))))
  refine hK _ _ (Qb (kp3 rfl rfl rfl) ?_)
  refine Qw rfl (fun h2 => ?_) (fun h2 => ?_)
  ·try rw [h2]
   try simp only [qa, qb, qc, qd, qe] at h2
   refine Qe fun K hK => Qa rfl ?_
   refine hK _ _ (Qb (kp1 rfl) ?_)
   refine Qu (Qi (QE rfl ?_))
   first | (simp [Qbg, h1, h2]; done) | (simp_all [Qbg]; done)
  ·try rw [h2]
   try simp only [qa, qb, qc, qd, qe] at h2
   refine Qv (Qd (kp2 rfl rfl) ?_)
   refine QC ?_ -- 1
   refine Qe fun K hK => Qh rfl rfl (Qz rfl rfl rfl (Qh rfl rfl (Qz rfl rfl rfl ?_)))
   first | refine X6 rfl rfl ?_ | refine Qna rfl rfl ?_
   refine Qa rfl ?_
   refine QF (g := 19) rfl (fun h3 => ?_) (fun h3 => ?_)
   ·try rw [h3]
    try simp only [qa, qb, qc, qd, qe] at h3
    refine Qt rfl (Qt rfl (Qt rfl (Qn rfl rfl ?_)))
    refine hK _ _ (Qb (kp3 rfl rfl rfl) ?_)
    refine Zv rfl (Qe fun K hK => Qh rfl rfl (Qz rfl rfl rfl (Qh rfl rfl (Qz rfl rfl rfl (QG (Zs) rfl rfl (.inr rfl) (Qa rfl ?_))))))
    refine hK _ _ (Qb (kp1 rfl) ?_)
    refine Qu (Qi (QE rfl ?_))
    first | (simp [Qbg, h1, h2, h3]; done) | (simp_all [Qbg]; done)
   ·try rw [h3]
    try simp only [qa, qb, qc, qd, qe] at h3
    refine Qk rfl (Qh rfl rfl (Qk rfl (Qz rfl rfl rfl (Qk rfl (X6 rfl rfl (Qn rfl rfl ?_))))))
    refine hK _ _ (Qb (kp3 rfl rfl rfl) ?_)
    refine Qw rfl (fun h4 => ?_) (fun h4 => ?_)
    ·try rw [h4]
     try simp only [qa, qb, qc, qd, qe] at h4
     refine Qe fun K hK => Qh rfl rfl (Qz rfl rfl rfl (Qh rfl rfl (Qz rfl rfl rfl (QG (Zs) rfl rfl (.inr rfl) (Qa rfl ?_)))))
     refine hK _ _ (Qb (kp1 rfl) ?_)
     refine Qu (Qi (QE rfl ?_))
     first | (simp [Qbg, h1, h2, h3, h4]; done) | (simp_all [Qbg]; done)
    ·try rw [h4]
     try simp only [qa, qb, qc, qd, qe] at h4
     refine Qv (Qd (kp2 rfl rfl) ?_)
     refine QC ?_ -- 2
     refine Qe fun K hK => Qh rfl rfl (QH (cs := [_, _, _, _, _]) rfl rfl rfl rfl (Qh rfl rfl (QH (cs := [_, _, _, _, _]) rfl rfl rfl rfl (QG (Xs (by omega) (by omega) (by omega) (by omega)) rfl rfl (.inr rfl) (Qa rfl ?_)))))
     refine hK _ _ (Qb (kp3 rfl rfl rfl) ?_)
     refine Qe fun K hK => Qa rfl (X6 rfl rfl ?_)
     refine hK _ _ (Qb (kp4 rfl rfl rfl rfl) ?_)
     refine Qw rfl (fun h5 => ?_) (fun h5 => ?_)
     ·try rw [h5]
      try simp only [qa, qb, qc, qd, qe] at h5
      refine Qe fun K hK => Qa rfl (Qa rfl ?_)
      refine hK _ _ (Qb (kp1 rfl) ?_)
      refine Qu (Qi (QE rfl ?_))
      first | (simp [Qbg, h1, h2, h3, h4, h5]; done) | (simp_all [Qbg]; done)
     ·try rw [h5]
      try simp only [qa, qb, qc, qd, qe] at h5
      refine Qv (Qd (kp2 rfl rfl) ?_)
      refine QC ?_ -- 3
      refine QA (Qe fun K hK => Qh rfl rfl (Qz rfl rfl rfl (Qh rfl rfl (Qz rfl rfl rfl (Qqp rfl rfl (Qa rfl ?_))))))
      refine hK _ _ (Qb (kp2 rfl rfl) ?_)
      refine Qw rfl (fun h6 => ?_) (fun h6 => ?_)
      ·try rw [h6]
       try simp only [qa, qb, qc, qd, qe] at h6
       refine Qe fun K hK => Qa rfl ?_
       refine hK _ _ (Qb (kp1 rfl) ?_)
       refine Qu (Qr (Qi (QE rfl ?_)))
       first | (simp [Qbg, h1, h2, h3, h4, h5, h6]; done) | (simp_all [Qbg]; done)
      ·try rw [h6]
       try simp only [qa, qb, qc, qd, qe] at h6
       refine Qe fun K hK => Qh rfl rfl (Qz rfl rfl rfl (Qa rfl ?_))
       refine hK _ _ (Qb (kp1 rfl) ?_)
       refine Qw rfl (fun h7 => ?_) (fun h7 => ?_)
       ·try rw [h7]
        try simp only [qa, qb, qc, qd, qe] at h7
        refine Qe fun K hK => Qa rfl ?_
        refine hK _ _ (Qb (kp1 rfl) ?_)
        refine Qu (Qr (Qi (QE rfl ?_)))
        first | (simp [Qbg, h1, h2, h3, h4, h5, h6, h7]; done) | (simp_all [Qbg]; done)
       ·try rw [h7]
        try simp only [qa, qb, qc, qd, qe] at h7
        refine Qv (Qg (Qd (Q4) (Qe fun K hK => Qa rfl ?_)))
        refine hK _ _ (Qb (kp1 rfl) ?_)
        refine Qu (QE rfl ?_)
        first | (simp [Qbg, h1, h2, h3, h4, h5, h6, h7]; done) | (simp_all [Qbg]; done)
theorem XQ {e a b c : Int} {p q : List UInt8} {f : Bool} (hp : p.length <= 1000000) (hq : q.length <= 1000000) {a' b' c' : Int} {p' q' : List UInt8} (hp' : p'.length <= 1000000) (hq' : q'.length <= 1000000) : Ok Try.prog 100 [.agg [.int .i64 e, .int .i64 a, .int .i64 b, .int .i64 c, .str p, .str q, .bool f], .agg [.int .i64 a', .int .i64 b', .int .i64 c', .str p', .str q']] (.bool (Qae e a b c p q f a' b' c' p' q')) := by
 refine Ok.ofT Z2 Try.func100 QqI (Nat.le_of_ble_eq_true rfl) ?_
 show TW _ _ tf100.body _ _
 refine Qe fun K hK => Zy rfl rfl rfl (Zy rfl rfl rfl (Qa rfl ?_))
 refine hK _ _ (Qb (kp2 rfl rfl) ?_)
 refine QC ?_ -- 0
 refine Qe fun K hK => QH (cs := [_, _, _, _, _, _, _]) rfl rfl rfl rfl (QG (Ye (by omega) (by omega)) rfl rfl (.inr rfl) (Yi rfl (Qa rfl ?_)))
 refine QF (g := 9) rfl (fun h1 => ?_) (fun h1 => ?_)
 ·try rw [h1]
  try simp only [qa, qb, qc, qd, qe] at h1
  refine Qt rfl (Qt rfl (Qt rfl (Qn rfl rfl ?_)))
  refine hK _ _ (Qb (kp3 rfl rfl rfl) ?_)
  refine Zv rfl (Qe fun K hK => Qa rfl ?_)
  refine hK _ _ (Qb (kp1 rfl) ?_)
  refine Qu (Qi (Qs rfl ?_))
  first | (simp [Qae, h1]; done) | (simp_all [Qae]; done)
 ·try rw [h1]
  try simp only [qa, qb, qc, qd, qe] at h1
  refine Qk rfl (QH (cs := [_, _, _, _, _]) rfl rfl rfl rfl (Qk rfl (QG (Zf (by omega) (by omega)) rfl rfl (.inr rfl) (Qk rfl (Yi rfl (Qn rfl rfl ?_))))))
  refine hK _ _ (Qb (kp3 rfl rfl rfl) ?_)
  refine Qw rfl (fun h2 => ?_) (fun h2 => ?_)
  ·try rw [h2]
   try simp only [qa, qb, qc, qd, qe] at h2
   refine Qe fun K hK => Qa rfl ?_
   refine hK _ _ (Qb (kp1 rfl) ?_)
   refine Qu (Qi (Qs rfl ?_))
   first | (simp [Qae, h1, h2]; done) | (simp_all [Qae]; done)
  ·try rw [h2]
   try simp only [qa, qb, qc, qd, qe] at h2
   refine Qv (Qd (kp2 rfl rfl) ?_)
   refine QC ?_ -- 1
   refine Qe fun K hK => Qh rfl rfl (Qz rfl rfl rfl (X6 rfl rfl ?_))
   refine hK _ _ (Qb (kp3 rfl rfl rfl) ?_)
   refine Qw rfl (fun h3 => ?_) (fun h3 => ?_)
   ·try rw [h3]
    try simp only [qa, qb, qc, qd, qe] at h3
    refine Qe fun K hK => Qh rfl rfl (Qz rfl rfl rfl (Yb rfl rfl (Qa rfl ?_)))
    refine hK _ _ (Qb (kp1 rfl) ?_)
    refine Qu (Qi (Qs rfl ?_))
    first | (simp [Qae, h1, h2, h3]; done) | (simp_all [Qae]; done)
   ·try rw [h3]
    try simp only [qa, qb, qc, qd, qe] at h3
    refine Qv (Qd (kp2 rfl rfl) (Qe fun K hK => Qh rfl rfl (QH (cs := [_, _, _, _, _]) rfl rfl rfl rfl (QH (cs := [_, _, _, _, _]) rfl rfl rfl rfl (QG (Xs (by omega) (by omega) (by omega) (by omega)) rfl rfl (.inr rfl) (Qa rfl ?_))))))
    refine hK _ _ (Qb (kp2 rfl rfl) ?_)
    refine Qe fun K hK => Qa rfl (Yb rfl rfl (Qa rfl ?_))
    refine QF (g := 26) rfl (fun h4 => ?_) (fun h4 => ?_)
    ·try rw [h4]
     try simp only [qa, qb, qc, qd, qe] at h4
     refine Qt rfl (Qt rfl (Qt rfl (Zu rfl (Zu rfl (Zu rfl (Qt rfl (Qn rfl rfl (Qa rfl ?_))))))))
     refine hK _ _ (Qb (kp1 rfl) ?_)
     refine Qu (Qs rfl ?_)
     first | (simp [Qae, h1, h2, h3, h4]; done) | (simp_all [Qae]; done)
    ·try rw [h4]
     try simp only [qa, qb, qc, qd, qe] at h4
     refine Qk rfl (Qa rfl (Qk rfl (ZH rfl rfl (Qk rfl (Qa rfl ?_)))))
     refine QF (g := 29) rfl (fun h5 => ?_) (fun h5 => ?_)
     ·try rw [h5]
      try simp only [qa, qb, qc, qd, qe] at h5
      refine Qk rfl (Qh rfl rfl (Qk rfl (Qz rfl rfl rfl (Qk rfl (Yi rfl (Qk rfl (Qn rfl rfl (Qn rfl rfl (Qa rfl ?_)))))))))
      refine hK _ _ (Qb (kp1 rfl) ?_)
      refine Qu (Qs rfl ?_)
      first | (simp [Qae, h1, h2, h3, h4, h5]; done) | (simp_all [Qae]; done)
     ·try rw [h5]
      try simp only [qa, qb, qc, qd, qe] at h5
      refine Qt rfl (Qt rfl (Qt rfl (Qk rfl (Qn rfl rfl (Qn rfl rfl (Qa rfl ?_))))))
      refine hK _ _ (Qb (kp1 rfl) ?_)
      refine Qu (Qs rfl ?_)
      first | (simp [Qae, h1, h2, h3, h4, h5]; done) | (simp_all [Qae]; done)
theorem YE {e a b c : Int} {p q : List UInt8} {f : Bool} (hp : p.length <= 1000000) (hq : q.length <= 1000000) {e' a' b' c' : Int} {p' q' : List UInt8} {f' : Bool} (hp' : p'.length <= 1000000) (hq' : q'.length <= 1000000) : Ok Try.prog 93 [.agg [.int .i64 e, .int .i64 a, .int .i64 b, .int .i64 c, .str p, .str q, .bool f, .int .i64 e', .int .i64 a', .int .i64 b', .int .i64 c', .str p', .str q', .bool f']] (.bool (Qhv e a b c p q f e' a' b' c' p' q' f')) := by
 refine Ok.ofT Z2 Try.func93 Qsi (Nat.le_of_ble_eq_true rfl) ?_
 show TW _ _ tf93.body _ _
 refine Qe fun K hK => Zy rfl rfl rfl (Qa rfl ?_)
 refine hK _ _ (Qb (kp1 rfl) ?_)
 refine Qe fun K hK => Qh rfl rfl (QH (cs := [_, _, _, _, _, _, _]) rfl rfl rfl rfl (QG (Ye (by omega) (by omega)) rfl rfl (.inr rfl) (Qa rfl ?_)))
 refine QF (g := 6) rfl (fun h1 => ?_) (fun h1 => ?_)
 ·try rw [h1]
  try simp only [qa, qb, qc, qd, qe] at h1
  refine Qk rfl (Qh rfl rfl (Qk rfl (QH (cs := [_, _, _, _, _, _, _]) rfl rfl rfl rfl (Qk rfl (QG (Ye (by omega) (by omega)) rfl rfl (.inr rfl) (Qn rfl rfl (Qa rfl ?_)))))))
  refine QF (g := 11) rfl (fun h2 => ?_) (fun h2 => ?_)
  ·try rw [h2]
   try simp only [qa, qb, qc, qd, qe] at h2
   refine Qk rfl (Qh rfl rfl (Qk rfl (QH (cs := [_, _, _, _, _, _, _]) rfl rfl rfl rfl (Qk rfl (Qh rfl rfl (Qk rfl (QH (cs := [_, _, _, _, _, _, _]) rfl rfl rfl rfl (Qk rfl (QG (Zr (by omega) (by omega) (by omega) (by omega)) rfl rfl (.inr rfl) (Qk rfl (Yb rfl rfl ?_)))))))))))
   refine Qn rfl rfl (Qa rfl ?_)
   refine hK _ _ (Qb (kp1 rfl) ?_)
   refine Qu (Qs rfl ?_)
   first | (simp [Qhv, h1, h2]; done) | (simp_all [Qhv]; done)
  ·try rw [h2]
   try simp only [qa, qb, qc, qd, qe] at h2
   refine Qt rfl (Qt rfl (Qt rfl (Qt rfl (Qt rfl (Qt rfl (Qn rfl rfl (Qa rfl ?_)))))))
   refine hK _ _ (Qb (kp1 rfl) ?_)
   refine Qu (Qs rfl ?_)
   first | (simp [Qhv, h1, h2]; done) | (simp_all [Qhv]; done)
 ·try rw [h1]
  try simp only [qa, qb, qc, qd, qe] at h1
  refine Qt rfl (Qt rfl (Qt rfl (Qn rfl rfl (Qa rfl (Qt rfl (Qt rfl (Qt rfl (Qt rfl (Qt rfl (Qt rfl (Qn rfl rfl ?_)))))))))))
  refine Qa rfl ?_
  refine hK _ _ (Qb (kp1 rfl) ?_)
  refine Qu (Qs rfl ?_)
  first | (simp [Qhv, h1]; done) | (simp_all [Qhv]; done)
theorem QcH {e a b c : Int} {p q : List UInt8} {f : Bool} (hp : p.length <= 1000000) (hq : q.length <= 1000000) {e' a' b' c' : Int} {p' q' : List UInt8} {f' : Bool} (hp' : p'.length <= 1000000) (hq' : q'.length <= 1000000) {x y z : Int} {r s : List UInt8} (hr : r.length <= 1000000) (hs : s.length <= 1000000) : Ok Try.prog 96 [.agg [.int .i64 e, .int .i64 a, .int .i64 b, .int .i64 c, .str p, .str q, .bool f, .int .i64 e', .int .i64 a', .int .i64 b', .int .i64 c', .str p', .str q', .bool f'], .agg [.int .i64 x, .int .i64 y, .int .i64 z, .str r, .str s]] (.bool (QcN e a b c p q f e' a' b' c' p' q' f' x y z r s)) := by
 refine Ok.ofT Z2 Try.func96 Qsl (Nat.le_of_ble_eq_true rfl) ?_
 show TW _ _ tf96.body _ _
 refine Qe fun K hK => Zy rfl rfl rfl (Zy rfl rfl rfl (Qa rfl ?_))
 refine hK _ _ (Qb (kp2 rfl rfl) ?_)
 refine Qe fun K hK => QH (cs := [_, _, _, _, _, _, _, _, _, _, _, _, _, _]) rfl rfl rfl rfl (QG (YE (by omega) (by omega) (by omega) (by omega)) rfl rfl (.inr rfl) (Qa rfl ?_))
 refine QF (g := 7) rfl (fun h1 => ?_) (fun h1 => ?_)
 ·try rw [h1]
  try simp only [qa, qb, qc, qd, qe] at h1
  refine Qk rfl (QH (cs := [_, _, _, _, _]) rfl rfl rfl rfl (Qk rfl (QG (Zf (by omega) (by omega)) rfl rfl (.inr rfl) (Qn rfl rfl (Qa rfl ?_)))))
  refine QF (g := 11) rfl (fun h2 => ?_) (fun h2 => ?_)
  ·try rw [h2]
   try simp only [qa, qb, qc, qd, qe] at h2
   refine Qk rfl (Qh rfl rfl (Qk rfl (QH (cs := [_, _, _, _, _, _, _]) rfl rfl rfl rfl (Qk rfl (QH (cs := [_, _, _, _, _]) rfl rfl rfl rfl (Qk rfl (QG (XQ (by omega) (by omega) (by omega) (by omega)) rfl rfl (.inr rfl) (Qn rfl rfl (Qa rfl ?_)))))))))
   refine QF (g := 17) rfl (fun h3 => ?_) (fun h3 => ?_)
   ·try rw [h3]
    try simp only [qa, qb, qc, qd, qe] at h3
    refine Qk rfl (Qh rfl rfl (Qk rfl (QH (cs := [_, _, _, _, _, _, _]) rfl rfl rfl rfl (Qk rfl (QH (cs := [_, _, _, _, _]) rfl rfl rfl rfl (Qk rfl (QG (XQ (by omega) (by omega) (by omega) (by omega)) rfl rfl (.inr rfl) (Qk rfl (Yi rfl (Qn rfl rfl (Qa rfl ?_)))))))))))
    refine hK _ _ (Qb (kp1 rfl) ?_)
    refine Qu (Qs rfl ?_)
    first | (simp [QcN, h1, h2, h3]; done) | (simp_all [QcN]; done)
   ·try rw [h3]
    try simp only [qa, qb, qc, qd, qe] at h3
    refine Qt rfl (Qt rfl (Qt rfl (Qt rfl (Qt rfl (Qn rfl rfl (Qa rfl ?_))))))
    refine hK _ _ (Qb (kp1 rfl) ?_)
    refine Qu (Qs rfl ?_)
    first | (simp [QcN, h1, h2, h3]; done) | (simp_all [QcN]; done)
  ·try rw [h2]
   try simp only [qa, qb, qc, qd, qe] at h2
   refine Qt rfl (Qt rfl (Qt rfl (Qt rfl (Qn rfl rfl (Qa rfl (Qt rfl (Qt rfl (Qt rfl (Qt rfl (Qt rfl (Qn rfl rfl ?_)))))))))))
   refine Qa rfl ?_
   refine hK _ _ (Qb (kp1 rfl) ?_)
   refine Qu (Qs rfl ?_)
   first | (simp [QcN, h1, h2]; done) | (simp_all [QcN]; done)
 ·try rw [h1]
  try simp only [qa, qb, qc, qd, qe] at h1
  refine Qt rfl (Qt rfl (Qn rfl rfl (Qa rfl (Qt rfl (Qt rfl (Qt rfl (Qt rfl (Qn rfl rfl (Qa rfl (Qt rfl (Qt rfl ?_)))))))))))
  refine Qt rfl (Qt rfl (Qt rfl (Qn rfl rfl (Qa rfl ?_))))
  refine hK _ _ (Qb (kp1 rfl) ?_)
  refine Qu (Qs rfl ?_)
  first | (simp [QcN, h1]; done) | (simp_all [QcN]; done)
end Go.Proofs
namespace M3
open Go Go.Abs
end M3
namespace M3
open Go Go.Abs
end M3
namespace M3
open Go Go.Abs
end M3
namespace M25
open Go Go.Abs M3
def QgA (a b c : Int) : Bool := decide (a = 0) && decide (b = 0) && decide (c = 0)
def XY (a b c : Int) (p q : List UInt8) (part : Int) : Option (Int × Int × Int) :=
 if QhO a b c p q = false \/ part < 0 \/ 2 < part then none
 else
  let o := if part = 0 then (a + 1, 0, 0) else if part = 1 then (a, b + 1, 0) else (a, b, c + 1)
  if QhO o.1 o.2.1 o.2.2 [] [] = true then some o else none
def dOV (o : Option (Int × Int × Int)) : D := .tup [.agg [.int .i64 (o.getD (0, 0, 0)).1, .int .i64 (o.getD (0, 0, 0)).2.1, .int .i64 (o.getD (0, 0, 0)).2.2, .str [], .str []], .bool o.isSome]
def XB (a b c : Int) (p q : List UInt8) : Nat -> Option (Int × Int × Int)
 | 0 => none
 | n + 1 => if (XY a b c p q n).isSome = true then XY a b c p q n else XB a b c p q n
def Qiv (a b c : Int) (p q : List UInt8) : Option (Int × Int × Int) :=
 if QhO a b c p q = false then none else if p ≠ [] then some (a, b, c) else XB a b c p q 3
theorem Qcl {a b c : Int} {p q : List UInt8} (h : QhO a b c p q = true) : (0 <= a /\ a <= 9999) /\ (0 <= b /\ b <= 9999) /\ (0 <= c /\ c <= 9999) := by
 simp only [QhO, Qjr, Bool.and_eq_true, decide_eq_true_eq] at h
 omega
theorem Qi9 {a b c : Int} {p q : List UInt8} {m : Nat} (hm : 0 < m) (h : (XY a b c p q ((m : Int) - 1)).isSome = false) : XB a b c p q m = XB a b c p q (m - 1) := by
 obtain ⟨n, rfl⟩ : ∃ n, m = n + 1 := ⟨m - 1, by omega⟩
 rw [show ((n + 1 : Nat) : Int) - 1 = (n : Int) by omega] at h
 rw [XB, if_neg (by rw [h]; simp)]; rfl
theorem QhZ {a b c : Int} {p q : List UInt8} {m : Nat} (hm : 0 < m) (h : (XY a b c p q ((m : Int) - 1)).isSome = true) : XB a b c p q m = XY a b c p q ((m : Int) - 1) := by
 obtain ⟨n, rfl⟩ : ∃ n, m = n + 1 := ⟨m - 1, by omega⟩
 rw [show ((n + 1 : Nat) : Int) - 1 = (n : Int) by omega] at h ⊢
 rw [XB, if_pos h]
def dCu (x : Cu) : List D := [.int .i64 x.e, .int .i64 x.a, .int .i64 x.b, .int .i64 x.c, .str x.p, .str x.q, .bool x.f]
def QeJ (s : Cu × Cu) : List D := dCu s.1 ++ dCu s.2
def ZC (l : List (Cu × Cu)) : D := .sl (l.map QeJ)
def Qg2 (s : List (Cu × Cu) × List (Cu × Cu)) : D := .agg [ZC s.1, ZC s.2]
def Qbv : Cu := ⟨-1, 0, 0, 0, [], [], false⟩
def QeL : Cu := ⟨1, 0, 0, 0, [], [], false⟩
def QfH (a b c : Int) : Cu := if QgA a b c = true then Qbv else ⟨0, a, b, c, [], [], false⟩
def QdA (a b c : Int) : Cu := match Qiv a b c [] [] with
 | none => QeL
 | some o => ⟨0, o.1, o.2.1, o.2.2, [], [], false⟩
def Xc (a b c : Int) (p q : List UInt8) : List (Cu × Cu) × List (Cu × Cu) :=
 if QhO a b c p q = false then ([], []) else if p ≠ [] then ([], [(⟨0, a, b, c, p, [], false⟩, ⟨0, a, b, c, p, [], true⟩)]) else ([(QfH a b c, QdA a b c)], [])
def QgC (e a b c : Int) (p q : List UInt8) (f : Bool) : Bool := !decide (e = 0) || (!f && decide (p = []) && !QgA a b c)
def Cu.sm (x : Cu) : Prop := x.p.length <= 1000000 /\ x.q.length <= 1000000
def Sm (l : List (Cu × Cu)) : Prop := l.length <= 1000000 /\ ∀ s ∈ l, Cu.sm s.1 /\ Cu.sm s.2
theorem Sm.at {l : List (Cu × Cu)} (h : Sm l) {i : Nat} (hi : i < l.length) : (l[i].1.p.length <= 1000000 /\ l[i].1.q.length <= 1000000) /\ (l[i].2.p.length <= 1000000 /\ l[i].2.q.length <= 1000000) := h.2 _ (List.getElem_mem hi)
def QdE (s : Cu × Cu) : Bool := Qhv s.1.e s.1.a s.1.b s.1.c s.1.p s.1.q s.1.f s.2.e s.2.a s.2.b s.2.c s.2.p s.2.q s.2.f
def Qbh (x y : Cu) : Int := Qbg x.e x.a x.b x.c x.p x.q x.f y.e y.a y.b y.c y.p y.q y.f
def QpB (l : List (Cu × Cu)) (i : Nat) : Bool := match l[i]? with
 | none => true
 | some s => QdE s && (decide (i = 0) || match l[i - 1]? with | none => true | some r => decide (Qbh r.2 s.1 < 0))
theorem Qml {l : List (Cu × Cu)} {i : Nat} (h : i < l.length) : QpB l i = (QdE l[i] && (decide (i = 0) || decide (Qbh (l[i - 1]'(by omega)).2 l[i].1 < 0))) := by
 unfold QpB
 rw [List.getElem?_eq_getElem h, List.getElem?_eq_getElem (show i - 1 < l.length by omega)]
theorem Qox {l : List (Cu × Cu)} {i : Nat} (h : i < l.length) (h1 : QdE l[i] = true) (h2 : i = 0 \/ Qbh (l[i - 1]'(by omega)).2 l[i].1 < 0) : QpB l i = true := by
 rw [Qml h, h1]; simpa using h2
theorem QgH {l : List (Cu × Cu)} {i : Nat} (h : i < l.length) (h1 : QdE l[i] = false \/ (i ≠ 0 /\ 0 <= Qbh (l[i - 1]'(by omega)).2 l[i].1)) : QpB l i = false := by
 rw [Qml h]
 rcases h1 with h1 | ⟨h1, h2⟩
 ·rw [h1]; rfl
 ·simp only [Bool.and_eq_false_iff, Bool.or_eq_false_iff, decide_eq_false_iff_not]
  exact .inr ⟨h1, by omega⟩
def Qee (l : List (Cu × Cu)) : Bool := (List.range l.length).all (QpB l)
theorem Qcp {n i : Nat} {p : Nat -> Bool} (h : i < n) (hp : p i = false) : (List.range n).all p = false := by
 rw [Bool.eq_false_iff]; intro ha
 rw [List.all_eq_true] at ha
 rw [ha i (List.mem_range.2 h)] at hp; cases hp
theorem Qku {i : Nat} {p : Nat -> Bool} (h : (List.range i).all p = true) (hp : p i = true) : (List.range (i + 1)).all p = true := by
 rw [List.range_succ, List.all_append, h]; simp [hp]
theorem Qhz {i : Nat} {p : Nat -> Bool} {n : Nat} (h : (List.range i).all p = true) (hn : n <= i) : (List.range n).all p = true := by
 rw [List.all_eq_true] at h ⊢
 exact fun x hx => h x (List.mem_range.2 (Nat.lt_of_lt_of_le (List.mem_range.1 hx) hn))
def Qhr (s : Cu × Cu) (a b c : Int) (p q : List UInt8) : Bool := QcN s.1.e s.1.a s.1.b s.1.c s.1.p s.1.q s.1.f s.2.e s.2.a s.2.b s.2.c s.2.p s.2.q s.2.f a b c p q
def Qhq (l : List (Cu × Cu)) (a b c : Int) (p q : List UInt8) : Bool := Qee l && l.any fun s => Qhr s a b c p q
theorem Qhd {l : List (Cu × Cu)} {a b c : Int} {p q : List UInt8} {i : Nat} (hi : l.length <= i) (h : (l.take i).any (fun s => Qhr s a b c p q) = false) : Qhq l a b c p q = false := by
 rw [List.take_of_length_le hi] at h; rw [Qhq, h, Bool.and_false]
theorem Qhe {l : List (Cu × Cu)} {a b c : Int} {p q : List UInt8} (h : Qee l = false) : Qhq l a b c p q = false := by rw [Qhq, h]; rfl
theorem Qhf {l : List (Cu × Cu)} {a b c : Int} {p q : List UInt8} {i : Nat} (h : Qee l = true) (hi : i < l.length) (hp : Qhr l[i] a b c p q = true) : Qhq l a b c p q = true := by
 rw [Qhq, h, Bool.true_and]; exact List.any_eq_true.2 ⟨_, List.getElem_mem hi, hp⟩
def inC (x y : Cu) (s : Cu × Cu) : Bool := decide (Qbh s.1 x <= 0) && decide (Qbh y s.2 <= 0)
theorem QpW {x y : Cu} {s : Cu × Cu} (h1 : Qbh s.1 x <= 0) (h2 : Qbh y s.2 <= 0) : inC x y s = true := by simp [inC, h1, h2]
theorem QpV {x y : Cu} {s : Cu × Cu} (h : ¬ Qbh s.1 x <= 0 \/ ¬ Qbh y s.2 <= 0) : inC x y s = false := by
 simp only [inC, Bool.and_eq_false_iff, decide_eq_false_iff_not]; exact h
def mIn (l : List (Cu × Cu)) (x y : Cu) : Bool := l.any (inC x y)
theorem Qi7 {α : Type} {s : List α} {p : α -> Bool} {i : Nat} (h : i < s.length) (hp : p s[i] = true) : s.any p = true := List.any_eq_true.2 ⟨_, List.getElem_mem h, hp⟩
theorem Qlu {α : Type} {s : List α} {p : α -> Bool} {i : Nat} (hi : s.length <= i) (h : (s.take i).any p = false) : s.any p = false := by rwa [List.take_of_length_le hi] at h
theorem QhV {α : Type} {s : List α} {p : α -> Bool} {i : Nat} (h : i < s.length) (ha : (s.take i).any p = false) (hp : p s[i] = false) : (s.take (i + 1)).any p = false := by
 rw [List.take_succ_eq_append_getElem h, List.any_append, ha]; simp [hp]
def Qbx (x : Cu) : Bool := QgC x.e x.a x.b x.c x.p x.q x.f
def QfJ (s : List (Cu × Cu) × List (Cu × Cu)) : Bool := Qee s.1 && Qee s.2 && s.1.all fun x => Qbx x.1 && Qbx x.2
def Qk7 (s : List (Cu × Cu) × List (Cu × Cu)) (a b c : Int) (p q : List UInt8) : Bool :=
 QfJ s && QhO a b c p q && (if p = [] then Qhq s.1 a b c p q else Qhq s.2 a b c p q)
theorem QaG {s : List (Cu × Cu) × List (Cu × Cu)} (h : Qee s.1 = false \/ Qee s.2 = false) : QfJ s = false := by
 rw [QfJ]; rcases h with h | h <;> simp [h]
theorem QaF {s : List (Cu × Cu) × List (Cu × Cu)} {i : Nat} (hi : i < s.1.length) (h : Qbx s.1[i].1 = false \/ Qbx s.1[i].2 = false) : QfJ s = false := by
 have : (s.1.all fun x => Qbx x.1 && Qbx x.2) = false := XJ hi (by rcases h with h | h <;> simp [h])
 rw [QfJ, this, Bool.and_false]
theorem QdH {s : List (Cu × Cu) × List (Cu × Cu)} {i : Nat} (h1 : Qee s.1 = true) (h2 : Qee s.2 = true) (hi : s.1.length <= i) (h : (s.1.take i).all (fun x => Qbx x.1 && Qbx x.2) = true) : QfJ s = true := by
 rw [List.take_of_length_le hi] at h
 rw [QfJ, h1, h2, h]; rfl
def Qg1 (l : List Cu) : D := .sl (l.map dCu)
theorem QiK {l : List Cu} : ∀ r ∈ l.map dCu, r.length = 7 := fun r hr => by obtain ⟨x, _, rfl⟩ := List.mem_map.1 hr; rfl
theorem QnW {l : List Cu} {a b : Nat} : ∀ r ∈ ((l.map dCu).take a).drop b, r.length = 7 := fun r hr => QiK r (List.mem_of_mem_take (List.mem_of_mem_drop hr))
def Qb4 : List Cu -> Cu -> List Cu
 | [], c => [c]
 | x :: r, c => if Qbh x c < 0 then x :: Qb4 r c else if Qbh x c = 0 then x :: r else c :: x :: r
theorem Qme {l : List Cu} {c : Cu} {k : Nat} (hk : k < l.length) (h : Qbh l[k] c < 0) (hi : Qb4 l c = l.take k ++ Qb4 (l.drop k) c) : Qb4 l c = l.take (k + 1) ++ Qb4 (l.drop (k + 1)) c := by
 rw [hi, List.drop_eq_getElem_cons hk, Qb4, if_pos h, List.take_succ_eq_append_getElem hk, List.append_assoc]; rfl
theorem Qmd {l : List Cu} {c : Cu} {k : Nat} (hk : k < l.length) (h : Qbh l[k] c = 0) (hi : Qb4 l c = l.take k ++ Qb4 (l.drop k) c) : Qb4 l c = l := by
 rw [hi, List.drop_eq_getElem_cons hk, Qb4, if_neg (by omega), if_pos h, <- List.drop_eq_getElem_cons hk, List.take_append_drop]
theorem Qkk {l : List Cu} {c : Cu} {k : Nat} (h : l.length <= k \/ ∃ hk : k < l.length, ¬ Qbh l[k] c < 0 /\ Qbh l[k] c ≠ 0) (hi : Qb4 l c = l.take k ++ Qb4 (l.drop k) c) : Qb4 l c = l.take k ++ c :: l.drop k := by
 rw [hi]
 rcases h with h | ⟨hk, h1, h2⟩
 ·rw [List.drop_eq_nil_of_le h, Qb4]
 ·rw [List.drop_eq_getElem_cons hk, Qb4, if_neg h1, if_neg h2]
theorem QeZ : ∀ (l : List Cu) (c : Cu), (Qb4 l c).length <= l.length + 1
 | [], c => by simp [Qb4]
 | x :: r, c => by
  have := QeZ r c
  simp only [Qb4]
  (repeat' split) <;> simp <;> omega
theorem Qht : ∀ {l : List Cu} {c : Cu}, (∀ x ∈ l, Cu.sm x) -> Cu.sm c -> ∀ x ∈ Qb4 l c, Cu.sm x
 | [], c, _, hc, x, hx => by simp [Qb4] at hx; exact hx ▸ hc
 | y :: r, c, hl, hc, x, hx => by
  simp only [Qb4] at hx
  split at hx
  ·rcases List.mem_cons.1 hx with rfl | hx
   ·exact hl _ (by simp)
   ·exact Qht (fun z hz => hl z (by simp [hz])) hc x hx
  ·split at hx
   ·exact hl x hx
   ·rcases List.mem_cons.1 hx with rfl | hx
    ·exact hc
    ·exact hl x hx
def YS (l : List (Cu × Cu)) : List Cu := l.foldl (fun out s => Qb4 (Qb4 out s.1) s.2) [Qbv, QeL]
theorem QnJ {l : List (Cu × Cu)} {i : Nat} (h : i < l.length) : YS (l.take (i + 1)) = Qb4 (Qb4 (YS (l.take i)) l[i].1) l[i].2 := by
 rw [List.take_succ_eq_append_getElem h, YS, List.foldl_append]; rfl
theorem Qgy : ∀ (l : List (Cu × Cu)) (out : List Cu), (l.foldl (fun out s => Qb4 (Qb4 out s.1) s.2) out).length <= out.length + 2 * l.length
 | [], out => by simp
 | s :: l, out => by
  have h1 := QeZ out s.1
  have h2 := QeZ (Qb4 out s.1) s.2
  have := Qgy l (Qb4 (Qb4 out s.1) s.2)
  simp only [List.foldl_cons, List.length_cons]; omega
theorem Qb0 (l : List (Cu × Cu)) : (YS l).length <= 2 + 2 * l.length := Qgy l _
theorem Qir : ∀ {l : List (Cu × Cu)} {out : List Cu}, (∀ s ∈ l, Cu.sm s.1 /\ Cu.sm s.2) -> (∀ x ∈ out, Cu.sm x) -> ∀ x ∈ l.foldl (fun out s => Qb4 (Qb4 out s.1) s.2) out, Cu.sm x
 | [], _, _, h => h
 | s :: l, out, hl, h => by
  rw [List.foldl_cons]
  exact Qir (fun t ht => hl t (by simp [ht])) (Qht (Qht h (hl s (by simp)).1) (hl s (by simp)).2)
theorem Qkg {l : List (Cu × Cu)} (hl : ∀ s ∈ l, Cu.sm s.1 /\ Cu.sm s.2) : ∀ x ∈ YS l, Cu.sm x := Qir hl (by
 intro x hx
 simp only [List.mem_cons, List.not_mem_nil, or_false] at hx
 rcases hx with rfl | rfl <;> exact ⟨Nat.zero_le _, Nat.zero_le _⟩)
theorem QeY {l : List (Cu × Cu)} (hl : Sm l) (i : Nat) : (YS (l.take i)).length <= 2000002 /\ ∀ x ∈ YS (l.take i), Cu.sm x := by
 refine ⟨?_, Qkg fun s hs => hl.2 s (List.mem_of_mem_take hs)⟩
 have := Qb0 (l.take i)
 have h2 : (l.take i).length <= l.length := List.length_take_le' ..
 have := hl.1
 omega
def Qb2 (l : List (Cu × Cu)) (x y : Cu) : List (Cu × Cu) := match l.getLast? with
 | some s => if Qbh s.2 x = 0 then l.dropLast ++ [(s.1, y)] else l ++ [(x, y)]
 | none => l ++ [(x, y)]
theorem Qis {l : List (Cu × Cu)} {x y : Cu} {i : Nat} (hi : i + 1 = l.length) (h : Qbh (l[i]'(by omega)).2 x = 0) : Qb2 l x y = l.set i ((l[i]'(by omega)).1, y) := by
 have hg : l.getLast? = some (l[i]'(by omega)) := by
  rw [List.getLast?_eq_getElem?, show l.length - 1 = i by omega, List.getElem?_eq_getElem]
 rw [Qb2, hg]
 simp only [h, if_true]
 rw [List.dropLast_eq_take, show l.length - 1 = i by omega, List.set_eq_take_append_cons_drop, if_pos (by omega), List.drop_eq_nil_of_le (by omega)]
theorem QdD {l : List (Cu × Cu)} {x y : Cu} (h : l = [] \/ ∃ i, ∃ hi : i + 1 = l.length, Qbh (l[i]'(by omega)).2 x ≠ 0) : Qb2 l x y = l ++ [(x, y)] := by
 rcases h with rfl | ⟨i, hi, h⟩
 ·rfl
 ·have hg : l.getLast? = some (l[i]'(by omega)) := by
   rw [List.getLast?_eq_getElem?, show l.length - 1 = i by omega, List.getElem?_eq_getElem]
  rw [Qb2, hg]
  simp only [if_neg h]
theorem Qit (l : List (Cu × Cu)) (x y : Cu) : (Qb2 l x y).length <= l.length + 1 := by
 unfold Qb2
 split
 ·split
  ·simp
  ·simp
 ·simp
theorem Qkh {l : List (Cu × Cu)} {x y : Cu} (hl : ∀ s ∈ l, Cu.sm s.1 /\ Cu.sm s.2) (hx : Cu.sm x) (hy : Cu.sm y) : ∀ s ∈ Qb2 l x y, Cu.sm s.1 /\ Cu.sm s.2 := by
 intro s hs
 unfold Qb2 at hs
 split at hs
 ·rename_i t ht
  have ht' := List.mem_of_getLast? ht
  split at hs
  ·rcases List.mem_append.1 hs with hs | hs
   ·exact hl s (List.dropLast_subset _ hs)
   ·simp at hs; subst hs; exact ⟨(hl t ht').1, hy⟩
  ·rcases List.mem_append.1 hs with hs | hs
   ·exact hl s hs
   ·simp at hs; subst hs; exact ⟨hx, hy⟩
 ·rcases List.mem_append.1 hs with hs | hs
  ·exact hl s hs
  ·simp at hs; subst hs; exact ⟨hx, hy⟩
theorem Qj6 {α β : Type} {l : List α} {f : α -> β} {i : Nat} (h : i + 1 < l.length) : (l.map f)[((i : Int) + 1).toNat]? = some (f l[i + 1]) := by
 rw [show ((i : Int) + 1).toNat = i + 1 by omega, List.getElem?_map, List.getElem?_eq_getElem h]; rfl
def Qb1 (f : Cu -> Cu -> Bool) : List Cu -> List (Cu × Cu) -> List (Cu × Cu)
 | x :: y :: r, out => Qb1 f (y :: r) (if f x y = true then Qb2 out x y else out)
 | _, out => out
def Qjs (l : List (Cu × Cu)) : List (Cu × Cu) := if l.all QdE = true then Qb1 (mIn l) (YS l) [] else []
theorem Qgz {f : Cu -> Cu -> Bool} {c : List Cu} {out : List (Cu × Cu)} {i : Nat} (h : i + 1 < c.length) : Qb1 f (c.drop i) out = Qb1 f (c.drop (i + 1)) (if f c[i] c[i + 1] = true then Qb2 out c[i] c[i + 1] else out) := by
 rw [List.drop_eq_getElem_cons (show i < c.length by omega), List.drop_eq_getElem_cons h, Qb1]
theorem Ql9 {f : Cu -> Cu -> Bool} {c : List Cu} {out : List (Cu × Cu)} {i : Nat} (h : c.length <= i + 1) : Qb1 f (c.drop i) out = out := by
 have : (c.drop i).length <= 1 := by simp; omega
 match hd : c.drop i with
 | [] => rfl
 | [x] => rfl
 | x :: y :: r => rw [hd] at this; simp at this
def FillI (f : Cu -> Cu -> Bool) (c : List Cu) (i : Nat) (out : List (Cu × Cu)) : Prop :=
 out.length <= i /\ (∀ s ∈ out, Cu.sm s.1 /\ Cu.sm s.2) /\ Qb1 f c [] = Qb1 f (c.drop i) out
theorem FillI.zero {f : Cu -> Cu -> Bool} {c : List Cu} : FillI f c 0 [] := ⟨Nat.zero_le _, by simp, by simp⟩
theorem FillI.take {f : Cu -> Cu -> Bool} {c : List Cu} {i : Nat} {out : List (Cu × Cu)} (h : FillI f c i out) (hc : ∀ x ∈ c, Cu.sm x) (hi : i + 1 < c.length) (ht : f c[i] c[i + 1] = true) : FillI f c (i + 1) (Qb2 out c[i] c[i + 1]) := by
 obtain ⟨h1, h2, h3⟩ := h
 refine ⟨Nat.le_trans (Qit ..) (by omega), Qkh h2 (hc _ (List.getElem_mem _)) (hc _ (List.getElem_mem _)), ?_⟩
 rw [h3, Qgz hi, if_pos ht]
theorem FillI.skip {f : Cu -> Cu -> Bool} {c : List Cu} {i : Nat} {out : List (Cu × Cu)} (h : FillI f c i out) (hi : i + 1 < c.length) (ht : f c[i] c[i + 1] = false) : FillI f c (i + 1) out := by
 obtain ⟨h1, h2, h3⟩ := h
 exact ⟨by omega, h2, by rw [h3, Qgz hi, if_neg (by rw [ht]; simp)]⟩
theorem FillI.done {f : Cu -> Cu -> Bool} {c : List Cu} {i : Nat} {out : List (Cu × Cu)} (h : FillI f c i out) (hi : c.length <= i + 1) : Qb1 f c [] = out := by rw [h.2.2, Ql9 hi]
theorem Qm1 {i : Nat} : ((i : Int) + 1).toNat = i + 1 := by omega
theorem Yy {l : List (Cu × Cu)} (hl : Sm l) : ∀ x ∈ YS l, Cu.sm x := Qkg hl.2
def Qov (a b : List (Cu × Cu)) : List (Cu × Cu) := if Qee a = true /\ Qee b = true then Qjs (a ++ b) else []
def Qjt (a : List (Cu × Cu)) : List (Cu × Cu) := if Qee a = true then Qb1 (fun x y => !mIn a x y) (YS a) [] else []
theorem QoA {l : List (Cu × Cu)} : ∀ r ∈ l.map QeJ, r.length = 14 := fun r hr => by obtain ⟨x, _, rfl⟩ := List.mem_map.1 hr; rfl
theorem Sm.app {a b : List (Cu × Cu)} (ha : Sm a) (hb : Sm b) (h : a.length + b.length <= 1000000) : Sm (a ++ b) := by
 refine ⟨by simp; omega, fun s hs => ?_⟩
 rcases List.mem_append.1 hs with hs | hs
 ·exact ha.2 s hs
 ·exact hb.2 s hs
theorem QqA {H : List (Nat × Box)} {S : Nat -> Bool} {k n : Nat} {b : Box} (hS : S k = true) (hb : lk H k = some b) (hp : b.pr = true) (hn : n = b.rows.length) : (D.osl k n).fz H S = .sl b.rows := by
 simp only [D.fz, D.fzS, hS, hb, if_true, hp, hn, and_self]
abbrev QeP := List (Cu × Cu) × List (Cu × Cu)
def Qow (a b : QeP) : QeP := if QfJ a = true /\ QfJ b = true then (Qov a.1 b.1, Qov a.2 b.2) else ([], [])
def Qhs (a : QeP) : QeP := if QfJ a = true then (Qjt a.1, Qjt a.2) else ([], [])
def mPl (v n : Int) : Int := if n < 1 then 0 else QfK v n
theorem Qix {v n : Int} : 0 <= mPl v n := by
 unfold mPl; split
 ·omega
 ·exact QnR (by omega)
theorem Qiw {v n : Int} (h : 1 <= n) : mPl v n < n := by
 rw [mPl, if_neg (by omega)]; exact QnQ (by omega)
def Qm5 (l : List Int) (i : Int) : Int := if i < 0 \/ (l.length : Int) <= i then i.tmod 3 else l.getD i.toNat 0
theorem Ql6 {l : List Int} {i : Int} (h0 : 0 <= i) (h : i < l.length) : Qm5 l i = l[i.toNat]'(by omega) := by
 rw [Qm5, if_neg (by omega), List.getD_eq_getElem?_getD, List.getElem?_eq_getElem (by omega)]; rfl
def I64 (x : Int) : Prop := -9223372036854775808 <= x /\ x <= 9223372036854775807
theorem QnI {l : List Int} {i : Int} (hl : ∀ x ∈ l, I64 x) (hi : I64 i) : I64 (Qm5 l i) := by
 by_cases h : i < 0 \/ (l.length : Int) <= i
 ·rw [Qm5, if_pos h]
  have h1 := Int.tmod_lt_of_pos i (show (0 : Int) < 3 by omega)
  have h2 := Int.lt_tmod_of_pos i (show (0 : Int) < 3 by omega)
  exact ⟨by omega, by omega⟩
 ·rw [Ql6 (by omega) (by omega)]
  exact hl _ (List.getElem_mem _)
theorem Qf4 (x : Int) : I64 (IntKind.i64.wrap x) := by
 unfold IntKind.wrap I64
 simp only [IntKind.bits, IntKind.signed, Bool.true_and]
 split
 ·rename_i h
  have := of_decide_eq_true h
  omega
 ·rename_i h
  have : ¬ (x % 2 ^ 64 >= 2 ^ (64 - 1)) := fun hh => h (decide_eq_true hh)
  omega
theorem Qec {α : Type} {k : Nat} {v : α} {l : List (Nat × α)} : lk ((k, v) :: l) k = some v := by rw [Ql, if_pos rfl]
theorem QeX {α : Type} {k : Nat} {v : α} {l : List (Nat × α)} : (lk ((k, v) :: l) k).isSome = true := by rw [Qec]; rfl
def gB (L : List Int) (I : Int) (et : Nat) : Box := ⟨[[Zt L, .int .i64 I]], 2, et, true⟩
def nxI (I : Int) : Int := IntKind.i64.wrap (I + 1)
def nx (L : List Int) (I n : Int) : Int := mPl (Qm5 L (IntKind.i64.wrap (nxI I - 1))) n
def ZS (h m : Int) : Int := if Qai .and .i64 h m = h then 2 else if Qai .and .i64 h m = 0 then 0 else 1
def QaE (h m : Int) : Int := if Qai .andNot .i64 h m = 0 then 2 else if Qai .and .i64 h m = 0 then 0 else 1
theorem Qhx {i : Nat} (h : i <= 62) : 1 <= (2 : Int) ^ i /\ (2 : Int) ^ i <= 4611686018427387904 := by
 have h1 : (2 : Nat) ^ i <= 2 ^ 62 := Nat.pow_le_pow_right (by omega) h
 have h2 : 1 <= (2 : Nat) ^ i := Nat.one_le_two_pow
 have h3 : ((2 ^ i : Nat) : Int) = (2 : Int) ^ i := by simp
 rw [<- h3]
 have h4 : (2 : Nat) ^ 62 = 4611686018427387904 := by decide
 omega
structure Vr where
 a : Int
 b : Int
 c : Int
 p : List UInt8
 q : List UInt8
def dVr (v : Vr) : List D := [.int .i64 v.a, .int .i64 v.b, .int .i64 v.c, .str v.p, .str v.q]
def Vr.sm (v : Vr) : Prop := v.p.length <= 100 /\ v.q.length <= 100
def versions : List Vr := [⟨1, 0, 0, [], []⟩, ⟨1, 2, 0, [], []⟩, ⟨2, 0, 0, [97, 46, 49], []⟩, ⟨2, 0, 0, [], []⟩]
theorem QjN : ∀ v ∈ versions, v.sm := by
 intro v hv
 simp only [versions, List.mem_cons, List.not_mem_nil, or_false] at hv
 rcases hv with rfl | rfl | rfl | rfl <;> exact ⟨by decide, by decide⟩
theorem QdK {i : Nat} : ((i : Int) - 1).toNat = i - 1 := by omega
end M25
namespace Go.Proofs
open Go Go.Abs M3 M25
set_option linter.unusedVariables false
set_option linter.unusedSimpArgs false
theorem X9 {a b c : Int} {p q : List UInt8} : Ok Try.prog 59 [.agg [.int .i64 a, .int .i64 b, .int .i64 c, .str p, .str q]] (.agg [.int .i64 a, .int .i64 b, .int .i64 c, .str p, .str []]) := by
 refine Ok.ofT Z2 Try.func59 QrK (Nat.le_of_ble_eq_true rfl) ?_
 show TW _ _ tf59.body _ _
 refine Qe fun K hK => Zy rfl rfl rfl (ZD rfl ?_)
 refine hK _ _ (Qb (kp2 rfl rfl) ?_)
 refine Qe fun K hK => Qh rfl rfl (Q5 rfl rfl rfl rfl rfl rfl rfl rfl ?_)
 refine hK _ _ (Qb (kp2 rfl rfl) ?_)
 refine Qe fun K hK => QH (cs := [_, _, _, _, _]) rfl rfl rfl rfl (Q5 rfl rfl rfl rfl rfl rfl rfl rfl ?_)
 refine hK _ _ (Qb (kp1 rfl) ?_)
 refine Qu (ZB (cs := [_, _, _, _, _]) rfl rfl rfl rfl ?_)
 exact rfl
theorem YX  : Ok Try.prog 61 [] (.agg [.int .i64 (-1), .int .i64 0, .int .i64 0, .int .i64 0, .str [], .str [], .bool false]) := by
 refine Ok.ofT Z2 Try.func61 QrM (Nat.le_of_ble_eq_true rfl) ?_
 show TW _ _ tf61.body _ _
 refine Qe fun K hK => ZD rfl ?_
 refine hK _ _ (Qb (kp1 rfl) ?_)
 refine Qe fun K hK => QT rfl rfl (Q5 rfl rfl rfl rfl rfl rfl rfl rfl ?_)
 refine hK _ _ (Qb (kp1 rfl) ?_)
 refine Qu (ZB (cs := [_, _, _, _, _, _, _]) rfl rfl rfl rfl ?_)
 exact rfl
theorem Y8  : Ok Try.prog 63 [] (.agg [.int .i64 1, .int .i64 0, .int .i64 0, .int .i64 0, .str [], .str [], .bool false]) := by
 refine Ok.ofT Z2 Try.func63 QrO (Nat.le_of_ble_eq_true rfl) ?_
 show TW _ _ tf63.body _ _
 refine Qe fun K hK => ZD rfl ?_
 refine hK _ _ (Qb (kp1 rfl) ?_)
 refine Qe fun K hK => QT rfl rfl (Q5 rfl rfl rfl rfl rfl rfl rfl rfl ?_)
 refine hK _ _ (Qb (kp1 rfl) ?_)
 refine Qu (ZB (cs := [_, _, _, _, _, _, _]) rfl rfl rfl rfl ?_)
 exact rfl
theorem YJ {a b c : Int} {p q : List UInt8} : Ok Try.prog 37 [.agg [.int .i64 a, .int .i64 b, .int .i64 c, .str p, .str q]] (.agg [.int .i64 0, .int .i64 a, .int .i64 b, .int .i64 c, .str p, .str [], .bool false]) := by
 refine Ok.ofT Z2 Try.func37 Qro (Nat.le_of_ble_eq_true rfl) ?_
 show TW _ _ tf37.body _ _
 refine Qe fun K hK => Zy rfl rfl rfl (ZD rfl ?_)
 refine hK _ _ (Qb (kp2 rfl rfl) ?_)
 refine Qe fun K hK => QH (cs := [_, _, _, _, _]) rfl rfl rfl rfl (QG (X9) rfl rfl (.inl rfl) (QT rfl rfl (Q5 rfl rfl rfl rfl rfl rfl rfl rfl ?_)))
 refine hK _ _ (Qb (kp1 rfl) ?_)
 refine Qu (ZB (cs := [_, _, _, _, _, _, _]) rfl rfl rfl rfl ?_)
 exact rfl
theorem QbM {a b c : Int} {p q : List UInt8} : Ok Try.prog 38 [.agg [.int .i64 a, .int .i64 b, .int .i64 c, .str p, .str q]] (.agg [.int .i64 0, .int .i64 a, .int .i64 b, .int .i64 c, .str p, .str [], .bool true]) := by
 refine Ok.ofT Z2 Try.func38 Qrp (Nat.le_of_ble_eq_true rfl) ?_
 show TW _ _ tf38.body _ _
 refine Qe fun K hK => Zy rfl rfl rfl (ZD rfl ?_)
 refine hK _ _ (Qb (kp2 rfl rfl) ?_)
 refine Qe fun K hK => QH (cs := [_, _, _, _, _]) rfl rfl rfl rfl (QG (X9) rfl rfl (.inl rfl) (QT rfl rfl (Q5 rfl rfl rfl rfl rfl rfl rfl rfl ?_)))
 refine hK _ _ (Qb (kp1 rfl) ?_)
 refine Qu (ZB (cs := [_, _, _, _, _, _, _]) rfl rfl rfl rfl ?_)
 exact rfl
theorem XS {a b c : Int} {p q : List UInt8} : Ok Try.prog 60 [.agg [.int .i64 a, .int .i64 b, .int .i64 c, .str p, .str q]] (.bool (QgA a b c)) := by
 refine Ok.ofT Z2 Try.func60 QrL (Nat.le_of_ble_eq_true rfl) ?_
 show TW _ _ tf60.body _ _
 refine Qe fun K hK => Zy rfl rfl rfl (Qa rfl ?_)
 refine hK _ _ (Qb (kp1 rfl) ?_)
 refine Qe fun K hK => Qh rfl rfl (Qz rfl rfl rfl (ZH rfl rfl (Qa rfl ?_)))
 refine QF (g := 6) rfl (fun h1 => ?_) (fun h1 => ?_)
 ·try rw [h1]
  try simp only [qa, qb, qc, qd, qe] at h1
  refine Qk rfl (Qh rfl rfl (Qk rfl (Qz rfl rfl rfl (Qk rfl (ZH rfl rfl (Qn rfl rfl (Qa rfl ?_)))))))
  refine QF (g := 11) rfl (fun h2 => ?_) (fun h2 => ?_)
  ·try rw [h2]
   try simp only [qa, qb, qc, qd, qe] at h2
   refine Qk rfl (Qh rfl rfl (Qk rfl (Qz rfl rfl rfl (Qk rfl (ZH rfl rfl (Qn rfl rfl (Qa rfl ?_)))))))
   refine hK _ _ (Qb (kp1 rfl) ?_)
   refine Qu (Qs rfl ?_)
   simp_all [QgA]
  ·try rw [h2]
   try simp only [qa, qb, qc, qd, qe] at h2
   refine Qt rfl (Qt rfl (Qt rfl (Qn rfl rfl (Qa rfl ?_))))
   refine hK _ _ (Qb (kp1 rfl) ?_)
   refine Qu (Qs rfl ?_)
   simp_all [QgA]
 ·try rw [h1]
  try simp only [qa, qb, qc, qd, qe] at h1
  refine Qt rfl (Qt rfl (Qt rfl (Qn rfl rfl (Qa rfl (Qt rfl (Qt rfl (Qt rfl (Qn rfl rfl (Qa rfl ?_)))))))))
  refine hK _ _ (Qb (kp1 rfl) ?_)
  refine Qu (Qs rfl ?_)
  simp_all [QgA]
end Go.Proofs
namespace Go.Proofs
open Go Go.Abs M3 M25
set_option linter.unusedVariables false
set_option linter.unusedSimpArgs false
theorem QcU {a b c : Int} {p q : List UInt8} (hp : p.length <= 1000000) (hq : q.length <= 1000000) {part : Int} : Ok Try.prog 80 [.agg [.int .i64 a, .int .i64 b, .int .i64 c, .str p, .str q], .int .i64 part] (dOV (XY a b c p q part)) := by
 refine Ok.ofT Z2 Try.func80 Qr5 (Nat.le_of_ble_eq_true rfl) ?_
 show TW _ _ tf80.body _ _
 refine Qe fun K hK => Zy rfl rfl rfl (ZD rfl (Qa rfl ?_))
 refine hK _ _ (Qb (kp3 rfl rfl rfl) ?_)
 refine QC ?_ -- 0
 refine Qe fun K hK => QH (cs := [_, _, _, _, _]) rfl rfl rfl rfl (QG (Zf (by omega) (by omega)) rfl rfl (.inr rfl) (Yi rfl (Qa rfl ?_)))
 refine QF (g := 10) rfl (fun h1 => ?_) (fun h1 => ?_)
 ·try rw [h1]
  try simp only [qa, qb, qc, qd, qe] at h1
  refine Qt rfl (Qt rfl (Qn rfl rfl (Qa rfl (Qt rfl (Qt rfl (Qn rfl rfl ?_))))))
  refine hK _ _ (Qb (kp4 rfl rfl rfl rfl) ?_)
  refine Zv rfl (Qe fun K hK => QT rfl rfl (Q5 rfl rfl rfl rfl rfl rfl rfl rfl (Qa rfl ?_)))
  refine hK _ _ (Qb (kp2 rfl rfl) ?_)
  refine Qu (Qi (Post.eq (Xz (ds := [.int .i64 _, .int .i64 _, .int .i64 _, .str _, .str _]) (d' := .bool _) (cs := [_, _, _, _, _]) rfl rfl rfl rfl rfl ⟨rfl, rfl⟩) ?_))
  first | (simp [XY, dOV, h1]; done) | (simp_all [XY, dOV]; done)
 ·try rw [h1]
  try simp only [qa, qb, qc, qd, qe] at h1
  refine Qk rfl (Qa rfl (Qk rfl (Yb rfl rfl (Qn rfl rfl (Qa rfl ?_)))))
  refine QF (g := 14) rfl (fun h2 => ?_) (fun h2 => ?_)
  ·try rw [h2]
   try simp only [qa, qb, qc, qd, qe] at h2
   refine Qt rfl (Qt rfl (Qn rfl rfl ?_))
   refine hK _ _ (Qb (kp4 rfl rfl rfl rfl) ?_)
   refine Zv rfl (Qe fun K hK => QT rfl rfl (Q5 rfl rfl rfl rfl rfl rfl rfl rfl (Qa rfl ?_)))
   refine hK _ _ (Qb (kp2 rfl rfl) ?_)
   refine Qu (Qi (Post.eq (Xz (ds := [.int .i64 _, .int .i64 _, .int .i64 _, .str _, .str _]) (d' := .bool _) (cs := [_, _, _, _, _]) rfl rfl rfl rfl rfl ⟨rfl, rfl⟩) ?_))
   first | (simp [XY, dOV, h1, h2]; done) | (simp_all [XY, dOV]; done)
  ·try rw [h2]
   try simp only [qa, qb, qc, qd, qe] at h2
   refine Qk rfl (Qa rfl (Qk rfl (Qi1 rfl rfl (Qn rfl rfl ?_))))
   refine hK _ _ (Qb (kp4 rfl rfl rfl rfl) ?_)
   refine Qw rfl (fun h3 => ?_) (fun h3 => ?_)
   ·try rw [h3]
    try simp only [qa, qb, qc, qd, qe] at h3
    refine Qe fun K hK => QT rfl rfl (Q5 rfl rfl rfl rfl rfl rfl rfl rfl (Qa rfl ?_))
    refine hK _ _ (Qb (kp2 rfl rfl) ?_)
    refine Qu (Qi (Post.eq (Xz (ds := [.int .i64 _, .int .i64 _, .int .i64 _, .str _, .str _]) (d' := .bool _) (cs := [_, _, _, _, _]) rfl rfl rfl rfl rfl ⟨rfl, rfl⟩) ?_))
    first | (simp [XY, dOV, h1, h2, h3]; done) | (simp_all [XY, dOV]; done)
   ·try rw [h3]
    try simp only [qa, qb, qc, qd, qe] at h3
    refine Qv (Qd (kp3 rfl rfl rfl) (Qe fun K hK => ZD rfl ?_))
    refine hK _ _ (Qb (kp4 rfl rfl rfl rfl) ?_)
    refine QC ?_ -- 1
    refine Qe fun K hK => Qa rfl ?_
    refine hK _ _ (Qb (kp4 rfl rfl rfl rfl) ?_)
    refine QA (Qe fun K hK => ZH rfl rfl (Qa rfl ?_))
    refine hK _ _ (Qb (kp5 rfl rfl rfl rfl rfl) ?_)
    refine Qw rfl (fun h4 => ?_) (fun h4 => ?_)
    ·try rw [h4]
     try simp only [qa, qb, qc, qd, qe] at h4
     refine QN fun K hK => Qh rfl rfl (Qz rfl rfl rfl (Q3 rfl rfl (Qp (by have := Qcl (by simpa using h1); omega) (by have := Qcl (by simpa using h1); omega)) (QT rfl rfl (Q5 rfl rfl rfl rfl rfl rfl rfl rfl (hK _ ?_)))))
     refine Qg (Qd (kp2 rfl rfl) ?_)
     refine QC ?_ -- 2
     refine Qe fun K hK => QH (cs := [_, _, _, _, _]) rfl rfl rfl rfl (QG (Zf (by simp) (by simp)) rfl rfl (.inr rfl) (Yi rfl ?_))
     refine hK _ _ (Qb (kp3 rfl rfl rfl) ?_)
     refine Qw rfl (fun h5 => ?_) (fun h5 => ?_)
     ·try rw [h5]
      try simp only [qa, qb, qc, qd, qe] at h5
      refine Qe fun K hK => QT rfl rfl (Q5 rfl rfl rfl rfl rfl rfl rfl rfl (Qa rfl ?_))
      refine hK _ _ (Qb (kp2 rfl rfl) ?_)
      refine Qu (Qi (Post.eq (Xz (ds := [.int .i64 _, .int .i64 _, .int .i64 _, .str _, .str _]) (d' := .bool _) (cs := [_, _, _, _, _]) rfl rfl rfl rfl rfl ⟨rfl, rfl⟩) ?_))
      first | (simp [XY, dOV, h1, h2, h3, h4, h5]; done) | (simp_all [XY, dOV]; done)
     ·try rw [h5]
      try simp only [qa, qb, qc, qd, qe] at h5
      refine Qv (Qd (kp2 rfl rfl) (Qe fun K hK => QH (cs := [_, _, _, _, _]) rfl rfl rfl rfl (Q5 rfl rfl rfl rfl rfl rfl rfl rfl (Qa rfl ?_))))
      refine hK _ _ (Qb (kp2 rfl rfl) ?_)
      refine Qu (Post.eq (Xz (ds := [.int .i64 _, .int .i64 _, .int .i64 _, .str _, .str _]) (d' := .bool _) (cs := [_, _, _, _, _]) rfl rfl rfl rfl rfl ⟨rfl, rfl⟩) ?_)
      first | (simp [XY, dOV, h1, h2, h3, h4, h5]; done) | (simp_all [XY, dOV]; done)
    ·try rw [h4]
     try simp only [qa, qb, qc, qd, qe] at h4
     refine Qe fun K hK => ZH rfl rfl (Qa rfl ?_)
     refine hK _ _ (Qb (kp4 rfl rfl rfl rfl) ?_)
     refine Qw rfl (fun h6 => ?_) (fun h6 => ?_)
     ·try rw [h6]
      try simp only [qa, qb, qc, qd, qe] at h6
      refine QN fun K hK => Qh rfl rfl (Qz rfl rfl rfl (Qh rfl rfl (Qz rfl rfl rfl (Q3 rfl rfl (Qp (by have := Qcl (by simpa using h1); omega) (by have := Qcl (by simpa using h1); omega)) (QT rfl rfl (Q5 rfl rfl rfl rfl rfl rfl rfl rfl (hK _ ?_)))))))
      refine Qg (Qd (kp2 rfl rfl) ?_)
      refine QC ?_ -- 2
      refine Qe fun K hK => QH (cs := [_, _, _, _, _]) rfl rfl rfl rfl (QG (Zf (by simp) (by simp)) rfl rfl (.inr rfl) (Yi rfl ?_))
      refine hK _ _ (Qb (kp3 rfl rfl rfl) ?_)
      refine Qw rfl (fun h7 => ?_) (fun h7 => ?_)
      ·try rw [h7]
       try simp only [qa, qb, qc, qd, qe] at h7
       refine Qe fun K hK => QT rfl rfl (Q5 rfl rfl rfl rfl rfl rfl rfl rfl (Qa rfl ?_))
       refine hK _ _ (Qb (kp2 rfl rfl) ?_)
       refine Qu (Qi (Post.eq (Xz (ds := [.int .i64 _, .int .i64 _, .int .i64 _, .str _, .str _]) (d' := .bool _) (cs := [_, _, _, _, _]) rfl rfl rfl rfl rfl ⟨rfl, rfl⟩) ?_))
       first | (simp [XY, dOV, h1, h2, h3, h4, h6, h7]; done) | (simp_all [XY, dOV]; done)
      ·try rw [h7]
       try simp only [qa, qb, qc, qd, qe] at h7
       refine Qv (Qd (kp2 rfl rfl) (Qe fun K hK => QH (cs := [_, _, _, _, _]) rfl rfl rfl rfl (Q5 rfl rfl rfl rfl rfl rfl rfl rfl (Qa rfl ?_))))
       refine hK _ _ (Qb (kp2 rfl rfl) ?_)
       refine Qu (Post.eq (Xz (ds := [.int .i64 _, .int .i64 _, .int .i64 _, .str _, .str _]) (d' := .bool _) (cs := [_, _, _, _, _]) rfl rfl rfl rfl rfl ⟨rfl, rfl⟩) ?_)
       first | (simp [XY, dOV, h1, h2, h3, h4, h6, h7]; done) | (simp_all [XY, dOV]; done)
     ·try rw [h6]
      try simp only [qa, qb, qc, qd, qe] at h6
      refine QN fun K hK => Qh rfl rfl (Qz rfl rfl rfl (Qh rfl rfl (Qz rfl rfl rfl (Qh rfl rfl (Qz rfl rfl rfl (Q3 rfl rfl (Qp (by have := Qcl (by simpa using h1); omega) (by have := Qcl (by simpa using h1); omega)) (QT rfl rfl (Q5 rfl rfl rfl rfl rfl rfl rfl rfl (hK _ ?_)))))))))
      refine Qg (Qd (kp2 rfl rfl) ?_)
      refine QC ?_ -- 2
      refine Qe fun K hK => QH (cs := [_, _, _, _, _]) rfl rfl rfl rfl (QG (Zf (by simp) (by simp)) rfl rfl (.inr rfl) (Yi rfl ?_))
      refine hK _ _ (Qb (kp3 rfl rfl rfl) ?_)
      refine Qw rfl (fun h8 => ?_) (fun h8 => ?_)
      ·try rw [h8]
       try simp only [qa, qb, qc, qd, qe] at h8
       refine Qe fun K hK => QT rfl rfl (Q5 rfl rfl rfl rfl rfl rfl rfl rfl (Qa rfl ?_))
       refine hK _ _ (Qb (kp2 rfl rfl) ?_)
       refine Qu (Qi (Post.eq (Xz (ds := [.int .i64 _, .int .i64 _, .int .i64 _, .str _, .str _]) (d' := .bool _) (cs := [_, _, _, _, _]) rfl rfl rfl rfl rfl ⟨rfl, rfl⟩) ?_))
       first | (simp [XY, dOV, h1, h2, h3, h4, h6, h8]; done) | (simp_all [XY, dOV]; done)
      ·try rw [h8]
       try simp only [qa, qb, qc, qd, qe] at h8
       refine Qv (Qd (kp2 rfl rfl) (Qe fun K hK => QH (cs := [_, _, _, _, _]) rfl rfl rfl rfl (Q5 rfl rfl rfl rfl rfl rfl rfl rfl (Qa rfl ?_))))
       refine hK _ _ (Qb (kp2 rfl rfl) ?_)
       refine Qu (Post.eq (Xz (ds := [.int .i64 _, .int .i64 _, .int .i64 _, .str _, .str _]) (d' := .bool _) (cs := [_, _, _, _, _]) rfl rfl rfl rfl rfl ⟨rfl, rfl⟩) ?_)
       first | (simp [XY, dOV, h1, h2, h3, h4, h6, h8]; done) | (simp_all [XY, dOV]; done)
theorem QcV {a b c : Int} {p q : List UInt8} (hp : p.length <= 1000000) (hq : q.length <= 1000000) : Ok Try.prog 62 [.agg [.int .i64 a, .int .i64 b, .int .i64 c, .str p, .str q]] (dOV (Qiv a b c p q)) := by
 refine Ok.ofT Z2 Try.func62 QrN (Nat.le_of_ble_eq_true rfl) ?_
 show TW _ _ tf62.body _ _
 refine Qe fun K hK => Zy rfl rfl rfl (ZD rfl (Qa rfl ?_))
 refine hK _ _ (Qb (kp2 rfl rfl) ?_)
 refine QC ?_ -- 0
 refine Qe fun K hK => QH (cs := [_, _, _, _, _]) rfl rfl rfl rfl (QG (Zf (by omega) (by omega)) rfl rfl (.inr rfl) (Yi rfl ?_))
 refine hK _ _ (Qb (kp3 rfl rfl rfl) ?_)
 refine Qw rfl (fun h1 => ?_) (fun h1 => ?_)
 ·try rw [h1]
  try simp only [qa, qb, qc, qd, qe] at h1
  refine Qe fun K hK => QT rfl rfl (Q5 rfl rfl rfl rfl rfl rfl rfl rfl (Qa rfl ?_))
  refine hK _ _ (Qb (kp2 rfl rfl) ?_)
  refine Qu (Qi (Post.eq (Xz (ds := [.int .i64 _, .int .i64 _, .int .i64 _, .str _, .str _]) (d' := .bool _) (cs := [_, _, _, _, _]) rfl rfl rfl rfl rfl ⟨rfl, rfl⟩) ?_))
  simp [Qiv, dOV, h1]
 ·try rw [h1]
  try simp only [qa, qb, qc, qd, qe] at h1
  refine Qv (Qd (kp2 rfl rfl) ?_)
  refine QC ?_ -- 1
  refine Qe fun K hK => Qh rfl rfl (Qz rfl rfl rfl (Qna rfl rfl ?_))
  refine hK _ _ (Qb (kp3 rfl rfl rfl) ?_)
  refine Qw rfl (fun h2 => ?_) (fun h2 => ?_)
  ·try rw [h2]
   try simp only [qa, qb, qc, qd, qe] at h2
   refine Qe fun K hK => Qh rfl rfl (Qz rfl rfl rfl (Qh rfl rfl (Qz rfl rfl rfl (Qh rfl rfl (Qz rfl rfl rfl (QT rfl rfl (Q5 rfl rfl rfl rfl rfl rfl rfl rfl (Qa rfl ?_))))))))
   refine hK _ _ (Qb (kp2 rfl rfl) ?_)
   refine Qu (Qi (Post.eq (Xz (ds := [.int .i64 _, .int .i64 _, .int .i64 _, .str _, .str _]) (d' := .bool _) (cs := [_, _, _, _, _]) rfl rfl rfl rfl rfl ⟨rfl, rfl⟩) ?_))
   simp [Qiv, dOV, h1, h2]
  ·try rw [h2]
   try simp only [qa, qb, qc, qd, qe] at h2
   refine Qv (Qd (kp2 rfl rfl) ?_)
   refine QC ?_ -- 2
   refine Qe fun K hK => Qa rfl ?_
   refine hK _ _ (Qb (kp3 rfl rfl rfl) ?_)
   refine QA ?_
   refine Zq (ι := Nat) (fun m => ⟨[(1, .ref 1 0 0), (2, .ref 2 0 0), (4, .int .i64 ((m : Int) - 1))], [(1, ⟨[[.int .i64 a, .int .i64 b, .int .i64 c, .str p, .str q]], 5, 50, true⟩), (2, ⟨[[.int .i64 0, .int .i64 0, .int .i64 0, .str [], .str []]], 5, 50, true⟩)]⟩) (fun m => m <= 3 /\ XB a b c p q 3 = XB a b c p q m) (fun m => m) 3 ?_ ?_ ?_
   ·exact Q7 (l := [1, 2, 4]) (lH := [1, 2]) (kp3 rfl rfl rfl) (Qf rfl (Qf rfl Qo)) rfl rfl rfl
   ·exact ⟨by omega, rfl⟩
   intro m hI
   obtain ⟨hI1, hI2⟩ := hI
   try dsimp only
   refine QC ?_ -- 3
   refine Qe fun K hK => Qa rfl (Qew rfl rfl ?_)
   refine hK _ _ (Qb (kp4 rfl rfl rfl rfl) ?_)
   refine Qw rfl (fun h3 => ?_) (fun h3 => ?_)
   ·try rw [h3]
    try simp only [qa, qb, qc, qd, qe] at h3
    rcases Nat.eq_zero_or_pos m with hm | hm <;> first | omega | skip
    refine Qv (Qd (kp3 rfl rfl rfl) ?_)
    refine QC ?_ -- 4
    refine QA (Qe fun K hK => QH (cs := [_, _, _, _, _]) rfl rfl rfl rfl (Qa rfl (QG (QcU (by omega) (by omega)) rfl rfl (.inl rfl) (Qa rfl (QP rfl rfl (QP rfl rfl (ZD rfl (Q5 rfl rfl rfl rfl rfl rfl rfl rfl (Qa rfl ?_)))))))))
    refine hK _ _ (Qb (kp5 rfl rfl rfl rfl rfl) ?_)
    refine Qe fun K hK => Qa rfl ?_
    refine hK _ _ (Qb (kp5 rfl rfl rfl rfl rfl) ?_)
    refine Qw rfl (fun h4 => ?_) (fun h4 => ?_)
    ·try rw [h4]
     try simp only [qa, qb, qc, qd, qe] at h4
     refine Qe fun K hK => QH (cs := [_, _, _, _, _]) rfl rfl rfl rfl (Q5 rfl rfl rfl rfl rfl rfl rfl rfl (Qa rfl ?_))
     refine hK _ _ (Qb (kp2 rfl rfl) ?_)
     refine Qu (Qr (Qi (QZ (Qr (Qi (Post.eq (Xz (ds := [.int .i64 _, .int .i64 _, .int .i64 _, .str _, .str _]) (d' := .bool _) (cs := [_, _, _, _, _]) rfl rfl rfl rfl rfl ⟨rfl, rfl⟩) ?_))))))
     subst h2
     simp [Qiv, dOV, h1, hI2, QhZ hm h4, h4]
    ·try rw [h4]
     try simp only [qa, qb, qc, qd, qe] at h4
     refine Qv (Qg (Qd (kp3 rfl rfl rfl) (QN fun K hK => Qa rfl (QaA rfl rfl (by first | exact Qp (by omega) (by omega) | rfl) (Qa rfl (hK _ ?_))))))
     refine Qj (m - 1) ?_ ?_ ?_
     ·refine Q7 (l := [1, 2, 4]) (lH := [1, 2]) (kp3 rfl rfl rfl) (Qf rfl (Qf rfl Qo)) ?_ rfl rfl; simp only [List.cons.injEq, Prod.mk.injEq, D.int.injEq, and_true, true_and]; omega
     ·exact ⟨by omega, by rw [hI2]; exact Qi9 hm h4⟩
     ·show m - 1 < m; omega
   ·try rw [h3]
    try simp only [qa, qb, qc, qd, qe] at h3
    rcases Nat.eq_zero_or_pos m with hm | hm <;> first | omega | skip
    refine Zi (QM (Qy (QI (Qd (kp1 rfl) (Qe fun K hK => QT rfl rfl (Q5 rfl rfl rfl rfl rfl rfl rfl rfl (Qa rfl ?_)))))))
    refine hK _ _ (Qb (kp2 rfl rfl) ?_)
    refine Qu (Post.eq (Xz (ds := [.int .i64 _, .int .i64 _, .int .i64 _, .str _, .str _]) (d' := .bool _) (cs := [_, _, _, _, _]) rfl rfl rfl rfl rfl ⟨rfl, rfl⟩) ?_)
    subst h2
    subst hm
    have hb : XB a b c [] q 3 = none := hI2
    simp [Qiv, dOV, h1, hb]
end Go.Proofs
